/- Part 5 of what the proof stands on. -/
import Derived.Test.YtbciobiiejpdgaaGreatDoorMED
import Derived.DataElems
import Derived.Lib.LazyBuf
import Derived.WideMake
set_option linter.unusedVariables false
set_option linter.unusedSimpArgs false
namespace Pat
open Go Gk Pt
def barsGo:List UInt8->Int->Int->List Int->List Int
 | [],_,_,out=>out
 | c::r,i,d,out =>
  if c.toNat=92 then (match r with | []=>out | _::r'=>barsGo r' (i+2) d out)
  else if c.toNat=40 then barsGo r (i+1) (d+1) out
  else if c.toNat=124 then barsGo r (i+1) d (if d=1 then out ++ [i] else out)
  else if c.toNat=41 then (if d - 1=0 then out ++ [i] else barsGo r (i+1) (d - 1) out)
  else barsGo r (i+1) d out
theorem Xc4 (i d:Int) (out:List Int):barsGo [] i d out=out:=by rw [barsGo.eq_def]
theorem Xn (c:UInt8) (r:List UInt8) (i d:Int) (out:List Int):barsGo (c::r) i d out =
  if c.toNat=92 then (match r with | []=>out | _::r'=>barsGo r' (i+2) d out)
  else if c.toNat=40 then barsGo r (i+1) (d+1) out
  else if c.toNat=124 then barsGo r (i+1) d (if d=1 then out ++ [i] else out)
  else if c.toNat=41 then (if d - 1=0 then out ++ [i] else barsGo r (i+1) (d - 1) out)
  else barsGo r (i+1) d out:=by rw [barsGo.eq_def]
theorem X13 {c:UInt8} (h1:c≠92) (h2:c≠40) (h3:c≠124) (h4:c≠41) (r:List UInt8) (i d:Int) (out:List Int):barsGo (c::r) i d out=barsGo r (i+1) d out:=by
 rw [Xn,if_neg (show ¬ c.toNat=92 from X2q h1),if_neg (show ¬ c.toNat=40 from X2q h2),if_neg (show ¬ c.toNat=124 from X2q h3),if_neg (show ¬ c.toNat=41 from X2q h4)]
theorem Xnq {t:List UInt8} {b:Pt} (h:Rep t b):∀ (rest:List UInt8) (i d:Int) (out:List Int),2<=d->barsGo (t ++ rest) i d out=barsGo rest (i+t.length) d out:=by
 induction h with
 | nil=>intro rest i d out _; simp
 | @one l p _ ih=>intro rest i d out hd; rw [Ys,X13 (by decide) (by decide) (by decide) (by decide),ih _ _ _ _ hd]; congr 1; simp; omega
 | @all l p _ ih=>intro rest i d out hd; rw [Ys,Ys,X13 (by decide) (by decide) (by decide) (by decide),X13 (by decide) (by decide) (by decide) (by decide),ih _ _ _ _ hd]; congr 1; simp; omega
 | @few l p _ _ ih=>intro rest i d out hd; rw [Ys,X13 (by decide) (by decide) (by decide) (by decide),ih _ _ _ _ hd]; congr 1; simp; omega
 | @bar l p _ ih =>
  intro rest i d out hd;rw [Ys,Xn,if_neg (by decide),if_neg (by decide),if_pos (by decide),if_neg (by omega),ih _ _ _ _ hd]; congr 1; simp; omega
 | @esc l p c _ ih =>
  intro rest i d out hd;rw [Ys,Ys,Xn,if_pos (by decide)];simp only
  rw [ih _ _ _ _ hd]; congr 1; simp; omega
 | @byte l p c h1 h2 h3 h4 h5 h6 _ ih=>intro rest i d out hd; rw [Ys,X13 h6 h3 h4 h5,ih _ _ _ _ hd]; congr 1; simp; omega
 | @grp t l b p _ _ ihb ih =>
  intro rest i d out hd;rw [Ys,Yd,Ys,Xn,if_neg (by decide),if_pos (by decide),ihb _ _ _ _ (by omega),Xn,if_neg (by decide),if_neg (by decide),if_neg (by decide),if_pos (by decide),if_neg (by omega),show d+1 - 1=d by omega,ih _ _ _ _ hd]
  congr 1; simp; omega
inductive Alts:List UInt8->Pt->Int->List Int->Prop
 | last {t b} (i:Int):Rep t b->b.flat->Alts t b i []
 | more {t1 b1 t2 b2 ps} (i:Int):Rep t1 b1->b1.flat->Alts t2 b2 (i+t1.length+1) ps->Alts (t1 ++ 124::t2) (b1.app (.bar b2)) i ((i+t1.length)::ps)
theorem Xri {t:List UInt8} {b:Pt} {i:Int} {ps:List Int} (h:Alts t b i ps):ps.length<=t.length:=by
 induction h with
 | last=>simp
 | more _ _ _ _ ih=>simp; omega
theorem Alts.pre {x t:List UInt8} {b:Pt} {i:Int} {ps:List Int} {f:Pt->Pt} (hf:∀ p,p.flat->(f p).flat) (hfa:∀ p q,f (p.app q)=(f p).app q) (h:Alts t b (i+x.length) ps) (hp:∀ {t1 p},(t1.head?=some 42->t.head?=some 42)->Rep t1 p->Rep (x ++ t1) (f p)):Alts (x ++ t) (f b) i ps:=by
 cases h with
 | last _ h1 h2=>exact .last i (hp (fun h=>h) h1) (hf _ h2)
 | @more t1 b1 t2 b2 ps _ h1 h2 h3 =>
  rw [<- Yd,hfa];have e:i+(x.length:Int)+(t1.length:Int)=i+((x ++ t1).length:Int):=by simp; omega
  rw [e] at h3 ⊢;refine .more i (hp ?_ h1) (hf _ h2) h3;intro e;cases t1 with
  | nil=>simp at e
  | cons y t1=>simpa using e
theorem alts {t:List UInt8} {b:Pt} (h:Rep t b):∀ (i:Int),∃ ps,Alts t b i ps/\∀ (rest:List UInt8) (out:List Int),barsGo (t ++ rest) i 1 out=barsGo rest (i+t.length) 1 (out ++ ps):=by
 induction h with
 | nil=>intro i; exact ⟨[],.last i .nil trivial,fun rest out=>by simp⟩
 | @one l p _ ih =>
  intro i;obtain ⟨ps,h1,h2⟩:=ih (i+1);refine ⟨ps,Alts.pre (x:=[63]) (f:=.lit 1 0) (fun _ h=>h) (fun _ _=>rfl) h1 (fun _ h=>.one h),fun rest out=>?_⟩;rw [Ys,X13 (by decide) (by decide) (by decide) (by decide),h2]; congr 1; simp; omega
 | @all l p _ ih =>
  intro i;obtain ⟨ps,h1,h2⟩:=ih (i+2);refine ⟨ps,Alts.pre (x:=[42,42]) (f:=.lit 2 0) (fun _ h=>h) (fun _ _=>rfl) h1 (fun _ h=>.all h),fun rest out=>?_⟩;rw [Ys,Ys,X13 (by decide) (by decide) (by decide) (by decide),X13 (by decide) (by decide) (by decide) (by decide),show i+1+1=i+2 by omega,h2]; congr 1; simp; omega
 | @few l p hl _ ih =>
  intro i;obtain ⟨ps,h1,h2⟩:=ih (i+1);refine ⟨ps,Alts.pre (x:=[42]) (f:=.lit 3 0) (fun _ h=>h) (fun _ _=>rfl) h1 (fun hd h=>.few (fun e=>hl (hd e)) h),fun rest out=>?_⟩;rw [Ys,X13 (by decide) (by decide) (by decide) (by decide),h2]; congr 1; simp; omega
 | @bar l p _ ih =>
  intro i;obtain ⟨ps,h1,h2⟩:=ih (i+1);refine ⟨i::ps,?_,fun rest out=>?_⟩
  ·have h3:=Alts.more (t1:=[]) i .nil trivial (by simpa using h1);simpa [Pt.app] using h3
  ·rw [Ys,Xn,if_neg (by decide),if_neg (by decide),if_pos (by decide),if_pos rfl,h2,Yd]; congr 1; simp; omega
 | @esc l p c _ ih =>
  intro i;obtain ⟨ps,h1,h2⟩:=ih (i+2);refine ⟨ps,Alts.pre (x:=[92,c]) (f:=.lit 0 (c.toNat:Int)) (fun _ h=>h) (fun _ _=>rfl) h1 (fun _ h=>.esc c h),fun rest out=>?_⟩;rw [Ys,Ys,Xn,if_pos (by decide)];simp only
  rw [h2]; congr 1; simp; omega
 | @byte l p c k1 k2 k3 k4 k5 k6 _ ih =>
  intro i;obtain ⟨ps,h1,h2⟩:=ih (i+1);refine ⟨ps,Alts.pre (x:=[c]) (f:=.lit 0 (c.toNat:Int)) (fun _ h=>h) (fun _ _=>rfl) h1 (fun _ h=>.byte c k1 k2 k3 k4 k5 k6 h),fun rest out=>?_⟩;rw [Ys,X13 k6 k3 k4 k5,h2]; congr 1; simp; omega
 | @grp t l b p hb _ _ ih =>
  intro i;have e:i+((40::(t ++ [41])).length:Int)=i+1+t.length+1:=by simp; omega
  obtain ⟨ps,h1,h2⟩:=ih (i+1+t.length+1);refine ⟨ps,?_,fun rest out=>?_⟩
  ·have h3:=Alts.pre (x:=40::(t ++ [41])) (f:=.grp b) (fun _ h=>h) (fun _ _=>rfl) (by rw [e]; exact h1) (fun {t1 p1} _ h=>by have:=Rep.grp hb h; simpa using this);simpa using h3
  ·rw [Ys,Yd,Ys,Xn,if_neg (by decide),if_pos (by decide),Xnq hb _ _ _ _ (by omega),Xn,if_neg (by decide),if_neg (by decide),if_neg (by decide),if_pos (by decide),if_neg (by omega),show (1:Int)+1 - 1=1 by omega,h2]
   congr 1; simp; omega
theorem Xrr {t:List UInt8} {b:Pt} (h:Rep t b) (rest:List UInt8) (i:Int):∃ ps,Alts t b (i+1) ps/\barsGo (40::(t ++ 41::rest)) i 0 []=ps ++ [i+1+t.length]:=by
 obtain ⟨ps,h1,h2⟩:=alts h (i+1);refine ⟨ps,h1,?_⟩;rw [Xn,if_neg (by decide),if_pos (by decide),Int.zero_add,h2,Xn,if_neg (by decide),if_neg (by decide),if_neg (by decide),if_pos (by decide),if_pos (by omega)];rfl
def spc (c:UInt8):Bool:=((((((c.toNat:Int) == 63) || ((c.toNat:Int) == 42)) || ((c.toNat:Int) == 40)) || ((c.toNat:Int) == 41)) || ((c.toNat:Int) == 124)) || ((c.toNat:Int) == 92)
def lit:List UInt8->List UInt8
 | []=>[]
 | c::l=>(bif spc c then [92,c] else [c]) ++ lit l
end Pat
namespace Pat
open Go Gk Pt
section
variable {l:List UInt8} {k:Nat} {r:Pt}
theorem Xc7 (hk:k<l.length) {c:UInt8} {t:List UInt8} (h:l.drop k=c::t):c=at_ l (k:Int)/\t=l.drop (k+1):=by
 rw [Xe l hk] at h;injection h with h1 h2
 exact ⟨h1.symm,h2.symm⟩
theorem Xrl {n:UInt8} {m:Nat} (hn:n.toNat=m) (h:(at_ l (k:Int)).toNat=m):at_ l (k:Int)=n:=Y18.1 (by omega)
theorem Xwm (h:Rep (l.drop k) r) (hk:k<l.length) (hc:(at_ l (k:Int)).toNat=63):∃ r',r=.lit 1 0 r'/\Rep (l.drop (k+1)) r':=by
 have e:=Xrl (n:=63) rfl hc;rw [Xe l hk,e] at h;generalize l.drop (k+1)=t at h;generalize hx:(63::t:List UInt8)=x at h;cases h with
 | nil=>cases hx
 | one h=>injection hx with _ h2; subst h2; exact ⟨_,rfl,h⟩
 | all=>injection hx with h1; exact absurd h1 (by decide)
 | few=>injection hx with h1; exact absurd h1 (by decide)
 | grp=>injection hx with h1; exact absurd h1 (by decide)
 | bar=>injection hx with h1; exact absurd h1 (by decide)
 | esc=>injection hx with h1; exact absurd h1 (by decide)
 | byte c h1=>injection hx with h2; exact absurd h2.symm h1
theorem Xjc (h:Rep (l.drop k) r) (hk:k<l.length) (hc:(at_ l (k:Int)).toNat=42) :
  (k+1<l.length/\at_ l ((k:Int)+1)=42/\∃ r',r=.lit 2 0 r'/\Rep (l.drop (k+2)) r')\/((k+1<l.length->at_ l ((k:Int)+1)≠42)/\∃ r',r=.lit 3 0 r'/\Rep (l.drop (k+1)) r'):=by
 have e:=Xrl (n:=42) rfl hc;rw [Xe l hk,e] at h;generalize ht:l.drop (k+1)=t at h;generalize hx:(42::t:List UInt8)=x at h;cases h with
 | nil=>cases hx
 | one=>injection hx with h1; exact absurd h1 (by decide)
 | @all t' r' h =>
  injection hx with _ h2; subst h2
  have hk1:k+1<l.length:=by
   apply Classical.byContradiction
   intro hn;rw [Y11 (by omega)] at ht;cases ht
  obtain ⟨a,b⟩:=Xc7 hk1 ht;subst b;exact .inl ⟨hk1,a.symm,r',rfl,h⟩
 | @few t' r' hh h =>
  injection hx with _ h2; subst h2
  refine .inr ⟨fun hk1=>?_,r',rfl,h⟩;rw [<- ht,Xe l hk1] at hh;intro e2;exact hh (by rw [Y5r]; exact congrArg _ e2)
 | grp=>injection hx with h1; exact absurd h1 (by decide)
 | bar=>injection hx with h1; exact absurd h1 (by decide)
 | esc=>injection hx with h1; exact absurd h1 (by decide)
 | byte c _ h1=>injection hx with h2; exact absurd h2.symm h1
theorem Xwj (h:Rep (l.drop k) r) (hk:k<l.length) (hc:(at_ l (k:Int)).toNat=42) (h2:k+1<l.length/\(at_ l ((k:Int)+1)).toNat=42):∃ r',r=.lit 2 0 r'/\Rep (l.drop (k+2)) r':=by
 rcases Xjc h hk hc with ⟨_,_,h⟩ | ⟨h3,_⟩
 ·exact h
 ·exact absurd (Y18.1 h2.2) (h3 h2.1)
theorem Xwk (h:Rep (l.drop k) r) (hk:k<l.length) (hc:(at_ l (k:Int)).toNat=42) (h2:¬ (k+1<l.length/\(at_ l ((k:Int)+1)).toNat=42)):∃ r',r=.lit 3 0 r'/\Rep (l.drop (k+1)) r':=by
 rcases Xjc h hk hc with ⟨h3,h4,_⟩ | ⟨_,h⟩
 ·exact absurd ⟨h3,by rw [h4]; rfl⟩ h2
 ·exact h
theorem Xx4 (h:Rep [] r):r=.nil:=by cases h; rfl
theorem Xom (h:Rep (l.drop k) r) (hk:k<l.length) (hc:(at_ l (k:Int)).toNat=92):k+1<l.length/\∃ r',r=.lit 0 ((at_ l ((k:Int)+1)).toNat:Int) r'/\Rep (l.drop (k+2)) r':=by
 have e:=Xrl (n:=92) rfl hc;rw [Xe l hk,e] at h;generalize ht:l.drop (k+1)=t at h;generalize hx:(92::t:List UInt8)=x at h;cases h with
 | nil=>cases hx
 | one=>injection hx with h1; exact absurd h1 (by decide)
 | all=>injection hx with h1; exact absurd h1 (by decide)
 | few=>injection hx with h1; exact absurd h1 (by decide)
 | grp=>injection hx with h1; exact absurd h1 (by decide)
 | bar=>injection hx with h1; exact absurd h1 (by decide)
 | @esc t' r' d h =>
  injection hx with _ h2; subst h2
  have hk1:k+1<l.length:=by
   apply Classical.byContradiction
   intro hn;rw [Y11 (by omega)] at ht;cases ht
  obtain ⟨a,b⟩:=Xc7 hk1 ht;subst b;refine ⟨hk1,r',?_,h⟩;rw [a]; rfl
 | byte c _ _ _ _ _ h1=>injection hx with h2; exact absurd h2.symm h1
theorem Xwl (h:Rep (l.drop k) r) (hk:k<l.length) (hc:(at_ l (k:Int)).toNat=40):∃ t1 t2 b r',l.drop k=40::(t1 ++ 41::t2)/\r=.grp b r'/\Rep t1 b/\Rep t2 r'/\l.drop (k+1)=t1 ++ 41::t2/\l.drop (k+1+t1.length+1)=t2/\k+1+t1.length<l.length:=by
 have e:=Xrl (n:=40) rfl hc;have h0:=Xe l hk;rw [e] at h0;rw [h0] at h ⊢;generalize ht:l.drop (k+1)=t at h;generalize hx:(40::t:List UInt8)=x at h;cases h with
 | nil=>cases hx
 | one=>injection hx with h1; exact absurd h1 (by decide)
 | all=>injection hx with h1; exact absurd h1 (by decide)
 | few=>injection hx with h1; exact absurd h1 (by decide)
 | @grp t1 t2 b r' h1 h2 =>
  injection hx with _ h3; subst h3
  have hl:=congrArg List.length ht;simp at hl
  refine ⟨t1,t2,b,r',rfl,rfl,h1,h2,rfl,?_,by omega⟩;rw [show k+1+t1.length+1=(k+1)+(t1.length+1) by omega,<- Y1i,ht,<- Y1i,Y45]; rfl
 | bar=>injection hx with h1; exact absurd h1 (by decide)
 | esc=>injection hx with h1; exact absurd h1 (by decide)
 | byte c _ _ h1=>injection hx with h2; exact absurd h2.symm h1
theorem Xsn (h:Rep (l.drop k) r) (hf:r.flat) (hk:k<l.length) (h1:¬ (at_ l (k:Int)).toNat=63) (h2:¬ (at_ l (k:Int)).toNat=42) (h3:¬ (at_ l (k:Int)).toNat=92) (h4:¬ (at_ l (k:Int)).toNat=40):∃ r',r=.lit 0 ((at_ l (k:Int)).toNat:Int) r'/\Rep (l.drop (k+1)) r':=by
 rw [Xe l hk] at h;generalize l.drop (k+1)=t at h;generalize at_ l (k:Int)=c at h h1 h2 h3 h4;generalize hx:(c::t:List UInt8)=x at h;cases h with
 | nil=>cases hx
 | one=>injection hx with e; subst e; exact absurd rfl h1
 | all=>injection hx with e; subst e; exact absurd rfl h2
 | few=>injection hx with e; subst e; exact absurd rfl h2
 | grp=>injection hx with e; subst e; exact absurd rfl h4
 | bar=>exact hf.elim
 | esc=>injection hx with e; subst e; exact absurd rfl h3
 | byte c' _ _ _ _ _ _ h=>injection hx with e e2; subst e; subst e2; exact ⟨_,rfl,h⟩
end
def Xm9 (l t2:List UInt8) (b:Pt) (all:List Int) (close:Int) (m at0:Nat) (D:Xcu):Prop :=
 (m<all.length->∃ tr br psr,all.drop m=psr ++ [close]/\Alts tr br (at0:Int) psr/\l.drop at0=tr ++ 41::t2/\(at0:Int)+tr.length=close/\∀ u,((sem b).1 u\/(sem b).2 u) ↔ (D u\/((sem br).1 u\/(sem br).2 u)))/\(m=all.length->∀ u,((sem b).1 u\/(sem b).2 u) ↔ D u)
theorem Xrh {l t2:List UInt8} {b:Pt} {all:List Int} {close:Int} {m at0:Nat} {D:Xcu} (h:Xm9 l t2 b all close m at0 D) (hm:m<all.length):∃ (q:Nat) (b1:Pt),all[m]?=some (q:Int)/\at0<=q/\q<l.length/\(q:Int)<=close/\Rep ((l.drop at0).take (q - at0)) b1/\b1.flat/\Xm9 l t2 b all close (m+1) (q+1) (fun u=>D u\/(sem b1).1 u):=by
 obtain ⟨tr,br,psr,h1,h2,h3,h4,h5⟩:=h.1 hm;have hlen:=congrArg List.length h3;have hall:=congrArg List.length h1;simp at hlen hall
 have hget:all[m]?=(psr ++ [close])[0]?:=by rw [<- h1]; simp
 cases h2 with
 | last _ k1 k2 =>
  refine ⟨at0+tr.length,br,by rw [hget]; simp; omega,by omega,by omega,by omega,?_,k2,?_,?_⟩
  ·rw [h3,show at0+tr.length - at0=tr.length by omega,Y2d]; exact k1
  ·intro hm2; simp at hall; omega
  ·intro _ u;rw [h5 u]
   have:=Xau br k2 u
   simp [this]
 | @more t1 b1 t2' b2 ps _ k1 k2 k3 =>
  simp at hlen
  refine ⟨at0+t1.length,b1,by rw [hget]; simp,by omega,by omega,?_,?_,k2,?_,?_⟩
  ·simp at h4; omega
  ·rw [h3,show at0+t1.length - at0=t1.length by omega,Yd,Y2d]; exact k1
  ·intro hm2;refine ⟨t2',b2,ps,?_,by simpa using k3,?_,by simp at h4; omega,fun u=>?_⟩
   ·rw [<- Y1i,h1]; rfl
   ·rw [show at0+t1.length+1=at0+(t1.length+1) by omega,<- Y1i,h3,Yd,<- Y1i,Y45]; rfl
   ·rw [h5 u,Xia _ _ k2,Xdv _ _ k2];have hc:cat (sem b1).1 (sem (.bar b2)).1 u ↔ (sem b1).1 u:=Xnv _ u;rw [hc];simp only [sem]
    constructor
    ·rintro (a | a | a)
     ·exact .inl (.inl a)
     ·exact .inl (.inr a)
     ·exact .inr a
    ·rintro ((a | a) | a)
     ·exact .inl a
     ·exact .inr (.inl a)
     ·exact .inr (.inr a)
  ·intro hm2; simp at hall; omega
end Pat
namespace Go.Proofs.YtbciobiiejpdgaaGreatDoor
open Gk Pat
theorem Xrq {l:List UInt8} {k:Nat} {d:Int} {out X:List Int} (h:(match l.drop (k+1) with | []=>out | _::r'=>barsGo r' ((k:Int)+2) d out)=X):barsGo (l.drop (k+2)) ((k:Int)+2) d out=X:=by
 cases hd:l.drop (k+1) with
 | nil =>
  rw [hd] at h;have e:l.drop (k+2)=[]:=by rw [List.drop_eq_nil_iff] at hd ⊢; omega
  rw [e,Xc4]; exact h
 | cons x r =>
  rw [hd] at h;have e:l.drop (k+2)=r:=by rw [show k+2=(k+1)+1 from rfl,<- Y1i,hd]; rfl
  rw [e]; exact h
set_option maxHeartbeats 800000 in
theorem Xrp (l:List UInt8) (i:Nat) (hi:i<l.length) (hl:l.length<=1000000) (B w:World) (I:Im) (As:List X7) (hS:Sat B w I As) :
  Cz 186 [S l,I64 (i:Nat)] w fun v w'=>∃ J a c,Le I J/\v=.slice a (barsGo (l.drop i) i 0 []).length c/\RS J a 1 (barsGo (l.drop i) i 0 []).length ((barsGo (l.drop i) i 0 []).map I64)/\Sat B w' J As:=by
 refine calls Tryz.func186 rfl Tryz.ntmps186 rfl (.seq (.q 1 rfl (.seq (.region (.val (.ao rfl) rfl ?_)))));replace hS:=hS.vecNil 3 1;refine .nil (.seq (.q 1 rfl (.seq (.seq (.q 2 rfl (.block (.loop (σ:=Nat×Int×Value×List Int) (fun ⟨k,deep,v,out⟩=>[(0,S l),(5,v),(6,I64 deep),(7,I64 (k:Nat))]) (fun ⟨k,deep,v,out⟩ w=>k<=l.length+1/\-(k:Int)<=deep/\deep<=k/\out.length<=k/\barsGo (l.drop k) k deep out=barsGo (l.drop i) i 0 []/\Sat B w I (Vec 3 1 v out.length (out.map I64)::As)) (fun ⟨k,deep,v,out⟩=>l.length+1 - k) (i,0,.slice none 0 0,[]) ⟨rfl,rfl,rfl,rfl,trivial⟩ ⟨by omega,by omega,by omega,by simp,rfl,hS⟩ ?_)))))));rintro ⟨k,deep,v,out⟩ w ⟨hk,hd1,hd2,hol,hq,hS⟩;refine .seq (.seq (.region (.run 4 rfl ⟨Qu9,trivial⟩ (.nil ?_))));refine .cond rfl (fun hb12=>?_) fun hb12=>?_
 ·have hc12:=hb12; simp only [Y6] at hc12;refine .skip (.seq (.block (.seq (.region (.run 3 rfl ⟨⟨⟨by omega,by omega⟩,Qu9⟩,trivial⟩ (.nil (.block (.seq (.q 2 rfl ?_)))))))));refine .cond rfl (fun hb18=>?_) fun hb18=>?_
  ·have hc18:=hb18; simp only [Y6] at hc18;refine .region (.run 3 rfl ⟨⟨by omega,by omega⟩,trivial⟩ (.nil (.region (.run 3 rfl ⟨⟨by omega,by omega⟩,trivial⟩ (.nil ?_)))));have e9:=hq;rw [Xe l (by omega),Xn,if_pos (by omega)] at e9;have e9:=Xrq e9;refine ⟨(k+2,deep,v,out),⟨rfl,rfl,rfl,rfl,trivial⟩,⟨by omega,by omega,by omega,by (try simp only [Y0,Y1h]); omega,?_,?_⟩,by dsimp only; omega⟩
   ·exact e9
   ·exact hS
  have hc18:=hb18; simp only [Y6] at hc18;refine .seq (.q 2 rfl ?_);refine .cond rfl (fun hb22=>?_) fun hb22=>?_
  ·have hc22:=hb22; simp only [Y6] at hc22;refine .region (.run 3 rfl ⟨⟨by omega,by omega⟩,trivial⟩ (.nil (.region (.run 3 rfl ⟨⟨by omega,by omega⟩,trivial⟩ (.nil ?_)))));have e9:=hq;rw [Xe l (by omega),Xn,if_neg (by omega),if_pos (by omega)] at e9;refine ⟨(k+1,deep+1,v,out),⟨rfl,rfl,rfl,rfl,trivial⟩,⟨by omega,by omega,by omega,by (try simp only [Y0,Y1h]); omega,?_,?_⟩,by dsimp only; omega⟩
   ·exact e9
   ·exact hS
  have hc22:=hb22; simp only [Y6] at hc22;refine .seq (.q 2 rfl ?_);refine .cond rfl (fun hb26=>?_) fun hb26=>?_
  ·have hc26:=hb26; simp only [Y6] at hc26;refine .seq (.q 2 rfl ?_);refine .cond rfl (fun hb29=>?_) fun hb29=>?_
   ·have hc29:=hb29; simp only [Y6] at hc29;refine .t 2 rfl (.buildSlice (cs:=[_]) hS (pc9 rfl X4) Xf Qs3 Qz3 rfl rfl rfl rfl ?_);intro b32 w hS;refine .append (size:=1) (bytes:=8) hS (.of rfl) (.of rfl) (k:=0) rfl Xf X1g rfl rfl rfl rfl rfl rfl rfl ⟨by omega,by unfold maxLen; omega⟩ rfl ?_;intro v33 w hS;obtain ⟨a33,c33,rfl,hcap33,_⟩:=hS.vecSlice (k:=0) (v:=v33) rfl;refine .q 1 rfl (.nil (.region (.run 3 rfl ⟨⟨by omega,by omega⟩,trivial⟩ (.nil ?_))));have e9:=hq;rw [Xe l (by omega),Xn,if_neg (by omega),if_neg (by omega),if_pos (by omega),if_pos (by omega)] at e9;refine ⟨(k+1,deep,.slice a33 (out.length+1) c33,out ++ [(k:Int)]),⟨rfl,rfl,rfl,rfl,trivial⟩,⟨by omega,by omega,by omega,by (try simp only [Y0,Y1h]); omega,?_,?_⟩,by dsimp only; omega⟩
    ·exact e9
    ·rw [Y0,Yw]; exact hS
   have hc29:=hb29; simp only [Y6] at hc29;refine .skip (.region (.run 3 rfl ⟨⟨by omega,by omega⟩,trivial⟩ (.nil ?_)));have e9:=hq;rw [Xe l (by omega),Xn,if_neg (by omega),if_neg (by omega),if_pos (by omega),if_neg (by omega)] at e9;refine ⟨(k+1,deep,v,out),⟨rfl,rfl,rfl,rfl,trivial⟩,⟨by omega,by omega,by omega,by (try simp only [Y0,Y1h]); omega,?_,?_⟩,by dsimp only; omega⟩
   ·exact e9
   ·exact hS
  have hc26:=hb26; simp only [Y6] at hc26;refine .seq (.q 2 rfl ?_);refine .cond rfl (fun hb34=>?_) fun hb34=>?_
  ·have hc34:=hb34; simp only [Y6] at hc34;refine .seq (.region (.run 3 rfl ⟨⟨by omega,by omega⟩,trivial⟩ (.nil (.seq (.q 2 rfl ?_)))));refine .cond rfl (fun hb39=>?_) fun hb39=>?_
   ·have hc39:=hb39; simp only [Y6] at hc39;refine .seq (.t 2 rfl (.buildSlice (cs:=[_]) hS (pc9 rfl X4) Xf Qs3 Qz3 rfl rfl rfl rfl ?_));intro b42 w hS;refine .append (size:=1) (bytes:=8) hS (.of rfl) (.of rfl) (k:=0) rfl Xf X1g rfl rfl rfl rfl rfl rfl rfl ⟨by omega,by unfold maxLen; omega⟩ rfl ?_;intro v43 w hS;obtain ⟨a43,c43,rfl,hcap43,_⟩:=hS.vecSlice (k:=0) (v:=v43) rfl;refine .q 1 rfl (.nil (.ret (Xc Tryz.results186 rfl ?_)));have e9:=hq;rw [Xe l (by omega),Xn,if_neg (by omega),if_neg (by omega),if_neg (by omega),if_pos (by omega),if_pos (by omega)] at e9;rw [<- e9];obtain ⟨J,hJ,hrs,hS⟩:=hS.freezeVec (k:=0) rfl;exact ⟨_,rfl,J,_,_,hJ,by rw [Y0]; rfl,by rw [Y0,Yw]; exact hrs,hS⟩
   have hc39:=hb39; simp only [Y6] at hc39;refine .skip (.region (.run 3 rfl ⟨⟨by omega,by omega⟩,trivial⟩ (.nil ?_)));have e9:=hq;rw [Xe l (by omega),Xn,if_neg (by omega),if_neg (by omega),if_neg (by omega),if_pos (by omega),if_neg (by omega)] at e9;refine ⟨(k+1,deep - 1,v,out),⟨rfl,rfl,rfl,rfl,trivial⟩,⟨by omega,by omega,by omega,by (try simp only [Y0,Y1h]); omega,?_,?_⟩,by dsimp only; omega⟩
   ·exact e9
   ·exact hS
  have hc34:=hb34; simp only [Y6] at hc34;refine .skip (.region (.run 3 rfl ⟨⟨by omega,by omega⟩,trivial⟩ (.nil ?_)));have e9:=hq;rw [Xe l (by omega),Xn,if_neg (by omega),if_neg (by omega),if_neg (by omega),if_neg (by omega)] at e9;refine ⟨(k+1,deep,v,out),⟨rfl,rfl,rfl,rfl,trivial⟩,⟨by omega,by omega,by omega,by (try simp only [Y0,Y1h]); omega,?_,?_⟩,by dsimp only; omega⟩
  ·exact e9
  ·exact hS
 have hc12:=hb12; simp only [Y6] at hc12;refine .exit (.seq (.q 2 rfl (.ret (Xc Tryz.results186 rfl ?_))));obtain ⟨va,vc,rfl,_,_⟩:=hS.vecSlice (k:=0) rfl;have e9:=hq;rw [Y11 (by omega),Xc4] at e9;rw [<- e9];obtain ⟨J,hJ,hrs,hS⟩:=hS.freezeVec (k:=0) rfl;exact ⟨_,rfl,J,_,_,hJ,rfl,hrs,hS⟩
theorem Xf8 {s:List UInt8} {fr0 fr:List Bool} {D:Xcu} (hE:EndsAt s fr0 D fr) (p:Addr) (c:Nat) (kind:Int) (own:UInt8) (many:Bool) (k c0:Int) (hu:∀ x,takes kind own x=X1n k c0 x) (hm:many=true ↔ (k=2\/k=3)) (B w:World) (I:Im) (As:List X7) (hS:Sat B w I As) (hp:At I p (fr.map Value.bool)) (hb:s.length<=1000000) :
  Cz 185 [S s,.slice (some p) (s.length+1) c,I64 kind,U8 own.toNat,.bool many] w fun v w'=>∃ J q R,Le I J/\v=.slice (some q) (s.length+1) (s.length+1)/\At J q (R.map Value.bool)/\EndsAt s fr0 (cat D (Xm0 k c0)) R/\Sat B w' J As:=by
 have h:=Xs6 s fr p c kind own many B w I As hS hp hE.1 hb;rw [hE.1] at h;refine h.mono fun x w' ⟨v,hx,J,q,h1,h2,h3,h4⟩=>⟨v,hx,J,q,_,h1,h2,h3,hE.cat (Xo8 hu hm),h4⟩
theorem Xsr {ps:List Int} {x:Int}:(ps ++ [x]).getD (((ps ++ [x]).length:Int) - 1).toNat 0=x:=by
 have e:(((ps ++ [x]).length:Int) - 1).toNat=ps.length:=by simp
 rw [e,Y8]; simp
set_option maxHeartbeats 1600000 in
theorem Xtx (s:List UInt8) (hs:s.length<=100000):∀ (n:Nat) (l:List UInt8) (p:Pt),l.length<n->Rep l p->p.flat->l.length<=100000->∀ (fr0:List Bool) (pa0:Addr) (c0:Nat) (B w:World) (I:Im) (As:List X7),Sat B w I As->At I pa0 (fr0.map Value.bool)->fr0.length=s.length+1 ->
  Cz 140 [S l,S s,.slice (some pa0) (s.length+1) c0] w fun v w'=>∃ J q c R,Le I J/\v=.slice (some q) (s.length+1) c/\At J q (R.map Value.bool)/\EndsAt s fr0 (sem p).1 R/\Sat B w' J As:=by
 intro n
 induction n with
 | zero =>
  intro l p hn;omega
 | succ n ih =>
  intro l p hn hR0 hf0 hl fr0 pa0 c0 B w I As hS hA0 hfr0;refine calls Tryz.func140 rfl Tryz.ntmps140 rfl (.seq (.q 1 rfl (.seq (.seq (.q 1 rfl (.block (.loop (σ:=Nat×Pt×Xcu×List Bool×Addr×Nat×Im) (fun ⟨k,r,D,fr,pa,c1,J⟩=>[(0,S l),(1,S s),(2,.slice (some pa) (s.length+1) c1),(7,I64 (k:Nat))]) (fun ⟨k,r,D,fr,pa,c1,J⟩ w=>k<=l.length/\Rep (l.drop k) r/\r.flat/\(∀ u,(sem p).1 u ↔ cat D (sem r).1 u)/\EndsAt s fr0 D fr/\At J pa (fr.map Value.bool)/\Le I J/\Sat B w J As) (fun ⟨k,r,D,fr,pa,c1,J⟩=>l.length - k) (0,p,(fun u=>u=[]),fr0,pa0,c0,I) ⟨rfl,rfl,rfl,rfl,trivial⟩ ⟨Yo _,hR0,hf0,fun u=>(Xd1 _ u).symm,EndsAt.nil hfr0,hA0,Le.refl I,hS⟩ ?_)))))));rintro ⟨k,r,D,fr,pa,c1,J⟩ w ⟨hk,hR,hfl,hsem,hE,hA,hJ,hS⟩;refine .seq (.seq (.region (.run 4 rfl ⟨Qu9,trivial⟩ (.nil ?_))));refine .cond rfl (fun hb17=>?_) fun hb17=>?_
  ·have hc17:=hb17; simp only [Y6] at hc17;refine .skip (.seq (.block (.seq (.region (.run 3 rfl ⟨⟨⟨by omega,by omega⟩,Qu9⟩,trivial⟩ (.nil (.block (.seq (.q 2 rfl ?_)))))))));refine .cond rfl (fun hb29=>?_) fun hb29=>?_
   ·have hc29:=hb29; simp only [Y6] at hc29;refine .t 2 rfl ?_;obtain ⟨r',hr,hr2⟩:=Xwm hR (by omega) (by omega);subst hr;refine .call Xka rfl (ec9 rfl (ec9 rfl (ec9 rfl (ec9 rfl (ec9 rfl X0))))) rfl (Xf8 hE pa c1 1 0 false 1 0 (fun x=>by simp [takes,X1n] <;> exact BEq.comm) (by decide) B w J As hS hA (by omega)) ?_;rintro _ w ⟨J2,q,R2,hJ2,rfl,hA2,hE2,hS⟩;refine .q 1 rfl (.nil (.region (.run 3 rfl ⟨⟨by omega,by omega⟩,trivial⟩ (.nil ?_))));refine ⟨(k+1,r',_,R2,q,s.length+1,J2),⟨rfl,rfl,rfl,rfl,trivial⟩,⟨by omega,hr2,hfl,fun u=>(hsem u).trans (X1w _ _ _ u).symm,hE2,hA2,hJ.trans hJ2,hS⟩,by dsimp only; omega⟩
   have hc29:=hb29; simp only [Y6] at hc29;refine .seq (.q 2 rfl ?_);refine .cond rfl (fun hb34=>?_) fun hb34=>?_
   ·have hc34:=hb34; simp only [Y6] at hc34;refine .seq (.region (.run 6 rfl ⟨⟨by omega,by omega⟩,Qu9,trivial⟩ (.gm rfl rfl rfl rfl (.gm rfl rfl rfl rfl (.gval rfl rfl (fun hg1=>(.add (.gd hg1 rfl) (.of rfl) ⟨by omega,by omega⟩)) rfl ?_)))));refine .gval rfl rfl (fun hg1=>(.index (.gd hg1 rfl) (.gd hg1 rfl) (by (try simp only [Y6] at hg1); omega) (by (try simp only [Y6] at hg1); omega) Qu9)) rfl ?_;refine .gval rfl rfl (fun hg1=>(.eql (.gd hg1 rfl) (.of rfl))) rfl (.val (.pa rfl rfl rfl) rfl (.nil ?_));refine .cond rfl (fun hb47=>?_) fun hb47=>?_
    ·have hc47:=hb47; simp only [Y6] at hc47;refine .seq (.region (.run 3 rfl ⟨⟨by omega,by omega⟩,trivial⟩ (.nil (.t 2 rfl ?_))));obtain ⟨r',hr,hr2⟩:=Xwj hR (by omega) (by omega) (by omega);subst hr;refine .call Xka rfl (ec9 rfl (ec9 rfl (ec9 rfl (ec9 rfl (ec9 rfl X0))))) rfl (Xf8 hE pa c1 2 0 true 2 0 (fun x=>by simp [takes,X1n] <;> exact BEq.comm) (by decide) B w J As hS hA (by omega)) ?_;rintro _ w ⟨J2,q,R2,hJ2,rfl,hA2,hE2,hS⟩;refine .q 1 rfl (.nil (.region (.run 3 rfl ⟨⟨by omega,by omega⟩,trivial⟩ (.nil ?_))));refine ⟨(k+2,r',_,R2,q,s.length+1,J2),⟨rfl,rfl,rfl,rfl,trivial⟩,⟨by omega,hr2,hfl,fun u=>(hsem u).trans (X1w _ _ _ u).symm,hE2,hA2,hJ.trans hJ2,hS⟩,by dsimp only; omega⟩
    have hc47:=hb47; simp only [Y6] at hc47;refine .t 2 rfl ?_;obtain ⟨r',hr,hr2⟩:=Xwk hR (by omega) (by omega) (by omega);subst hr;refine .call Xka rfl (ec9 rfl (ec9 rfl (ec9 rfl (ec9 rfl (ec9 rfl X0))))) rfl (Xf8 hE pa c1 1 0 true 3 0 (fun x=>by simp [takes,X1n] <;> exact BEq.comm) (by decide) B w J As hS hA (by omega)) ?_;rintro _ w ⟨J2,q,R2,hJ2,rfl,hA2,hE2,hS⟩;refine .q 1 rfl (.nil (.region (.run 3 rfl ⟨⟨by omega,by omega⟩,trivial⟩ (.nil ?_))));refine ⟨(k+1,r',_,R2,q,s.length+1,J2),⟨rfl,rfl,rfl,rfl,trivial⟩,⟨by omega,hr2,hfl,fun u=>(hsem u).trans (X1w _ _ _ u).symm,hE2,hA2,hJ.trans hJ2,hS⟩,by dsimp only; omega⟩
   have hc34:=hb34; simp only [Y6] at hc34;refine .seq (.q 2 rfl ?_);refine .cond rfl (fun hb56=>?_) fun hb56=>?_
   ·have hc56:=hb56; simp only [Y6] at hc56;refine .seq ?_;have hesc:=(Xom hR (by omega) (by omega)).1;refine .region (.run 3 rfl ⟨⟨by omega,by omega⟩,trivial⟩ (.nil (.region (.run 5 rfl ⟨⟨⟨by omega,by omega⟩,Qu9⟩,trivial⟩ ?_))));obtain ⟨_,r',hr,hr2⟩:=Xom hR (by omega) (by omega);subst hr;refine .call Xka rfl (ec9 rfl (ec9 rfl (ec9 rfl (ec9 rfl (ec9 rfl X0))))) rfl (Xf8 hE pa c1 0 (at_ l ((k:Int)+1)) false 0 ((at_ l ((k:Int)+1)).toNat:Int) (fun x=>by simp [takes,X1n] <;> exact BEq.comm) (by decide) B w J As hS hA (by omega)) ?_;rintro _ w ⟨J2,q,R2,hJ2,rfl,hA2,hE2,hS⟩;refine .q 1 rfl (.nil (.region (.run 3 rfl ⟨⟨by omega,by omega⟩,trivial⟩ (.nil ?_))));refine ⟨(k+2,r',_,R2,q,s.length+1,J2),⟨rfl,rfl,rfl,rfl,trivial⟩,⟨by omega,hr2,hfl,fun u=>(hsem u).trans (X1w _ _ _ u).symm,hE2,hA2,hJ.trans hJ2,hS⟩,by dsimp only; omega⟩
   have hc56:=hb56; simp only [Y6] at hc56;refine .seq (.q 2 rfl ?_);refine .cond rfl (fun hb66=>?_) fun hb66=>?_
   ·have hc66:=hb66; simp only [Y6] at hc66;refine .seq (.t 2 rfl ?_);obtain ⟨t1,t2,b,r',hd0,hr,hr1,hr2,hd1,hk2,hk3⟩:=Xwl hR (by omega) (by omega);subst hr;obtain ⟨ps,halts,hbars⟩:=Xrr hr1 t2 (k:Int);rw [<- hd0] at hbars;refine .call Tryz.func186 rfl (ec9 rfl (ec9 rfl X0)) rfl (Xrp l k (by omega) (by omega) B w J As hS) ?_;rintro _ w ⟨J2,la,lc,hJ2,rfl,hla,hS⟩;generalize hallE0:barsGo (l.drop k) k 0 []=all at hla hbars ⊢;have hallE:=hbars;obtain ⟨lp,rfl,hlA⟩:=hla.2 (by rw [hbars]; simp);have hps:=Xri halts;have hal:all.length=ps.length+1:=by rw [hallE]; simp
    have hlast:all.getD ((all.length:Int) - 1).toNat 0=(k:Int)+1+t1.length:=by rw [hallE]; exact Xsr
    have ht1:t1.length<=l.length:=by omega
    refine .q 1 rfl (.nil (.seq (.region (.run 3 rfl ⟨Qu9,⟨by omega,by omega⟩,trivial⟩ ?_))));refine .make (l:=s.length+1) hS (.of rfl) (.of rfl) X36 X42 rfl (by simp [Tryz.t4] <;> omega) (by omega) rfl rfl rfl ?_;intro b74 w hS;refine .q 1 rfl (.nil (.seq (.region (.run 3 rfl ⟨⟨by omega,by omega⟩,trivial⟩ (.nil (.seq (.seq (.q 1 rfl (.block ?_)))))))));refine .loop (σ:=Nat×Nat×Xcu×List Bool×Im) (fun ⟨m,at0,Dg,S1,J4⟩=>[(0,S l),(1,S s),(2,.slice (some pa) (s.length+1) c1),(8,.slice (some lp) all.length lc),(9,.slice (some (ad b74 0)) (s.length+1) (s.length+1)),(10,I64 (at0:Nat)),(11,I64 (m:Nat))]) (fun ⟨m,at0,Dg,S1,J4⟩ w=>m<=all.length/\EndsAt s fr Dg S1/\Xm9 l t2 b all ((k:Int)+1+t1.length) m at0 Dg/\Le J2 J4/\Sat B w J4 (blk b74 ((S1).map Value.bool ++ []) 4::As)) (fun ⟨m,at0,Dg,S1,J4⟩=>all.length - m) (0,k+1,(fun _=>False),List.replicate (s.length+1) false,J2) ⟨rfl,rfl,rfl,rfl,rfl,rfl,rfl,trivial⟩ ⟨Yo _,EndsAt.none s fr,⟨fun _=>⟨t1,b,ps,by rw [hallE]; rfl,by simpa using halts,hd1,by simp,fun u=>by simp⟩,fun h=>by rw [hallE] at h; simp at h⟩,Le.refl _,by rw [Y3b,Y9]; exact hS⟩ ?_;rintro ⟨m,at0,Dg,S1,J4⟩ w ⟨hm,hES,hAlt,hJ4,hS⟩;refine .seq (.seq (.region (.run 4 rfl ⟨⟨_,Xf⟩,trivial⟩ (.nil ?_))));refine .cond rfl (fun hb80=>?_) fun hb80=>?_
    ·have hc80:=hb80; simp only [Y6] at hc80;refine .skip (.seq (.block (.seq ?_)));have hA4:=hA.mono (hJ2.trans hJ4);obtain ⟨q,b1,hq1,hq2,hq3,hq4,hb1,hb1f,hAlt2⟩:=Xrh hAlt (by omega);have hlA4:=hlA.mono hJ4;have hqd:all.getD ((m:Int)).toNat 0=(q:Int):=by rw [Yf,Y8,hq1]; rfl
     refine .t 4 rfl (.val (.ii rfl rfl (by omega) (by omega) Xf Qs3) rfl (.val (.ldEI I64 all 0 (.of rfl) hS hlA4 rfl Qg3 (by omega) (by omega)) rfl ?_));rw [hqd];refine .val (.sub3 (.of rfl) (.of rfl) (.of rfl) (by omega) (by omega) (by omega) Qu9) rfl ?_;rw [Yf,Yf];refine .q 2 rfl (.call Tryz.func140 rfl (ec9 rfl (ec9 rfl (ec9 rfl X0))) rfl (ih ((l.drop at0).take (q - at0)) b1 (by simp; omega) hb1 hb1f (by simp; omega) fr pa c1 B w J4 _ hS hA4 hE.1) ?_);rintro _ w ⟨J6,qa,qc,R6,hJ6,rfl,hA6,hE6,hS⟩;refine .q 1 rfl (.nil (.seq (.seq (.q 1 rfl (.block (.loop (σ:=Nat) (fun j=>[(0,S l),(1,S s),(2,.slice (some pa) (s.length+1) c1),(8,.slice (some lp) all.length lc),(9,.slice (some (ad b74 0)) (s.length+1) (s.length+1)),(11,I64 (m:Nat)),(12,.slice (some qa) (s.length+1) qc),(13,I64 (j:Nat))]) (fun j w=>j<=s.length+1/\Sat B w J6 (blk b74 ((iter (Xui R6) S1 j).map Value.bool ++ []) 4::As)) (fun j=>s.length+1 - j) 0 ⟨rfl,rfl,rfl,rfl,rfl,rfl,rfl,rfl,trivial⟩ ⟨Yo _,hS⟩ ?_))))));rintro j w ⟨hj,hS⟩;have ho:=(Xal R6 S1 j).1;have hS1l:=hES.1;have hR6l:=hE6.1;obtain ⟨oj,hoj⟩:∃ oj,oj=iter (Xui R6) S1 j:=⟨_,rfl⟩
     rw [<- hoj] at hS ho;refine .seq (.seq (.region (.run 4 rfl ⟨Qu9,trivial⟩ (.nil ?_))));refine .cond rfl (fun hb96=>?_) fun hb96=>?_
     ·have hc96:=hb96; simp only [Y6] at hc96;refine .skip (.seq (.block (.t 4 rfl (.val (.io rfl rfl (by omega) (by omega) X36 Qs4) rfl (.val (.ldE .bool oj false [] (.of rfl) hS (k:=0) rfl rfl Qg4 (by omega) (by omega)) rfl (.q 1 rfl (.gm rfl rfl rfl rfl (.gm rfl rfl rfl rfl ?_))))))));refine .gval rfl rfl (fun hg1=>(.indexAddrI (.gd hg1 rfl) (.gd hg1 rfl) (by (try simp only [Y6] at hg1); omega) (by (try simp only [Y6] at hg1); omega) X36 Qs4)) rfl ?_;refine .gval rfl rfl (fun hg1=>.ldEI .bool R6 false (.gd hg1 rfl) hS hA6 rfl Qg4 (by omega) (by omega)) rfl (.val (.po rfl rfl rfl) rfl (.val (.io rfl rfl (by omega) (by omega) X36 Qs4) rfl (.stE .bool oj [] (u:=oj.getD ((j:Int)).toNat false || R6.getD ((j:Int)).toNat false) hS (k:=0) rfl (.of rfl) (.of rfl) rfl rfl Qs4 (by omega) (by omega) ?_)));intro w hS; dsimp only [List.set] at hS;refine .nil (.region (.run 3 rfl ⟨⟨by omega,by omega⟩,trivial⟩ (.nil ?_)));refine ⟨j+1,⟨rfl,rfl,rfl,rfl,rfl,rfl,rfl,rfl,trivial⟩,⟨by omega,?_⟩,by omega⟩;rw [iter,<- hoj]; unfold Xui; simp only [Yf] at hS; exact hS
     have hc96:=hb96; simp only [Y6] at hc96;refine .exit ?_;have hlA6:=hlA4.mono hJ6;refine .t 2 rfl (.val (.ii rfl rfl (by omega) (by omega) Xf Qs3) rfl (.val (.ldEI I64 all 0 (.of rfl) hS hlA6 rfl Qg3 (by omega) (by omega)) rfl ?_));rw [hqd];refine .run 2 rfl ⟨⟨by omega,by omega⟩,trivial⟩ (.nil (.region (.run 3 rfl ⟨⟨by omega,by omega⟩,trivial⟩ (.nil ?_))));obtain rfl:j=s.length+1:=by omega
     refine ⟨(m+1,q+1,_,iter (Xui R6) S1 (s.length+1),J6),⟨rfl,rfl,rfl,rfl,rfl,rfl,rfl,trivial⟩,⟨by omega,hES.or hE6,hAlt2,hJ4.trans hJ6,by rw [hoj] at hS; exact hS⟩,by dsimp only; omega⟩
    have hc80:=hb80; simp only [Y6] at hc80;refine .exit (.seq (.q 2 rfl ?_));have hlA7:=hlA.mono hJ4;have hm9:m=all.length:=by omega
    refine .region (.run 4 rfl ⟨⟨_,Xf⟩,⟨by omega,by omega⟩,trivial⟩ (.val (.ii rfl rfl (by omega) (by omega) Xf Qs3) rfl (.val (.ldEI I64 all 0 (.of rfl) hS hlA7 rfl Qg3 (by omega) (by omega)) rfl ?_)));rw [hlast];refine .q 1 rfl (.nil (.region (.run 3 rfl ⟨⟨by omega,by omega⟩,trivial⟩ (.nil ?_))));obtain rfl:m=all.length:=by omega
    obtain ⟨J5,hJ5,hb5,hS⟩:=hS.freeze (k:=0) rfl;refine ⟨(k+1+t1.length+1,r',_,S1,ad b74 0,s.length+1,J5),⟨rfl,rfl,rfl,rfl,trivial⟩,⟨by omega,by rw [hk2]; exact hr2,hfl,fun u=>(hsem u).trans (X1w _ _ _ u).symm,hE.cat (hES.congr fun u=>(hAlt.2 rfl u).symm),⟨rfl,_,_,_,hb5,fun j v hj=>by simpa using hj⟩,((hJ.trans hJ2).trans hJ4).trans hJ5,hS⟩,by dsimp only; omega⟩
   have hc66:=hb66; simp only [Y6] at hc66;refine .region (.run 5 rfl ⟨⟨⟨by omega,by omega⟩,Qu9⟩,trivial⟩ ?_);obtain ⟨r',hr,hr2⟩:=Xsn hR hfl (by omega) (by omega) (by omega) (by omega) (by omega);subst hr;refine .call Xka rfl (ec9 rfl (ec9 rfl (ec9 rfl (ec9 rfl (ec9 rfl X0))))) rfl (Xf8 hE pa c1 0 (at_ l (k:Int)) false 0 ((at_ l (k:Int)).toNat:Int) (fun x=>by simp [takes,X1n] <;> exact BEq.comm) (by decide) B w J As hS hA (by omega)) ?_;rintro _ w ⟨J2,q,R2,hJ2,rfl,hA2,hE2,hS⟩;refine .q 1 rfl (.nil (.region (.run 3 rfl ⟨⟨by omega,by omega⟩,trivial⟩ (.nil ?_))));refine ⟨(k+1,r',_,R2,q,s.length+1,J2),⟨rfl,rfl,rfl,rfl,trivial⟩,⟨by omega,hr2,hfl,fun u=>(hsem u).trans (X1w _ _ _ u).symm,hE2,hA2,hJ.trans hJ2,hS⟩,by dsimp only; omega⟩
  have hc17:=hb17; simp only [Y6] at hc17;refine .exit (.seq (.q 2 rfl (.ret (Xc Tryz.results140 rfl ?_))));refine ⟨_,rfl,J,pa,c1,fr,hJ,rfl,hA,hE.congr fun u=>?_,hS⟩;rw [Y11 (by omega)] at hR;obtain rfl:=Xx4 hR;exact ((hsem u).trans (Xnv _ u)).symm
theorem Xes {l:List UInt8} {p:Pt} (hr:Rep l p) (hf:p.flat) (s:List UInt8) (hl:l.length<=1000) (hs:s.length<=1000) (B w:World) (I:Im) (As:List X7) (hS:Sat B w I As) :
  Cz 95 [S l,S s] w fun v w'=>∃ b,v=.bool b/\(b=true ↔ (sem p).1 s)/\∃ J,Le I J/\Sat B w' J As:=by
 refine calls Tryz.func95 rfl Tryz.ntmps95 rfl (.seq (.q 1 rfl (.seq (.region (.run 3 rfl ⟨Qu9,⟨by omega,by omega⟩,trivial⟩ ?_)))));refine .make (l:=s.length+1) hS (.of rfl) (.of rfl) X36 X42 rfl (by simp [Tryz.t4] <;> omega) (by omega) rfl rfl rfl ?_;intro b9 w hS;refine .q 1 rfl (.nil (.seq (.t 1 rfl (.val (.io rfl rfl (by omega) (by omega) X36 Qs4) rfl ?_))));replace hS:Sat B w I (blk b9 ((List.replicate (s.length+1) false).map Value.bool ++ []) 4::As):=by rw [Y3b,Y9]; exact hS
 refine .stE .bool (List.replicate (s.length+1) false) [] (u:=true) hS (k:=0) rfl (.of rfl) (.of rfl) rfl rfl Qs4 (by omega) (by simp) ?_;intro w hS; dsimp only [List.set] at hS;obtain ⟨J,hJ,hb,hS⟩:=hS.freeze (k:=0) rfl;have hA:At J (ad b9 0) (((List.replicate (s.length+1) false).set 0 true).map Value.bool):=⟨rfl,_,_,_,hb,fun j v hj=>by simpa using hj⟩
 refine .nil (.seq (.t 3 rfl (.call Tryz.func140 rfl (ec9 rfl (ec9 rfl (ec9 rfl X0))) rfl (Xtx s (by omega) (l.length+1) l p (by omega) hr hf (by omega) _ (ad b9 0) _ B w J As hS hA (by simp)) ?_)));rintro _ w ⟨J2,q,qc,R2,hJ2,rfl,hA2,hE2,hS⟩;refine .run 2 rfl ⟨Qu9,trivial⟩ (.val (.ii rfl rfl (by omega) (by omega) X36 Qs4) rfl ?_);have hR2:=hE2.1;refine .val (.ldEI .bool R2 false (.of rfl) hS hA2 rfl Qg4 (by omega) (by omega)) rfl (.q 1 rfl (.nil (.ret (Xc Tryz.results95 rfl ?_))));refine ⟨_,rfl,_,rfl,?_,J2,hJ.trans hJ2,hS⟩;rw [Yf,hE2.2 s.length (Yq _)];constructor
 ·rintro ⟨i,h1,h2,h3⟩;rcases Pat.getD_set_true _ _ _ h2 with h4 | h4
  ·rw [X5s] at h4; cases h4
  ·subst h4; simpa [seg] using h3
 ·intro h; exact ⟨0,Yo _,X79 (by simp),by simpa [seg] using h⟩
theorem X3w:Bld Tryz.prog 105 [(0,1),(1,1),(2,1),(3,1),(4,1),(5,1),(6,1),(7,1)] [.int .i64 0,.float .f64 0,S [],.bool false,.bool false,.bool false,S [],.slice none 0 0]:=X23 X2d Xbq (fun w=>by simp [go_sem])
theorem Xc6 {l:List UInt8} (h:(chk l).1=0):∃ Q,cmp l=.ok Q:=by
 unfold chk at h;split at h
 ·cases h
 ·rename_i hl
  cases hc:cmp l with
  | ok Q=>exact ⟨Q,rfl⟩
  | error e =>
   unfold cmp at hc;rw [if_neg hl] at hc
   have:=(X1j l.length l 0 [] [] [] (Yq _) rfl).1 e hc
   rw [this.1] at h;exact absurd h this.2
theorem Xlr (l s:List UInt8) (hQ:∃ Q,cmp l=.ok Q) (hs:s.length<=1000) (B w:World) (I:Im) (As:List X7) (hS:Sat B w I As) :
  Cz 95 [S l,S s] w fun v w'=>∃ J,v=.bool (Xbg l s).1/\Le I J/\Sat B w' J As:=by
 obtain ⟨Q,hQ⟩:=hQ;have hm:(Xbg l s).2=true:=by unfold Xbg; rw [hQ]
 obtain ⟨p,hr,hf,_,hl,ht⟩:=mt_ok hm;refine (Xes hr hf s (by omega) hs B w I As hS).mono fun e w' he=>?_
 obtain ⟨v,rfl,b,rfl,hb,J,hJ,hS'⟩:=he;refine ⟨_,rfl,J,?_,hJ,hS'⟩
 congr 1
 exact Y2u.2 (hb.trans (ht s).2.symm)
def z0:Sv:=⟨0,0,[],false,false,false,[],[]⟩
def Xha (l:List Sv) (D:List Int) (s:List UInt8):Sv×List UInt8×Nat :=
 if (Ul.nU s).2≠0 then (z0,[],(Ul.nU s).2) else if 100<(Ul.nU s).1.length then (z0,[],2)
 else match D.find? (fun d=>(Xbg (l.getD d.toNat z0).urls (Ul.nU s).1).1) with
  | none=>(z0,[],31)
  | some d=>(l.getD d.toNat z0,(Ul.nU s).1,0)
def right (l:List Sv):Prop:=∀ s∈l,(∃ Q,cmp s.urls=.ok Q)/\∃ Q,cmp s.calls=.ok Q
theorem Xof {α:Type} {p:α->Bool}:∀ {D:List α} {j:Nat} {d:α},(∀ (q:Nat) e,q<j->D[q]?=some e->p e=false)->D[j]?=some d->p d=true->D.find? p=some d
 | [],_,_,_,h,_=>by simp at h
 | a::D,0,d,_,h,hp=>by simp at h; subst h; rw [Y2v,hp]
 | a::D,j+1,d,hn,h,hp=>by
  have h0:=hn 0 a (by omega) rfl;rw [Y2v,h0];exact Xof (j:=j) (fun q e hq he=>hn (q+1) e (by omega) (by simpa using he)) (by simpa using h) hp
theorem Xwc {α:Type} {p:α->Bool} {D:List α} (h:∀ (q:Nat) e,D[q]?=some e->p e=false):D.find? p=none:=by
 rw [Y57];intro x hx;obtain ⟨q,hq⟩:=Yy.1 hx;rw [h q x hq]; decide
theorem pick8 {I:Im} {a:Option Addr} {L:List (List Value)} {l:List Sv} (h:SvsIn I a L l) {D:List Int} (hD:∀ d∈D,0<=d/\d<l.length):∀ c∈X4v L D,c.length=8:=fun c hc=>by
 obtain ⟨d,hd,rfl⟩:=Y2b.1 hc;obtain ⟨h0,h1⟩:=hD d hd;obtain ⟨p,c,_,h2,_,ra,rc,rfl,_⟩:=h.2 d.toNat _ (Y4 (by omega));rw [Y8,h2];rfl
theorem Xhv (a:Option Addr) (cap:Nat) (L:List (List Value)) (l:List Sv) (hln:l.length<=100000) (hsm:∀ v∈ords l,v<18446744073709551616) (hright:right l) (s:List UInt8) (hs:s.length<=1000000) (B w:World) (I:Im) (hl:SvsIn I a L l) (As:List X7) (hS:Sat B w I As) :
  Cz 48 [.slice a l.length cap,S s] w fun v w'=>∃ J u c n e,Le I J/\v=.tuple #[.agg (List.toArray c),S n,I64 ((e:Nat):Int)]/\SvAt J u c/\(∀ D,Srt.Ord (kx (ords l)) l.length D->Xha l D s=(u,n,e))/\Sat B w' J As:=by
 refine calls Tryz.func48 rfl Tryz.ntmps48 rfl (.seq (.region (.allocA (cs:=[_,_,_,_,_,_,_,_]) hS Xbq rfl ?_)));clear hS; intro b4 w hS;refine .q 2 rfl (.nil (.seq (.t 1 rfl (.call Tryz.func93 rfl (ec9 rfl X0) rfl (Xbw s hs B _ I _ hS) ?_))));clear hS;rintro _ w ⟨rfl,hS⟩;refine .q 5 rfl (.nil (.seq (.seq (.q 2 rfl ?_))));refine .cond rfl (fun hb18=>?_) fun hb18=>?_
 ·have hc18:=hb18; simp only [Y6] at hc18;refine .seq (.region (.val (.build (cs:=[_,_,_,_,_,_,_,_]) X4 X3w rfl) rfl (.q 1 rfl (.so hS (k:=0) rfl rfl rfl rfl X10 rfl (by simp) ?_))));clear hS; intro w hS;try simp only [Yk,Ye,Y9,Y7,Yh,Ym,Yc] at hS
  refine .q 2 rfl (.nil (.ret (Xg3 (b:=_) (cs:=[_,_,_,_,_,_,_,_]) Qr48 hS (k:=0) rfl X61 X10 rfl rfl rfl rfl ?_)));exact ⟨_,rfl,I,z0,_,_,_,Le.refl _,rfl,⟨none,0,rfl,Yq _,RS.nil _ _⟩,fun D2 hD2=>by rw [Xha,if_pos (by omega)]; try rfl,(hS.y 0 1)⟩
 have hc18:=hb18; simp only [Y6] at hc18;refine .skip (.seq (.seq (.region (.run 3 rfl ⟨Qu9,trivial⟩ (.nil ?_)))));refine .cond rfl (fun hb23=>?_) fun hb23=>?_
 ·have hc23:=hb23; simp only [Y6] at hc23;refine .seq (.region (.val (.build (cs:=[_,_,_,_,_,_,_,_]) X4 X3w rfl) rfl (.so hS (k:=0) rfl rfl rfl rfl X10 rfl (by simp) ?_)));clear hS; intro w hS;try simp only [Yk,Ye,Y9,Y7,Yh,Ym,Yc] at hS
  refine .q 2 rfl (.nil (.ret (Xg3 (b:=_) (cs:=[_,_,_,_,_,_,_,_]) Qr48 hS (k:=0) rfl X61 X10 rfl rfl rfl rfl ?_)));exact ⟨_,rfl,I,z0,_,_,_,Le.refl _,rfl,⟨none,0,rfl,Yq _,RS.nil _ _⟩,fun D2 hD2=>by rw [Xha,if_neg (by omega),if_pos (by omega)]; try rfl,(hS.y 0 1)⟩
 have hc23:=hb23; simp only [Y6] at hc23;refine .skip (.seq (.t 1 rfl (.call Tryz.func94 rfl (ec9 rfl X0) rfl (Xuu a cap L l hln hsm B _ I hl _ hS) ?_)));clear hS;rintro _ w ⟨J,D,hJ,hD,hS⟩;refine .q 1 rfl (.nil (.seq (.seq ?_)));obtain ⟨va,vc,rfl,hvc,_⟩:=hS.vecSlice (k:=0) rfl;obtain ⟨J2,hJ2,hAR,hS2⟩:=hS.freezeVec (k:=0) rfl;clear hS;have hS:=hS2;clear hS2;try dsimp only [List.eraseIdx] at hS
 replace hJ:=Le.trans hJ hJ2;have hDl:=hD.len;have hDm:∀ d∈D,0<=d/\d<l.length:=fun d hd=>Srt.upto_mem.1 (hD.2.mem_iff.1 hd)
 have h8:=pick8 hl hDm;refine .q 1 rfl (.block (.loop (σ:=Nat×Im) (fun ⟨j,J3⟩=>[(4,ptr b4 0),(7,S (Ul.nU s).1),(9,.slice va l.length vc),(10,I64 (j:Nat))]) (fun ⟨j,J3⟩ w=>j<=l.length/\(∀ (q:Nat) e,q<j->D[q]?=some e->(Xbg (l.getD e.toNat z0).urls (Ul.nU s).1).1=false)/\Le J2 J3/\Sat B w J3 (blk b4 [I64 0,F64 0,S [],.bool false,.bool false,.bool false,S [],.slice none 0 0] 105::As)) (fun ⟨j,J3⟩=>l.length - j) (0,J2) ⟨rfl,rfl,rfl,rfl,trivial⟩ ⟨Yo _,fun _ _ h=>absurd h (by omega),Le.refl _,hS⟩ ?_));rintro ⟨j,J3⟩ w ⟨hj,hno,hJ3,hS⟩;refine .seq (.seq (.region (.run 4 rfl ⟨⟨_,X9b⟩,trivial⟩ (.nil ?_))));refine .cond rfl (fun hb30=>?_) fun hb30=>?_
 ·have hc30:=hb30; simp only [Y6] at hc30;refine .skip (.seq (.block (.seq ?_)));obtain ⟨d,hd⟩:∃ d,D[j]?=some d:=⟨_,Y4 (by omega)⟩
  have hdr:=hDm d (Yl hd);obtain ⟨u,hu⟩:∃ u,l[d.toNat]?=some u:=⟨_,Y4 (by omega)⟩
  obtain ⟨_,c,_,hc,_,ra,rc,rfl,hrc,hr⟩:=hl.2 d.toNat u hu;obtain ⟨p,rfl,hp⟩:=hAR.2 (by omega);have hpk:(X4v L D)[j]?=some (X1o u ra rc):=by unfold X4v; rw [Yu,hd]; simp [Y8,hc]
  have hx:=X50 ((hp.mono hJ3).add (j*8)) 8;rw [X1f _ h8 j _ hpk] at hx;unfold X1o at hx;have hgu:l.getD d.toNat z0=u:=by rw [Y8,hu]; rfl
  obtain ⟨hru,hrc2⟩:=hright u (Yl hu);refine .t 2 rfl (.val (.ii rfl rfl (by omega) (by omega) X9b X10) rfl (.val (.fi 2 rfl X2d rfl rfl Qs9 rfl) rfl (.val (.ldI (.of rfl) hS (At.add hx _) Qg9 rfl) rfl (.q 1 rfl (.call Tryz.func95 rfl (ec9 rfl (ec9 rfl X0)) rfl (Xlr u.urls _ hru (by omega) B _ J3 _ hS) ?_)))));clear hS;rintro _ w ⟨J4,rfl,hJ4,hS⟩;replace hx:=hx.mono hJ4;refine .q 1 rfl (.nil (.seq (.q 1 rfl ?_)));refine .cond rfl (fun hb40=>?_) fun hb40=>?_
  ·refine .seq (.t 2 rfl (.val (.ii rfl rfl (by omega) (by omega) X9b X10) rfl (.val (.ldsI (.of rfl) hS hx X61 X10 rfl (fun _ _ h=>h)) rfl (.q 1 rfl (.so hS (k:=0) rfl rfl rfl rfl X10 rfl (by simp) ?_)))));clear hS; intro w hS;try simp only [Yk,Ye,Y9,Y7,Yh,Ym,Yc] at hS
   refine .q 2 rfl (.nil (.ret (Xg3 (b:=_) (cs:=[_,_,_,_,_,_,_,_]) Qr48 hS (k:=0) rfl X61 X10 rfl rfl rfl rfl ?_)));exact ⟨_,rfl,J4,u,_,_,_,Le.trans hJ (Le.trans hJ3 hJ4),rfl,⟨ra,rc,rfl,hrc,hr.mono (Le.trans hJ (Le.trans hJ3 hJ4))⟩,fun D2 hD2=>by rw [<- hD.unique hD2,Xha,if_neg (by omega),if_neg (by omega),Xof hno hd (by rw [hgu]; exact hb40)]; simp only; rw [hgu]; try rfl,(hS.y 0 1)⟩
  refine .skip (.region (.run 3 rfl ⟨⟨by omega,by omega⟩,trivial⟩ (.nil ?_)));refine ⟨(j+1,J4),⟨rfl,rfl,rfl,rfl,trivial⟩,⟨by (try dsimp only); omega,fun q e hq he=>?_,Le.trans hJ3 hJ4,hS⟩,by (try dsimp only); omega⟩;rcases Yp q j with h1 | h1
  ·exact hno q e h1 he
  ·have e2:q=j:=by (try dsimp only at hq); omega
   subst e2;rw [hd] at he; cases he;rw [hgu]; exact hb40
 have hc30:=hb30; simp only [Y6] at hc30;refine .exit (.seq (.region (.val (.build (cs:=[_,_,_,_,_,_,_,_]) X4 X3w rfl) rfl (.so hS (k:=0) rfl rfl rfl rfl X10 rfl (by simp) ?_))));clear hS; intro w hS;try simp only [Yk,Ye,Y9,Y7,Yh,Ym,Yc] at hS
 refine .q 2 rfl (.nil (.ret (Xg3 (b:=_) (cs:=[_,_,_,_,_,_,_,_]) Qr48 hS (k:=0) rfl X61 X10 rfl rfl rfl rfl ?_)));exact ⟨_,rfl,J3,z0,_,_,_,Le.trans hJ hJ3,rfl,⟨none,0,rfl,Yq _,RS.nil _ _⟩,fun D2 hD2=>by rw [<- hD.unique hD2,Xha,if_neg (by omega),if_neg (by omega),Xwc (fun q e he=>hno q e (by have:=(Y5.1 he).1; omega) he)]; try rfl,(hS.drop (k:=0) rfl)⟩
theorem Xea (a:Option Addr) (c:Nat) (l:List (List UInt8)) (hl:l.length<=1000000) (B w:World) (I:Im) (hr:RS I a 1 l.length (l.map S)) (As:List X7) (hS:Sat B w I As) :
  Cz 161 [.slice a l.length c] w fun v w'=>∃ J ra rc,v=.slice ra l.length rc/\Le I J/\l.length<=rc/\RS J ra 1 l.length (l.map S)/\Sat B w' J As:=by
 have fin:∀ (v:Value) (w':World) (n:Nat) (xs:List Value),n=l.length->xs=l.map S->Go.RowKit.Below w.heap.size w w'->w'.ownsRow w.heap.size 9 1 v n xs->∃ J ra rc,v=.slice ra l.length rc/\Le I J/\l.length<=rc/\RS J ra 1 l.length (l.map S)/\Sat B w' J As:=by
  intro v w' n xs hn hx hb ho;subst hn; subst hx;have h2:=hS.grownRow hb ho;obtain ⟨ra,rc,rfl,h3,_⟩:=h2.vecSlice (k:=0) rfl;obtain ⟨J,hJ,hRS,hS2⟩:=h2.freezeVec (k:=0) rfl;exact ⟨J,ra,rc,rfl,hJ,h3,hRS,hS2⟩
 cases a with
 | none =>
  have h0:l=[]:=by
   rcases Y1v l.length with h | h
   ·exact Yj h
   ·obtain ⟨p,hp,_⟩:=hr.2 h; cases hp
  subst h0;refine (Tryz.slices_Clone_string_nil 0 c w).mono fun e w' he=>?_
  obtain ⟨rfl,rfl⟩:=he;exact ⟨_,rfl,I,none,0,rfl,Le.refl _,Yq _,RS.nil _ _,hS⟩
 | some p =>
  rcases Y1v l.length with h | h
  ·have h0:=Yj h;subst h0;refine (Tryz.slices_Clone_string_zero p c w).mono fun e w' he=>?_
   obtain ⟨v',rfl,ho,_,hb⟩:=he;exact ⟨_,rfl,fin v' w' 0 [] rfl rfl hb ho⟩
  ·obtain ⟨q,hq,hA⟩:=hr.2 h;injection hq with hq
   subst hq;obtain ⟨b,off,sp⟩:=p;have hsp:sp=none:=hA.1;subst hsp;refine (Tryz.slices_Clone_string b off l.length c (l.map fun x=>⟨x.toArray⟩) w (by rw [Y14]; exact Yq _) (by omega) (fun j hj=>?_)).mono fun e w' he=>?_
   ·rw [Y14] at hj;have h2:=X4g hS hA (j:=j) (v:=S (l[j])) (by rw [Yu,Y4 hj]; rfl);rw [show (⟨b,off,none⟩:Addr).add j=⟨b,off+j,none⟩ from X15 b off j] at h2;rw [h2,Y8,Yu,Y4 hj];rfl
   ·obtain ⟨v',rfl,ho,_,hb⟩:=he;refine ⟨_,rfl,fin v' w' l.length _ rfl ?_ hb ho⟩;rw [Yx (by rw [Y14]; exact Yq _),List.map_map];rfl
theorem Xwz (s:Sv) (a:Option Addr) (c:Nat) (hrl:s.rel.length<=1000000) (B w:World) (I:Im) (hr:RS I a 1 s.rel.length (s.rel.map S)) (As:List X7) (hS:Sat B w I As) :
  Cz 132 [.agg [I64 s.id,F64 s.ord,S s.urls,.bool s.login,.bool s.proxy,.bool s.back,S s.calls,.slice a s.rel.length c].toArray] w fun v w'=>∃ J cs,Le I J/\v=.agg (List.toArray cs)/\SvAt J s cs/\Sat B w' J As:=by
 refine calls Tryz.func132 rfl Tryz.ntmps132 rfl (.seq (.region (.boxA (cs:=[_,_,_,_,_,_,_,_]) hS (.of rfl) rfl ?_)));intro b1 w hS;refine .allocA (cs:=[_,_,_,_,_,_,_,_]) hS Xbq rfl ?_;intro b2 w hS;refine .nil (.seq (.region (.val (.fo 7 rfl X2d rfl rfl Xkf rfl) rfl (.val (.lo rfl hS (k:=1) rfl Xm6 rfl) rfl (.call Tryz.func161 rfl (ec9 rfl X0) rfl (Xea a c s.rel hrl B _ I hr _ hS) ?_)))));rintro _ w ⟨J,ra,rc,rfl,hJ,hrc,hrr,hS⟩;refine .val (.fo 7 rfl X2d rfl rfl Xkf rfl) rfl (.s1 hS (k:=1) rfl rfl rfl rfl Xkf (by simp) ?_);intro w hS;refine .nil (.seq (.region (.val (.ldsW (cs:=[_,_,_,_,_,_,_,_]) (.of rfl) hS (k:=1) rfl X61 X10 rfl) rfl (.so hS (k:=0) rfl rfl rfl rfl X10 rfl (by simp) ?_))));intro w hS;try simp only [Yk,Ye,Y9,Y7,Yh,Ym,Yc] at hS
 refine .nil (.ret (ret1c (b:=_) (cs:=[_,_,_,_,_,_,_,_]) Tryz.results132 hS (k:=0) rfl X61 X10 rfl rfl ?_));exact ⟨_,rfl,J,[I64 s.id,F64 s.ord,S s.urls,.bool s.login,.bool s.proxy,.bool s.back,S s.calls,.slice ra s.rel.length rc],hJ,rfl,⟨ra,rc,rfl,hrc,hrr⟩,hS.y 0 2⟩
def X1p (s:Sv) (a:Option Addr) (c:Nat) (p q:Addr):List Value:=[I64 s.id,F64 s.ord,S s.urls,.bool s.login,.bool s.proxy,.bool s.back,S s.calls,.slice a s.rel.length c,.pointer (some p),.pointer (some q)]
def EntAt (I:Im) (s:Sv) (l:List Value):Prop:=∃ a c p q Q R,l=X1p s a c p q/\s.rel.length<=c/\RS I a 1 s.rel.length (s.rel.map S)/\cmp s.urls=.ok Q/\PatI I p Q s.urls.length/\cmp s.calls=.ok R/\PatI I q R s.calls.length
def EntsIn (I:Im) (a:Option Addr) (E:List (List Value)) (l:List Sv):Prop:=E.length=l.length/\∀ (i:Nat) (s:Sv),l[i]?=some s->∃ p c,a=some p/\E[i]?=some c/\At I (p.add (i*10)) c/\EntAt I s c
def Xgj (w:World) (I:Im) (a:Option Addr) (l:List Sv):Prop:=∀ (i:Nat) (s:Sv),l[i]?=some s->∃ p c,a=some p/\(∀ (j:Nat) v,c[j]?=some v->w.cell? ((p.add (i*10)).add j)=some v)/\EntAt I s c
theorem EntsIn.now {B w:World} {I:Im} {As:List X7} {a:Option Addr} {E:List (List Value)} {l:List Sv} (h:EntsIn I a E l) (hS:Sat B w I As):Xgj w I a l:=fun i s hs=>by
 obtain ⟨p,c,e,_,h1,h2⟩:=h.2 i s hs;exact ⟨p,c,e,fun j v hj=>X4g hS h1 hj,h2⟩
theorem Xs7 {B w:World} {I:Im} {As:List X7} {k T cap:Nat} {a:Option Addr} {E:List (List Value)} {l:List Sv} (hS:Sat B w I As) (hk:As[k]?=some (Vec T 10 (.slice a l.length cap) l.length E.flatten)) (h10:∀ c∈E,c.length=10)
  (hE:∀ (i:Nat) (s:Sv),l[i]?=some s->∃ c,E[i]?=some c/\EntAt I s c):Xgj w I a l:=fun i s hs=>by
 obtain ⟨c,hc,he⟩:=hE i s hs;have hi:=(Y5.1 hs).1;obtain ⟨g,cap',rest,hv,_,_,_,_,hS2⟩:=hS.vecOpen hk (by omega);injection hv with hv1 hv2 hv3
 have hlk:k<As.length:=(Y5.1 hk).1;have hb:w.heap[g]?=some (Xl (E.flatten ++ rest) T):=hS2.block (k:=k) (by simp [hlk,blk]);refine ⟨⟨g,0,none⟩,c,hv1,fun j v hj=>?_,he⟩;have hjl:j<10:=by
  have h1:=(Y5.1 hj).1;rw [h10 c (Yl hc)] at h1;exact h1
 rw [Addr.add_add,show (⟨g,0,none⟩:Addr).add (i*10+j)=ad g (0+(i*10+j)) from X15 g 0 _,Yc];refine X1b hb ?_;have h2:=X5d E h10 i j hjl;rw [hc] at h2;have h3:E.flatten[i*10+j]?=some v:=h2.trans hj;rw [Yi (Y5.1 h3).1];exact h3
theorem ldsC {P:Program} {n:Nat} {L:Env} {w:World} {ty:TypeId} {pos:String} {af:Array Edge} {g:Option (Nat×Bool)} {t:TypeId} {x:Operand} {d:Option Nat} {p:Addr} {s:Nat} {vs:List Value} (hx:Ev n L x (.pointer (some p))) (hv:∀ (j:Nat) v,vs[j]?=some v->w.cell? (p.add j)=some v) (ht:∀ w,(isAgg t).run P w=.ok true w) (hs:∀ w,(Go.sizeOf t).run P w=.ok s w)
  (hl:vs.length=s):Ex P n L w ⟨d,.load t x,ty,pos,af,g⟩ (.agg vs.toArray) w:=fun a ha=>by
 have h:=run_loadCells_list (P:=P) w p vs hv;rw [hl] at h;simp [execOp,hx a ha,Instr.loadAt,Instr.sureAddr,loadVar,ht,hs,h]
def X2u (pr:Sv->Bool):List Sv->Nat->Int
 | [],_=>-1
 | s::r,i=>if pr s then (i:Int) else X2u pr r (i+1)
theorem X6m (pr:Sv->Bool):∀ (n:Nat) (r:List Sv) (i:Nat),(∀ (j:Nat) s,j<n->r[j]?=some s->pr s=false)->X2u pr r i=X2u pr (r.drop n) (i+min n r.length)
 | 0,r,i,_=>by simp
 | n+1,[],i,_=>by simp [X2u]
 | n+1,s::r,i,h=>by
  rw [X2u,if_neg (by rw [h 0 s (by omega) rfl]; decide),X6m pr n r (i+1) (fun j t hj ht=>h (j+1) t (by omega) (by simpa using ht)),Y7,List.length_cons]
  congr 1
  omega
theorem Xl2 {pr:Sv->Bool} {l:List Sv} {i:Nat} {s:Sv} (h:∀ (j:Nat) t,j<i->l[j]?=some t->pr t=false) (hs:l[i]?=some s) (hp:pr s=true):X2u pr l 0=(i:Int):=by
 have hi:=(Y5.1 hs).1;rw [X6m pr i l 0 h,Yc,Y2h (by omega),Y13 hi,(Y5.1 hs).2,X2u,if_pos hp]
theorem Xhb {pr:Sv->Bool} {l:List Sv} (h:∀ (j:Nat) t,l[j]?=some t->pr t=false):X2u pr l 0=-1:=by
 rw [X6m pr l.length l 0 (fun j t _ ht=>h j t ht),Y2x];rfl
theorem X6w (a:Option Addr) (cap:Nat) (l:List Sv) (hln:l.length<=100000) (pr:Sv->Bool) (fid:FuncId) (fn:Func) (hfn:Tryz.prog.funcs[fid]?=some fn) (hcal:Xj fn=true) (capv:List Value) (B w:World) (I:Im) (As:List X7) (hE:∀ w,Sat B w I As->Xgj w I a l) (hf:∀ (s:Sv) (c:List Value),EntAt I s c->∀ w,Sat B w I As->Calls Tryz.prog fid ([Value.agg c.toArray] ++ capv).toArray w (Ret fun v w'=>v=.bool (pr s)/\Sat B w' I As)) (hS:Sat B w I As) :
  Cz 129 [.slice a l.length cap,.func (.func fid) #[] capv.toArray] w fun v w'=>v=I64 (X2u pr l 0)/\Sat B w' I As:=by
 refine calls Tryz.func129 rfl Tryz.ntmps129 rfl (.seq (.q 1 rfl (.seq (.seq (.region (.run 3 rfl ⟨⟨_,X9a⟩,trivial⟩ (.nil (.block (.loop (σ:=Nat) (fun i=>[(0,.slice a l.length cap),(1,.func (.func fid) #[] capv.toArray),(7,I64 (l.length:Nat)),(8,I64 (i:Nat))]) (fun i w=>i<=l.length/\(∀ (j:Nat) t,j<i->l[j]?=some t->pr t=false)/\Sat B w I As) (fun i=>l.length - i) 0 ⟨rfl,rfl,rfl,rfl,trivial⟩ ⟨Yo _,fun _ _ h=>absurd h (by omega),hS⟩ ?_)))))))));rintro i w ⟨hi,hno,hS⟩;refine .seq (.q 1 rfl (.seq ?_));refine .cond rfl (fun hb9=>?_) fun hb9=>?_
 ·have hc9:=hb9; try simp only [Y6] at hc9
  refine .skip (.seq (.block (.seq ?_)));obtain ⟨s,hs⟩:∃ s,l[i]?=some s:=⟨_,Y4 (by omega)⟩
  obtain ⟨p,c,rfl,hx,he⟩:=hE w hS i s hs;have he2:=he;obtain ⟨ra,rc,pp,qq,Q,R,rfl,_⟩:=he2;unfold X1p at hx he;refine .q 2 rfl (.seq (.t 3 rfl (.val (.ii rfl rfl (by omega) (by omega) X9a X3v) rfl (.val (ldsC (.of rfl) hx Xel X3v rfl) rfl (.vcall (cap:=capv) hfn hcal (.of rfl) (ec9 rfl X0) rfl (hf s _ he w hS) ?_)))));clear hS;rintro _ w ⟨rfl,hS⟩;refine .nil (.cond rfl (fun hb16=>?_) fun hb16=>?_)
  ·refine .seq (.q 2 rfl (.ret (Xc Tryz.results129 rfl ?_)));exact ⟨_,rfl,by rw [Xl2 hno hs hb16],hS⟩
  have hc16:=hb16; try simp only [Y6] at hc16
  refine .skip (.region (.run 2 rfl ⟨⟨by omega,by omega⟩,trivial⟩ (.nil ?_)));refine ⟨i+1,⟨rfl,rfl,rfl,rfl,trivial⟩,⟨by omega,fun j t hj ht=>?_,hS⟩,by omega⟩;rcases Yp j i with h1 | h1
  ·exact hno j t h1 ht
  ·have e:j=i:=by omega
   subst e;rw [hs] at ht; cases ht;exact hb16
 have hc9:=hb9; try simp only [Y6] at hc9
 refine .exit (.seq (.q 1 rfl (.ret (Xc Tryz.results129 rfl ?_))));exact ⟨_,rfl,by rw [Xhb (fun j t ht=>hno j t (by have:=(Y5.1 ht).1; omega) ht)],hS⟩
theorem X99 (a:Option Addr) (cap:Nat) (l:List Sv) (hln:l.length<=100000) (pr:Sv->Bool) (fid:FuncId) (fn:Func) (hfn:Tryz.prog.funcs[fid]?=some fn) (hcal:Xj fn=true) (capv:List Value) (B w:World) (I:Im) (As:List X7) (hE:∀ w,Sat B w I As->Xgj w I a l) (hf:∀ (s:Sv) (c:List Value),EntAt I s c->∀ w,Sat B w I As->Calls Tryz.prog fid ([Value.agg c.toArray] ++ capv).toArray w (Ret fun v w'=>v=.bool (pr s)/\Sat B w' I As)) (hS:Sat B w I As) :
  Cz 158 [.slice a l.length cap,.func (.func fid) #[] capv.toArray] w fun v w'=>v=.bool (decide (0<=X2u pr l 0))/\Sat B w' I As:=by
 refine calls Tryz.func158 rfl Tryz.ntmps158 rfl (.seq (.q 1 rfl (.seq (.t 2 rfl (.call Tryz.func129 rfl (ec9 rfl (ec9 rfl X0)) rfl (X6w a cap l hln pr fid fn hfn hcal capv B _ I As hE hf hS) ?_)))));rintro _ w ⟨rfl,hS⟩;refine .q 2 rfl (.nil (.ret (Xc Tryz.results158 rfl ?_)));exact ⟨_,rfl,rfl,hS⟩
end Go.Proofs.YtbciobiiejpdgaaGreatDoor
namespace Go.Proofs.YtbciobiiejpdgaaGreatDoor
open Gk Ul Pc Tk Tr
def Xr (l:List Rec):List Value:=(l.map X5).flatten
theorem Xas (l:List Rec):(Xr l).length=l.length*10:=by
 unfold Xr
 induction l with
 | nil=>rfl
 | cons r l ih=>rw [Y1b,Y1q,Y0,ih,List.length_cons,show (X5 r).length=10 from rfl]; omega
def RecsW (w:World) (a:Option Addr) (l:List Rec):Prop:=∀ (i:Nat) (r:Rec),l[i]?=some r->∃ p,a=some p/\(∀ (j:Nat) v,(X5 r)[j]?=some v->w.cell? ((p.add (i*10)).add j)=some v)
theorem Xpl {l:List Rec} {i j:Nat} {r:Rec} {v:Value} (hr:l[i]?=some r) (hj:(X5 r)[j]?=some v):(Xr l)[i*10+j]?=some v:=by
 have h2:=X5d (l.map X5) (fun c hc=>by obtain ⟨x,_,rfl⟩:=Y2b.1 hc; rfl) i j (show j<10 from (Y5.1 hj).1);rw [Yu,hr] at h2;exact h2.trans hj
theorem X7g {B w:World} {I:Im} {As:List X7} {k T cap:Nat} {a:Option Addr} {l:List Rec} (hS:Sat B w I As) (hk:As[k]?=some (Vec T 10 (.slice a l.length cap) l.length (Xr l))):RecsW w a l:=fun i r hr=>by
 have hi:=(Y5.1 hr).1;obtain ⟨g,cap',rest,hv,_,_,_,_,hS2⟩:=hS.vecOpen hk (by omega);injection hv with hv1 hv2 hv3
 have hlk:k<As.length:=(Y5.1 hk).1;have hb:w.heap[g]?=some (Xl (Xr l ++ rest) T):=hS2.block (k:=k) (by simp [hlk,blk]);refine ⟨⟨g,0,none⟩,hv1,fun j v hj=>?_⟩;rw [Addr.add_add,show (⟨g,0,none⟩:Addr).add (i*10+j)=ad g (0+(i*10+j)) from X15 g 0 _,Yc];refine X1b hb ?_;have h3:=Xpl hr hj;rw [Yi (Y5.1 h3).1];exact h3
theorem ldC {P:Program} {n:Nat} {L:Env} {w:World} {ty:TypeId} {pos:String} {af:Array Edge} {g:Option (Nat×Bool)} {t:TypeId} {x:Operand} {d:Option Nat} {p:Addr} {v:Value} (hx:Ev n L x (.pointer (some p))) (hv:w.cell? p=some v) (ht:∀ w,(isAgg t).run P w=.ok false w):Ex P n L w ⟨d,.load t x,ty,pos,af,g⟩ v w:=fun a hh=>by
 simp [execOp,hx a hh,Instr.loadAt,Instr.sureAddr,loadVar,ht,load,Sem.run,hv]
theorem Ex.slNil {P:Program} {n:Nat} {L:Env} {w:World} {ty t':TypeId} {pos:String} {af:Array Edge} {g:Option (Nat×Bool)} {t e:TypeId} {x y:Operand} {d:Option Nat} {a:Option Addr} {m c:Nat} (hx:Ev n L x (.slice a m c)) (hy:Ev n L y (.slice none 0 0)) (hT:P.underlying t=some (.slice e)):Ex P n L w ⟨d,.binOp .eql t x y t',ty,pos,af,g⟩ (.bool a.isNone) w :=
 X16 hx hy (fun _ _=>by unfold eqGuard; split <;> simp) (run_eql_slice_nil w t e a m c hT)
theorem SepAll.app:∀ {Xs As:List X7} {h:Xbi},SepAll (Xs ++ As) h ↔ ∃ h1 h2,h=h1 ++ h2/\SepAll Xs h1/\SepAll As h2
 | [],As,h=>⟨fun hs=>⟨[],h,rfl,rfl,hs⟩,fun ⟨h1,h2,e,h3,h4⟩=>by
   have h3:h1=[]:=h3;subst h3; subst e; exact h4⟩
 | X::Xs,As,h=>by
  constructor
  ·rintro ⟨h1,h2,rfl,hx,hs⟩;obtain ⟨h3,h4,rfl,h5,h6⟩:=(SepAll.app (Xs:=Xs)).1 hs;exact ⟨h1 ++ h3,h4,by rw [Yd],⟨h1,h3,rfl,hx,h5⟩,h6⟩
  ·rintro ⟨h1,h2,rfl,⟨h3,h4,rfl,hx,h5⟩,h6⟩;exact ⟨h3,h4 ++ h2,by rw [Yd],hx,(SepAll.app (Xs:=Xs)).2 ⟨h4,h2,rfl,h5,h6⟩⟩
def Box {X:Type} (T:X->List X7):X7:=fun h=>∃ x,SepAll (T x) h
theorem Sat.unbox {X:Type} {T:X->List X7} {B w:World} {I:Im} {As:List X7} (hS:Sat B w I (Box T::As)):∃ x,Sat B w I (T x ++ As):=by
 obtain ⟨h,⟨h1,h2,rfl,⟨x,hx⟩,h3⟩,hg⟩:=hS;exact ⟨x,h1 ++ h2,SepAll.app.2 ⟨h1,h2,rfl,hx,h3⟩,hg⟩
theorem Sat.box {X:Type} {T:X->List X7} {B w:World} {I:Im} {As:List X7} (x:X) (hS:Sat B w I (T x ++ As)):Sat B w I (Box T::As):=by
 obtain ⟨h,hs,hg⟩:=hS;obtain ⟨h1,h2,rfl,h3,h4⟩:=SepAll.app.1 hs;exact ⟨h1 ++ h2,⟨h1,h2,rfl,⟨x,h3⟩,h4⟩,hg⟩
theorem X67 (a:Option Addr) (cap:Nat) (l:List Rec) (hln:l.length<=100000) (pr:Rec->Bool) (fid:FuncId) (fn:Func) (hfn:Tryz.prog.funcs[fid]?=some fn) (hcal:Xj fn=true) (capv:List Value) (B w:World) (I:Im) (As:List X7) (hE:∀ w,Sat B w I As->RecsW w a l) (hf:∀ (r:Rec) w,Sat B w I As->Calls Tryz.prog fid ([Value.agg (X5 r).toArray] ++ capv).toArray w (Ret fun v w'=>v=.bool (pr r)/\Sat B w' I As)) (hS:Sat B w I As) :
  Cz 124 [.slice a l.length cap,.func (.func fid) #[] capv.toArray] w fun v w'=>v=I64 (Xx pr l 0)/\Sat B w' I As:=by
 refine calls Tryz.func124 rfl Tryz.ntmps124 rfl (.seq (.q 1 rfl (.seq (.seq (.region (.run 3 rfl ⟨⟨_,X2y⟩,trivial⟩ (.nil (.block (.loop (σ:=Nat) (fun i=>[(0,.slice a l.length cap),(1,.func (.func fid) #[] capv.toArray),(7,I64 (l.length:Nat)),(8,I64 (i:Nat))]) (fun i w=>i<=l.length/\(∀ (j:Nat) t,j<i->l[j]?=some t->pr t=false)/\Sat B w I As) (fun i=>l.length - i) 0 ⟨rfl,rfl,rfl,rfl,trivial⟩ ⟨Yo _,fun _ _ h=>absurd h (by omega),hS⟩ ?_)))))))));rintro i w ⟨hi,hno,hS⟩;refine .seq (.q 1 rfl (.seq ?_));refine .cond rfl (fun hb9=>?_) fun hb9=>?_
 ·have hc9:=hb9; try simp only [Y6] at hc9
  refine .skip (.seq (.block (.seq ?_)));obtain ⟨r,hr⟩:∃ r,l[i]?=some r:=⟨_,Y4 (by omega)⟩
  obtain ⟨p,rfl,hx⟩:=hE w hS i r hr;refine .q 2 rfl (.seq (.t 3 rfl ?_));refine .val (.ii rfl rfl (by omega) (by omega) X2y X29) rfl (.val (ldsC (.of rfl) hx Xbn X29 rfl) rfl (.vcall (cap:=capv) hfn hcal (.of rfl) (ec9 rfl X0) rfl (hf r w hS) ?_));clear hS;rintro _ w ⟨rfl,hS⟩;refine .nil (.cond rfl (fun hb16=>?_) fun hb16=>?_)
  ·refine .seq (.q 2 rfl (.ret (Xc Tryz.results124 rfl ?_)));exact ⟨_,rfl,by rw [X2k hno hr hb16],hS⟩
  have hc16:=hb16; try simp only [Y6] at hc16
  refine .skip (.region (.run 2 rfl ⟨⟨by omega,by omega⟩,trivial⟩ (.nil ?_)));refine ⟨i+1,⟨rfl,rfl,rfl,rfl,trivial⟩,⟨by omega,fun j t hj ht=>?_,hS⟩,by omega⟩;rcases Yp j i with h1 | h1
  ·exact hno j t h1 ht
  ·have e:j=i:=by omega
   subst e;rw [hr] at ht; cases ht;exact hb16
 have hc9:=hb9; try simp only [Y6] at hc9
 refine .exit (.seq (.q 1 rfl (.ret (Xc Tryz.results124 rfl ?_))));exact ⟨_,rfl,by rw [X21 (fun j t ht=>hno j t (by have:=(Y5.1 ht).1; omega) ht)],hS⟩
theorem Xvs (r:Rec) (name:List UInt8) (b:Nat) (B w:World) (I:Im) (As:List X7) (hS:Sat B w I (blk b [S name] 9::As)) :
  Cz 125 [.agg (X5 r).toArray,ptr b 0] w fun v w'=>v=.bool (decide (r.name=name))/\Sat B w' I (blk b [S name] 9::As):=by
 refine calls Tryz.func125 rfl Tryz.ntmps125 rfl (.seq (.region (.boxA (cs:=[_,_,_,_,_,_,_,_,_,_]) hS (.of rfl) rfl ?_)));intro b2 w hS;refine .q 1 rfl (.nil (.seq (.region ?_)));refine .val (.fo 1 rfl X27 rfl rfl Qs9 rfl) rfl (.val (.lo rfl hS (k:=0) rfl Qg9 rfl) rfl (.val (.lo rfl hS (k:=1) rfl Qg9 rfl) rfl (.q 2 rfl (.nil (.ret (Xc Tryz.results125 rfl ?_))))));exact ⟨_,rfl,congrArg Value.bool (by rw [Y2u]; simp),hS.y 0 1⟩
theorem Xir (tb:Nat) (room:Int) (a:Option Addr) (c:Nat) (l:List Rec) (hl:l.length<=100000) (name:List UInt8) (B w:World) (I:Im) (As:List X7) (hS:Sat B w I (blk tb [I64 room,.slice a l.length c] 155::Vec 75 10 (.slice a l.length c) l.length (Xr l)::As)) :
  Cz 83 [ptr tb 0,S name] w fun v w'=>v=I64 (at0 l name)/\Sat B w' I (blk tb [I64 room,.slice a l.length c] 155::Vec 75 10 (.slice a l.length c) l.length (Xr l)::As):=by
 refine calls Qf83 rfl Tryz.ntmps83 rfl (.seq (.region (.box1 hS (.of rfl) rfl rfl ?_)));intro b3 w hS;refine .q 1 rfl (.nil (.seq (.t 2 rfl ?_)));refine .val (.fo 1 rfl X9v rfl rfl X6f rfl) rfl (.val (.lo rfl hS (k:=1) rfl Xcv rfl) rfl (.val (.makeFunc (ec9 rfl X0)) rfl (.call Tryz.func124 rfl (ec9 rfl (ec9 rfl X0)) rfl (X67 a c l hl (fun r=>decide (r.name=name)) 125 _ Tryz.func125 rfl [ptr b3 0] B _ I (blk b3 [S name] 9::(blk tb [I64 room,.slice a l.length c] 155::Vec 75 10 (.slice a l.length c) l.length (Xr l)::As)) (fun w h=>X7g h (k:=2) rfl) (fun r w h=>Xvs r name b3 B w I _ h) hS) ?_)));rintro _ w ⟨rfl,hS⟩;refine .q 1 rfl (.nil (.ret (Xc Tryz.results83 rfl ?_)));exact ⟨_,rfl,by rw [X9i]; rfl,hS.y 0 1⟩
theorem Xiu:Bld Tryz.prog 75 [(0,1),(1,1),(2,1),(3,1),(4,1),(5,1),(6,1),(7,1),(8,1),(9,1)] [.int .i64 0,S [],S [],S [],S [],S [],.int .i64 0,.int .i64 0,.int .i64 0,.bool false]:=X23 X27 Xcw (fun w=>by simp [go_sem])
theorem Xmd (tb:Nat) (room:Int) (a:Option Addr) (c:Nat) (l:List Rec) (hl:l.length<=100000) (name:List UInt8) (B w:World) (I:Im) (As:List X7) (hS:Sat B w I (blk tb [I64 room,.slice a l.length c] 155::Vec 75 10 (.slice a l.length c) l.length (Xr l)::As)) :
  Cz 85 [ptr tb 0,S name] w fun v w'=>v=.tuple #[.agg (X5 (getD l name)).toArray,.bool (get l name).isSome]/\Sat B w' I (blk tb [I64 room,.slice a l.length c] 155::Vec 75 10 (.slice a l.length c) l.length (Xr l)::As):=by
 refine calls Tryz.func85 rfl Tryz.ntmps85 rfl (.seq (.region (.allocA (cs:=[_,_,_,_,_,_,_,_,_,_]) hS Xcw rfl ?_)));intro b4 w hS;refine .q 1 rfl (.nil (.seq (.seq (.t 2 rfl (.call Qf83 rfl (ec9 rfl (ec9 rfl X0)) rfl (Xir tb room a c l hl name B _ I _ (hS.x [2,2])) ?_)))));rintro _ w ⟨rfl,hS⟩;replace hS:=hS.pick 2 rfl;refine .q 1 rfl (.nil (.seq (.q 2 rfl ?_)));refine .cond rfl (fun hb11=>?_) fun hb11=>?_
 ·refine .seq ?_;have hq:0<=at0 l name:=by simpa using hb11
  obtain ⟨j,r,hj,hr,hn⟩:∃ (j:Nat) (r:Rec),at0 l name=(j:Int)/\l[j]?=some r/\get l name=some r:=by
   rcases Tr.get_at l name with ⟨h1,_⟩ | ⟨j,r,h1,h2,_,h3⟩
   ·omega
   ·exact ⟨j,r,h1,h2,h3⟩
  have hjl:=(Y5.1 hr).1;obtain ⟨p,rfl,hx⟩:=X7g hS (k:=2) rfl j r hr;rw [hj];refine .t 2 rfl (.val (.fo 1 rfl X9v rfl rfl X6f rfl) rfl (.val (.lo rfl hS (k:=1) rfl Xcv rfl) rfl (.q 1 rfl (.val (.ii rfl rfl (by omega) (by omega) X2y X29) rfl (.val (ldsC (.of rfl) hx Xbn X29 rfl) rfl (.so hS (k:=0) rfl rfl rfl rfl X29 rfl (by simp) ?_))))));intro w hS;try simp only [Yk,Ye,Y9,Y7,Yh,Ym,Yc] at hS
  refine .q 1 rfl (.nil (.ret ?_));refine X1k (b:=_) (cs:=[_,_,_,_,_,_,_,_,_,_]) Tryz.results85 hS (k:=0) rfl Xbn X29 rfl rfl rfl ?_;exact ⟨_,rfl,by rw [getD,hn]; rfl,hS.y 0 1⟩
 refine .skip (.seq (.region (.val (.build (cs:=[_,_,_,_,_,_,_,_,_,_]) X4 Xiu rfl) rfl ?_)));refine .so hS (k:=0) rfl rfl rfl rfl X29 rfl (by simp) ?_;intro w hS;try simp only [Yk,Ye,Y9,Y7,Yh,Ym,Yc] at hS
 refine .q 1 rfl (.nil (.ret ?_));refine X1k (b:=_) (cs:=[_,_,_,_,_,_,_,_,_,_]) Tryz.results85 hS (k:=0) rfl Xbn X29 rfl rfl rfl (⟨_,rfl,?_,hS.y 0 1⟩);rcases Tr.get_at l name with ⟨h1,h2⟩ | ⟨j,r,h1,_⟩
 ·rw [getD,h2]; rfl
 ·exfalso; rw [h1] at hb11; simp at hb11
theorem X7c {l:List Rec} {i:Nat} {r:Rec} (hr:l[i]?=some r) (name:List UInt8):kids (l.take (i+1)) name=kids (l.take i) name ++ (if name≠[]/\r.parent=name then [r.name] else []):=by
 unfold kids Xlc;rw [Yz,hr,Y1e,Y39,Yw]
 congr 1
 by_cases h1:name=[]
 ·simp [h1]
 ·by_cases h2:r.parent=name
  ·simp [h1,h2]
  ·simp [h1,h2]
theorem Xdg (l:List Rec) (name:List UInt8):(kids l name).length<=l.length:=by
 unfold kids Xlc;rw [Y14];exact Y4p _ _
theorem Xqo (tb:Nat) (room:Int) (a:Option Addr) (c:Nat) (l:List Rec) (hl:l.length<=100000) (name:List UInt8) (B w:World) (I:Im) (As:List X7) (hS:Sat B w I (blk tb [I64 room,.slice a l.length c] 155::Vec 75 10 (.slice a l.length c) l.length (Xr l)::As)) :
  Cz 97 [ptr tb 0,S name] w fun v w'=>∃ J ra rc,v=.slice ra (kids l name).length rc/\Le I J/\(kids l name).length<=rc/\RS J ra 1 (kids l name).length ((kids l name).map S)/\Sat B w' J (blk tb [I64 room,.slice a l.length c] 155::Vec 75 10 (.slice a l.length c) l.length (Xr l)::As):=by
 refine calls Tryz.func97 rfl Tryz.ntmps97 rfl (.seq (.q 1 rfl (.seq (.q 1 rfl (.seq (.seq ?_))))));replace hS:=hS.vecNil 9 1;refine .t 2 rfl (.val (.fo 1 rfl X9v rfl rfl X6f rfl) rfl (.val (.lo rfl hS (k:=1) rfl Xcv rfl) rfl (.run 2 rfl ⟨⟨_,X2y⟩,trivial⟩ (.nil (.block (.loop (σ:=Value×Nat) (fun ⟨kv,i⟩=>[(0,ptr tb 0),(1,S name),(5,kv),(11,.slice a l.length c),(12,I64 (l.length:Nat)),(13,I64 (i:Nat))]) (fun ⟨kv,i⟩ w=>i<=l.length/\Sat B w I (Vec 9 1 kv (kids (l.take i) name).length ((kids (l.take i) name).map S)::blk tb [I64 room,.slice a l.length c] 155::Vec 75 10 (.slice a l.length c) l.length (Xr l)::As)) (fun ⟨kv,i⟩=>l.length - i) (.slice none 0 0,0) ⟨rfl,rfl,rfl,rfl,rfl,rfl,trivial⟩ ⟨Yo _,hS⟩ ?_))))));rintro ⟨kv,i⟩ w ⟨hi,hS⟩;refine .seq (.q 1 rfl (.seq ?_));refine .cond rfl (fun hb14=>?_) fun hb14=>?_
 ·have hc14:=hb14; simp only [Y6] at hc14;refine .skip (.seq (.block (.seq ?_)));obtain ⟨r,hr⟩:∃ r,l[i]?=some r:=⟨_,Y4 (by omega)⟩
  obtain ⟨p,rfl,hx⟩:=X7g hS (k:=2) rfl i r hr;have hkl:=Xdg (l.take i) name;rw [Yr] at hkl;refine .region (.val (.ii rfl rfl (by omega) (by omega) X2y X29) rfl (.val (ldsC (.of rfl) hx Xbn X29 rfl) rfl (.allocA (cs:=[_,_,_,_,_,_,_,_,_,_]) hS Xcw rfl ?_)));intro b7 w hS;refine .so hS (k:=0) rfl rfl rfl rfl X29 rfl (by simp) ?_;intro w hS;try simp only [Yk,Ye,Y9,Y7,Yh,Ym,Yc] at hS
  refine .nil (.seq (.t 3 rfl ?_));refine .gval rfl rfl (fun hg1=>(by exact .fo 2 rfl X27 rfl rfl Qs9 rfl)) rfl ?_;refine .gval rfl rfl (fun hg1=>(by exact (.ld (.gd hg1 rfl) hS (k:=0) rfl Qg9 rfl))) rfl ?_;refine .gm rfl rfl rfl rfl (.gval rfl rfl (fun hg1=>(.eqs (.gd hg1 rfl) (.gd hg1 rfl))) rfl (.val (.pa rfl rfl rfl) rfl (.nil ?_)));refine .cond rfl (fun hb24=>?_) fun hb24=>?_
  ·have hc24:=hb24; simp only [Y6] at hc24;refine .t 1 rfl (.val (.fo 1 rfl X27 rfl rfl Qs9 rfl) rfl (.val (.lo rfl hS (k:=0) rfl Qg9 rfl) rfl (.buildSlice (cs:=[_]) hS (pc9 rfl X4) X1u Qs9 Qz9 rfl rfl rfl rfl ?_)));intro b28 w hS;refine .append (size:=1) (bytes:=16) hS (.of rfl) (.of rfl) (k:=1) rfl X1u X2v rfl rfl rfl rfl rfl rfl rfl ⟨by omega,by unfold maxLen; omega⟩ rfl ?_;intro v29 w hS;obtain ⟨a29,c29,rfl,hcap29,_⟩:=hS.vecSlice (k:=1) (v:=v29) rfl;refine .q 1 rfl (.nil (.region (.run 2 rfl ⟨⟨by omega,by omega⟩,trivial⟩ (.nil ?_))));have e:=X7c hr name;rw [if_pos (by simpa using hb24)] at e;refine ⟨(.slice a29 ((kids (l.take i) name).length+1) c29,i+1),⟨rfl,rfl,rfl,rfl,rfl,rfl,trivial⟩,⟨by (try dsimp only); omega,?_⟩,by (try dsimp only); omega⟩;rw [e,Y0,Yw];exact hS.y 0 1
  have hc24:=hb24; simp only [Y6] at hc24;refine .skip (.region (.run 2 rfl ⟨⟨by omega,by omega⟩,trivial⟩ (.nil ?_)));have e:=X7c hr name;rw [if_neg (by simpa using hb24),Y9] at e;refine ⟨(kv,i+1),⟨rfl,rfl,rfl,rfl,rfl,rfl,trivial⟩,⟨by (try dsimp only); omega,?_⟩,by (try dsimp only); omega⟩;rw [e];exact hS.y 0 1
 have hc14:=hb14; simp only [Y6] at hc14;refine .exit (.seq (.q 2 rfl (.ret (Xc Tryz.results97 rfl ?_))));have hin:i=l.length:=by omega
 subst hin;rw [Y15] at hS;obtain ⟨ka,kc,rfl,hkc,_⟩:=hS.vecSlice (k:=0) rfl;obtain ⟨J,hJ,hRS,hS⟩:=hS.freezeVec (k:=0) rfl;exact ⟨_,rfl,J,ka,kc,rfl,hJ,hkc,hRS,hS⟩
theorem X56:Tryz.prog.info? 75=some Tryz.t75:=by kernel_rfl
theorem Xnr:Bld Tryz.prog 155 [(0,1),(1,1)] [.int .i64 0,.slice none 0 0]:=X23 X9v Tryz.zeroValue155 (fun w=>by simp [go_sem])
theorem X46 (l:List Rec) (r:Rec):Xr (l ++ [r])=Xr l ++ X5 r:=by unfold Xr; simp
theorem Xg5 {r:Rec}:∀ {l:List Rec} {j:Nat},j<l.length->Xr (l.set j r)=(Xr l).take (j*10) ++ X5 r ++ (Xr l).drop (j*10+10)
 | [],j,h=>absurd h (by simp)
 | t::l,0,h=>by
  unfold Xr;rw [Y58,Y1b,Y1q,Y1b,Y1q,Y2w (by exact Yq 10)];rfl
 | t::l,j+1,h=>by
  have h1:=Xg5 (r:=r) (l:=l) (j:=j) (by simpa using h);have e:∀ l:List Rec,Xr (t::l)=X5 t ++ Xr l:=fun l=>rfl
  rw [Y4c,e,e,h1,show (j+1)*10=(X5 t).length+j*10 by show (j+1)*10=10+j*10; omega,Y52,Y3z,List.drop_length_add_append];simp only [Yd]
theorem Xx3 (r:Rec):(X5 r).all Value.oneCell'=true:=rfl
theorem X7m:∀ (l:List Rec),(Xr l).all Value.oneCell'=true
 | []=>rfl
 | r::l=>by
  show (X5 r ++ Xr l).all Value.oneCell'=true
  rw [Y4y,Xx3,X7m l]; rfl
def Xpk (n:Int):Int:=max 0 (min n 64)
theorem Xid (n:Int) (B w:World) (I:Im) (As:List X7) (hS:Sat B w I As) :
  Cz 76 [I64 n] w fun v w'=>∃ tb,v=ptr tb 0/\Sat B w' I (blk tb [I64 (Xpk n),.slice none (([]:List Rec)).length 0] 155::Vec 75 10 (.slice none (([]:List Rec)).length 0) (([]:List Rec)).length (Xr (([]:List Rec)))::As):=by
 refine calls Tryz.func76 rfl Tryz.ntmps76 rfl (.seq (.q 1 rfl (.seq (.t 1 rfl (.val (.min2 (.of rfl) (.of rfl)) rfl (.val (.max2 (.of rfl) (.of rfl)) rfl (.val (.build (cs:=[_,_]) (pc9 rfl X4) Xnr rfl) rfl (.boxA (cs:=[_,_]) hS (.of rfl) rfl ?_))))))));intro b7 w hS;refine .q 1 rfl (.nil (.ret (Xc Tryz.results76 rfl ?_)));refine ⟨_,rfl,_,rfl,?_⟩;exact (hS.vecNil 75 10).pick 1 rfl
theorem Xut (tb:Nat) (room:Int) (a:Option Addr) (c:Nat) (l:List Rec) (hl:l.length<=100000) (r:Rec) (hn:r.name.length<=1000000) (hp:r.parent.length<=1000000) (B w:World) (I:Im) (hK:Known I) (hP:PreAt I) (As:List X7) (hS:Sat B w I (blk tb [I64 room,.slice a l.length c] 155::Vec 75 10 (.slice a l.length c) l.length (Xr l)::As)) :
  Cz 35 [ptr tb 0,.agg (X5 r).toArray] w fun v w'=>v=I64 (X6z room l r:Nat)/\∃ a c,Sat B w' I (blk tb [I64 room,.slice a (add room l r).length c] 155::Vec 75 10 (.slice a (add room l r).length c) (add room l r).length (Xr (add room l r))::As):=by
 refine calls Tryz.func35 rfl Tryz.ntmps35 rfl (.seq (.region (.boxA (cs:=[_,_,_,_,_,_,_,_,_,_]) hS (.of rfl) rfl ?_)));intro b3 w hS;refine .q 1 rfl (.nil (.seq (.block (.seq (.region ?_)))));refine .val (.ldsW (cs:=[_,_,_,_,_,_,_,_,_,_]) (.of rfl) hS (k:=0) rfl Xbn X29 rfl) rfl (.call Tryz.func82 rfl (ec9 rfl X0) rfl (Xn7 r hn hp B _ I hK hP _ hS) ?_);rintro _ w ⟨rfl,hS⟩;refine .q 2 rfl (.nil ?_);refine .cond rfl (fun hb5=>?_) fun hb5=>?_
 ·refine .seq (.q 1 rfl (.ret (Xc Qr35 rfl ?_)));have hE:X6z room l r=1:=by rw [X6z,if_pos (by simpa using hb5)]
  have hQ:add room l r=l:=by rw [add,if_neg (by rw [hE]; decide)]
  rw [hE,hQ];exact ⟨_,rfl,rfl,a,c,hS.y 0 1⟩
 have hc5:=hb5; simp only [Y6] at hc5;refine .seq (.t 1 rfl ?_);refine .val (.fo 1 rfl X27 rfl rfl Qs9 rfl) rfl (.val (.lo rfl hS (k:=0) rfl Qg9 rfl) rfl (.call Qf83 rfl (ec9 rfl (ec9 rfl X0)) rfl (Xir tb room a c l hl r.name B _ I _ (hS.x [2,2])) ?_));rintro _ w ⟨rfl,hS⟩;refine .q 2 rfl (.nil ?_);refine .cond rfl (fun hb9=>?_) fun hb9=>?_
 ·refine .seq (.q 1 rfl (.ret (Xc Qr35 rfl ?_)));have h1:¬ Xw r=false:=by simpa using hb5
  have hE:X6z room l r=7:=by rw [X6z,if_neg h1,if_pos (by simpa using hb9)]
  have hQ:add room l r=l:=by rw [add,if_neg (by rw [hE]; decide)]
  rw [hE,hQ];exact ⟨_,rfl,rfl,a,c,hS.y 2 1⟩
 have hc9:=hb9; simp only [Y6] at hc9;refine .seq (.region ?_);refine .val (.fo 2 rfl X27 rfl rfl Qs9 rfl) rfl (.val (.lo rfl hS (k:=2) rfl Qg9 rfl) rfl (.q 2 rfl (.gm rfl rfl rfl rfl ?_)));refine .gval rfl rfl (fun hg1=>(by exact .fo 2 rfl X27 rfl rfl Qs9 rfl)) rfl ?_;refine .gval rfl rfl (fun hg1=>(by exact (.ld (.gd hg1 rfl) hS (k:=2) rfl Qg9 rfl))) rfl ?_;refine .gcall (T:=fun w=>Sat B w I (blk tb [I64 room,.slice a l.length c] 155::Vec 75 10 (.slice a l.length c) l.length (Xr l)::blk b3 [I64 r.kind,S r.name,S r.parent,S r.user,S r.service,S r.url,I64 r.made,I64 r.used,I64 r.uses,.bool r.fresh] 75::As)) rfl rfl rfl Qf83 rfl (fun hg1=>(Xd (.gd hg1 rfl) (Xd (.gd hg1 rfl) X0))) rfl (fun hg1=>Xir tb room a c l hl r.parent B _ I _ hS) hS ?_;rintro w hS;refine .gval rfl rfl (fun hg1=>(.lss (.gd hg1 rfl) (.of rfl))) rfl (.val (.pa rfl rfl rfl) rfl (.q 1 rfl (.nil ?_)));refine .cond rfl (fun hb15=>?_) fun hb15=>?_
 ·refine .seq (.q 1 rfl (.ret (Xc Qr35 rfl ?_)));have h1:¬ Xw r=false:=by simpa using hb5
  have h2:¬ 0<=at0 l r.name:=by simpa using hb9
  have hE:X6z room l r=6:=by rw [X6z,if_neg h1,if_neg h2,if_pos (by simpa using hb15)]
  have hQ:add room l r=l:=by rw [add,if_neg (by rw [hE]; decide)]
  rw [hE,hQ];exact ⟨_,rfl,rfl,a,c,hS.y 2 1⟩
 have hc15:=hb15; simp only [Y6] at hc15;refine .seq (.qt hS (.val (fun w hS=>(.mo rfl)) rfl (.val (fun w hS=>(.no rfl)) rfl ?_)));refine .val (fun w hS=>(by exact .fo 1 rfl X9v rfl rfl X6f rfl)) rfl ?_;refine .val (fun w hS=>(by exact (.lo rfl hS (k:=0) rfl Xcv rfl))) rfl ?_;refine .val (fun w hS=>(.lenSlice (.of rfl) X2y)) rfl (.val (fun w hS=>(.mo rfl)) rfl (.val (fun w hS=>(.no rfl)) rfl ?_));refine .val (fun w hS=>(by exact .fo 0 rfl X9v rfl rfl Qs3 rfl)) rfl ?_;refine .val (fun w hS=>(by exact (.lo rfl hS (k:=0) rfl Qg3 rfl))) rfl ?_;refine .val (fun w hS=>(.geq (.of rfl) (.of rfl))) rfl (.val (fun w hS=>(.ao rfl)) rfl (.nil ?_));intro w hS;refine .cond rfl (fun hb26=>?_) fun hb26=>?_
 ·have hc26:=hb26; simp only [Y6] at hc26;refine .seq (.q 1 rfl (.ret (Xc Qr35 rfl ?_)));have h1:¬ Xw r=false:=by simpa using hb5
  have h2:¬ 0<=at0 l r.name:=by simpa using hb9
  have h3:¬ (r.parent≠[]/\at0 l r.parent<0):=fun h=>by
   rcases hc15 with e | e
   ·exact h.1 e
   ·omega
  have hE:X6z room l r=5:=by rw [X6z,if_neg h1,if_neg h2,if_neg h3,if_pos (by simpa using hb26)]
  have hQ:add room l r=l:=by rw [add,if_neg (by rw [hE]; decide)]
  rw [hE,hQ];exact ⟨_,rfl,rfl,a,c,hS.y 2 1⟩
 have hc26:=hb26; simp only [Y6] at hc26;refine .skip (.seq (.dw (fun w=>∃ R,Sat B w I (blk b3 [I64 r.kind,S r.name,S r.parent,S r.user,S r.service,S r.url,I64 r.made,I64 r.used,I64 r.uses,.bool r.fresh] 75::blk tb [I64 room,.slice a l.length c] 155::R)) (fun j=>!([10].contains j)) ?_));replace hS:=hS.drew; generalize w.drew=w at hS ⊢;have hH:=(hS.x [0,2])
 refine .tp 0 rfl (fun w=>(.mo rfl)) (.tp 1 rfl (fun w=>(.mo rfl)) (.tp 2 rfl (fun w=>(.no rfl)) ?_));refine .tp 3 rfl (fun w=>(.fo 1 rfl X9v rfl rfl X6f rfl)) (.tk 4 rfl ⟨_,hH⟩ (fun w ⟨R,hS⟩=>((.lo rfl hS (k:=1) rfl Xcv rfl))) (.tk 5 rfl ⟨_,hH⟩ (fun w ⟨R,hS⟩=>((.ldsW (cs:=[_,_,_,_,_,_,_,_,_,_]) (.of rfl) hS (k:=0) rfl Xbn X29 rfl))) (.b1 6 rfl (.buildSlice (cs:=[_,_,_,_,_,_,_,_,_,_]) hS (pc9 rfl X4) X2y X29 Xcw rfl rfl rfl rfl ?_))));intro b43 w hS;refine .nil ?_;clear hH;have hH:=(hS.x [1,3])
 refine ⟨fun _ _=>⟨_,hH⟩,?_⟩;refine .b1 7 rfl (.append (size:=10) (bytes:=120) hS (.of rfl) (.of rfl) (k:=1) rfl X2y X56 rfl rfl rfl rfl rfl rfl rfl ⟨by omega,by unfold maxLen; omega⟩ rfl ?_);intro v44 w hS;obtain ⟨a44,c44,rfl,hcap44,_⟩:=hS.vecSlice (k:=1) (v:=v44) rfl;refine .nil ?_;clear hH;have hH:=(hS.x [0,2])
 refine ⟨fun _ _=>⟨_,hH⟩,?_⟩;refine .tp 8 rfl (fun w=>(.no rfl)) (.tp 9 rfl (fun w=>(.fo 1 rfl X9v rfl rfl X6f rfl)) (.b1 10 rfl (.s1 hS (k:=0) rfl rfl rfl rfl X6f (by simp) ?_)));intro w hS;refine .nil ?_;refine And.intro (by intro h; cases h) ?_;refine .dn (.seq (.q 1 rfl (.ret (Xc Qr35 rfl ?_))));have h1:¬ Xw r=false:=by simpa using hb5
 have h2:¬ 0<=at0 l r.name:=by simpa using hb9
 have h3:¬ (r.parent≠[]/\at0 l r.parent<0):=fun h=>by
  rcases hc15 with e | e
  ·exact h.1 e
  ·omega
 have hE:X6z room l r=0:=by rw [X6z,if_neg h1,if_neg h2,if_neg h3,if_neg (by simpa using hb26)]
 have hQ:add room l r=l ++ [r]:=by rw [add,if_pos hE]
 rw [hE,hQ];refine ⟨_,rfl,rfl,a44,c44,?_⟩;rw [X46,Y0];exact hS.y 2 1
theorem Xc0 (a:Option Addr) (c:Nat) (l:List Rec) (hl:l.length<=100000) (B w:World) (I:Im) (As:List X7) (hS:Sat B w I (Vec 75 10 (.slice a l.length c) l.length (Xr l)::As)) :
  Cz 91 [.slice a l.length c] w fun v w'=>∃ v',v=v'/\Sat B w' I (Vec 75 10 v' l.length (Xr l)::Vec 75 10 (.slice a l.length c) l.length (Xr l)::As):=by
 refine calls Tryz.func91 rfl Tryz.ntmps91 rfl (.seq (.q 1 rfl (.seq (.seq (.t 1 rfl (.val (Ex.slNil (.of rfl) (.of rfl) X2y) rfl (.nil ?_)))))));refine .cond rfl (fun hb4=>?_) fun hb4=>?_
 ·refine .seq (.q 1 rfl (.ret (Xc Tryz.results91 rfl ?_)));cases a with
  | some p=>simp at hb4
  | none =>
  have h0:l=[]:=hS.pure_ (k:=0) rfl fun _ ⟨_,hh⟩=>by
   rcases hh with ⟨_,h,_⟩ | ⟨b,cap,r,hv,_⟩
   ·exact Yj h
   ·cases hv
  subst h0;exact ⟨_,rfl,.slice none 0 0,rfl,hS.vecNil 75 10⟩
 refine .skip (.seq (.region (.buildSlice (cs:=[]) hS X4 X2y X29 Xcw rfl rfl rfl rfl ?_)));intro b5 w hS;refine .q 1 rfl ?_;replace hS:=hS.vecOf (k:=0) (E:=75) (size:=10) (n:=0) rfl rfl (Yo _);refine .appendV (size:=10) (bytes:=120) hS (.of rfl) (.of rfl) (k:=0) (j:=1) rfl rfl X2y (i:=Tryz.t75) (by kernel_rfl) rfl rfl rfl rfl (X7m l) ⟨by omega,by unfold maxLen; omega⟩ rfl ?_;intro v7 w hS;rw [Yc,Ye] at hS;refine .q 1 rfl (.nil (.ret (Xc Tryz.results91 rfl ?_)));exact ⟨_,rfl,v7,rfl,hS⟩
theorem Xgy (tb:Nat) (room:Int) (a:Option Addr) (c:Nat) (l:List Rec) (hl:l.length<=100000) (B w:World) (I:Im) (As:List X7) (hS:Sat B w I (blk tb [I64 room,.slice a l.length c] 155::Vec 75 10 (.slice a l.length c) l.length (Xr l)::As)) :
  Cz 45 [ptr tb 0] w fun v w'=>∃ J ra rc,v=.slice ra l.length rc/\Le I J/\l.length<=rc/\RS J ra 10 l.length (Xr l)/\Sat B w' J (blk tb [I64 room,.slice a l.length c] 155::Vec 75 10 (.slice a l.length c) l.length (Xr l)::As):=by
 refine calls Tryz.func45 rfl Tryz.ntmps45 rfl (.seq (.q 1 rfl (.seq (.t 2 rfl ?_))));refine .val (.fo 1 rfl X9v rfl rfl X6f rfl) rfl (.val (.lo rfl hS (k:=0) rfl Xcv rfl) rfl (.call Tryz.func91 rfl (ec9 rfl X0) rfl (Xc0 a c l hl B _ I _ (hS.x [1])) ?_));rintro _ w ⟨v7,rfl,hS⟩;refine .q 1 rfl (.nil (.ret (Xc Tryz.results45 rfl ?_)));obtain ⟨ra,rc,rfl,hrc,_⟩:=hS.vecSlice (k:=0) rfl;obtain ⟨J,hJ,hRS,hS⟩:=hS.freezeVec (k:=0) rfl;exact ⟨_,rfl,J,ra,rc,rfl,hJ,hrc,hRS,hS.x [1]⟩
theorem Ex.arrAddrO {P:Program} {n:Nat} {L:Env} {w:World} {ty t:TypeId} {pos:String} {af:Array Edge} {g:Option (Nat×Bool)} {x y:Operand} {d:Option Nat} {b o:Nat} {m s:Nat} {e:TypeId} {i:Int} {q:IntKind} (hx:Ev n L x (ptr b o)) (hy:Ev n L y (.int q i)) (hi:0<=i) (hl:i<(m:Int)) (ht:P.underlying t=some (.array m e)) (hs:∀ w,(Go.sizeOf e).run P w=.ok s w) :
  Ex P n L w ⟨d,.indexAddr t x y,ty,pos,af,g⟩ (ptr b (o+i.toNat*s)) w:=by
 have h:=Ex.arrAddrI (P:=P) (w:=w) (d:=d) (ty:=ty) (pos:=pos) (af:=af) (g:=g) hx hy hi hl ht hs;rw [show (⟨b,o,none⟩:Addr).add (i.toNat*s)=⟨b,o+i.toNat*s,none⟩ from X15 b o _] at h;exact h
theorem Xx0 {ps:List Int} (hps:ps.length=21) {o k:Nat} (e:o=k) (h:k<21):(ps.map I64)[o]?=some (I64 (ps.getD k 0)):=by
 subst e;rw [Yu,Y8,Y4 (by omega)];rfl
theorem Xi7 {r:Rec} (h:Xw r=true):(0<=r.made/\r.made<=1099511627776)/\(0<=r.used/\r.used<=1099511627776)/\0<=r.uses/\r.uses<=255:=by
 unfold Xw at h;simp only [Yn,decide_eq_true_eq] at h
 omega
def letC (c:UInt8):Bool:=(decide ((97:Int)<=(c.toNat:Int)) && decide ((c.toNat:Int)<=122)) || (decide ((65:Int)<=(c.toNat:Int)) && decide ((c.toNat:Int)<=90))
def X6t (s:List UInt8) (lo least most:Int):Bool:=(s.all fun c=>!(decide ((c.toNat:Int)<lo) || decide ((126:Int)<(c.toNat:Int)))) && (decide (least<=(s.length:Int)) && decide ((s.length:Int)<=most))
theorem Xlf (c:UInt8) (w:World) :
  Cz 214 [U8 c.toNat] w fun v w'=>v=.bool (letC c)/\w=w':=by
 refine calls Tryz.func214 rfl Tryz.ntmps214 rfl (.seq (.q 1 rfl (.seq (.t 3 rfl (.gm rfl rfl rfl rfl (.gval rfl rfl (fun hg1=>(.leq (.gd hg1 rfl) (.of rfl))) rfl (.val (.pa rfl rfl rfl) rfl (.q 1 rfl (.gm rfl rfl rfl rfl (.gval rfl rfl (fun hg1=>(.geq (.gd hg1 rfl) (.of rfl))) rfl (.gval rfl rfl (fun hg1=>(.move (.gd hg1 rfl))) rfl (.gval2 rfl rfl rfl (fun hg1 hg2=>(.mo rfl)) rfl (.gval2 rfl rfl rfl (fun hg1 hg2=>(.leq (.gd2 hg1 hg2 rfl) (.of rfl))) rfl (.gval rfl rfl (fun hg1=>(.pand (.gd hg1 rfl) (.gd hg1 rfl) (.of rfl))) rfl (.val (.po rfl rfl rfl) rfl (.q 1 rfl (.nil (.ret (Xc Tryz.results214 rfl ?_)))))))))))))))))));exact ⟨_,rfl,rfl,rfl⟩
theorem Xcl (s:List UInt8) (lo least most:Int) (hs:s.length<=9223372036854775807) (B w:World) (I:Im) (As:List X7) (hS:Sat B w I As) :
  Cz 168 [S s,.int .u8 lo,I64 least,I64 most] w fun v w'=>v=.bool (X6t s lo least most)/\Sat B w' I As:=by
 refine calls Tryz.func168 rfl Tryz.ntmps168 rfl (.seq (.q 1 rfl (.seq (.seq (.region (.run 3 rfl ⟨Qu9,trivial⟩ (.nil (.block (.loop (σ:=Nat) (fun i=>[(0,S s),(1,.int .u8 lo),(2,I64 least),(3,I64 most),(11,I64 (s.length:Nat)),(12,I64 (i:Nat))]) (fun i w=>i<=s.length/\(∀ (j:Nat) c,j<i->s[j]?=some c->(decide ((c.toNat:Int)<lo) || decide ((126:Int)<(c.toNat:Int)))=false)/\Sat B w I As) (fun i=>s.length - i) 0 ⟨rfl,rfl,rfl,rfl,rfl,rfl,trivial⟩ ⟨Yo _,fun _ _ h=>absurd h (by omega),hS⟩ ?_)))))))));rintro i w ⟨hi,hno,hS⟩;refine .seq (.q 1 rfl (.seq ?_));refine .cond rfl (fun hb13=>?_) fun hb13=>?_
 ·have hc13:=hb13; simp only [Y6] at hc13;refine .skip (.seq (.block (.seq (.q 2 rfl (.seq (.region (.run 6 rfl ⟨⟨⟨by omega,by omega⟩,Qu9⟩,trivial⟩ (.gm rfl rfl rfl rfl (.gm rfl rfl rfl rfl ?_)))))))));refine .gval rfl rfl (fun hg1=>(.index (.gd hg1 rfl) (.gd hg1 rfl) (by (try simp only [Y6] at hg1); omega) (by (try simp only [Y6] at hg1); omega) Qu9)) rfl ?_;refine .gval rfl rfl (fun hg1=>(.gtr (.gd hg1 rfl) (.of rfl))) rfl (.val (.po rfl rfl rfl) rfl (.nil ?_));refine .cond rfl (fun hb25=>?_) fun hb25=>?_
  ·have hc25:=hb25; simp only [Y6] at hc25;refine .seq (.q 1 rfl (.ret (Xc Tryz.results168 rfl ?_)));refine ⟨_,rfl,congrArg Value.bool ?_,hS⟩
   have:(s.all fun c=>!(decide ((c.toNat:Int)<lo) || decide ((126:Int)<(c.toNat:Int))))=false:=by
    rw [Y33];exact ⟨_,Yl (Xy (show i<s.length by omega)),by rw [hb25]; decide⟩
   rw [X6t,this]; rfl
  have hc25:=hb25; simp only [Y6] at hc25;refine .skip (.region (.run 2 rfl ⟨⟨by omega,by omega⟩,trivial⟩ (.nil ?_)));refine ⟨i+1,⟨rfl,rfl,rfl,rfl,rfl,rfl,trivial⟩,⟨by (try dsimp only); omega,fun j c hj hc=>?_,hS⟩,by (try dsimp only); omega⟩;rcases Yp j i with h1 | h1
  ·exact hno j c h1 hc
  ·have e:j=i:=by omega
   subst e;rw [Xy (show j<s.length by omega)] at hc; cases hc;exact hb25
 have hc13:=hb13; simp only [Y6] at hc13;refine .exit (.seq (.region (.run 5 rfl ⟨Qu9,trivial⟩ (.gm rfl rfl rfl rfl (.gval rfl rfl (fun hg1=>(.len (.gd hg1 rfl) Qu9)) rfl (.gm rfl rfl rfl rfl (.gval rfl rfl (fun hg1=>(.leq (.gd hg1 rfl) (.gd hg1 rfl))) rfl (.val (.pa rfl rfl rfl) rfl (.q 1 rfl (.nil (.ret (Xc Tryz.results168 rfl ?_))))))))))));refine ⟨_,rfl,congrArg Value.bool ?_,hS⟩
 have:(s.all fun c=>!(decide ((c.toNat:Int)<lo) || decide ((126:Int)<(c.toNat:Int))))=true:=by
  rw [Y1c];intro c hc;obtain ⟨j,hj,hjr⟩:=Y4b hc;rw [hno j c (by omega) (by rw [Y4 hj,hjr])];rfl
 rw [X6t,this];rfl
end Go.Proofs.YtbciobiiejpdgaaGreatDoor
namespace Tr
open Tk
inductive Und (l:List Rec) (k:List UInt8):List UInt8->Prop
 | self:Und l k k
 | step {i:Nat} {r:Rec} (hr:l[i]?=some r) (h:Und l k r.parent):Und l k r.name
theorem Und.trans {l:List Rec} {a b c:List UInt8} (h:Und l a b) (k:Und l b c):Und l a c:=by
 induction k with
 | self=>exact h
 | step hr _ ih=>exact .step hr ih
theorem X9l {l:List Rec} {name x:List UInt8} (h:x∈kids l name):name≠[]/\∃ (i:Nat) (r:Rec),l[i]?=some r/\r.parent=name/\r.name=x:=by
 unfold kids Xlc at h;obtain ⟨r,hr,hx⟩:=Y2b.1 h;obtain ⟨h1,h2⟩:=Y51.1 hr;simp only [Yn,decide_eq_true_eq] at h2
 obtain ⟨i,hi,he⟩:=Y4b h1;exact ⟨h2.1,i,r,by rw [Y4 hi,he],h2.2,hx⟩
theorem Xfk {l:List Rec} (hw:Wf l) {name k:List UInt8} (h:k∈kids l name):at0 l name<at0 l k/\0<=at0 l k/\0<=at0 l name:=by
 obtain ⟨h0,i,r,hr,hp,hn⟩:=X9l h;have h1:=(hw.up i r hr)
 have h2:=hw.at_ hr;subst hp; subst hn;rcases h1.1 with e | e
 ·exact absurd e h0
 ·rw [h2]; exact ⟨h1.2,by omega,e⟩
theorem X72 {l:List Rec}:∀ (n:Nat) (name x:List UInt8),x∈Xo l n name->Und l name x
 | 0,_,_,h=>by simp [Xo] at h
 | n+1,name,x,h=>by
  rw [Xo,Y17] at h;rcases h with e | h
  ·subst e; exact .self
  ·obtain ⟨k,hk,hx⟩:=Y4a.1 h;obtain ⟨_,i,r,hr,hp,hn⟩:=X9l hk;subst hp; subst hn;exact (Und.step hr .self).trans (X72 n _ _ hx)
theorem Xus {l:List Rec} (hw:Wf l) {k x:List UInt8} (h:Und l k x):k=x\/at0 l k<at0 l x:=by
 induction h with
 | self=>exact .inl rfl
 | step hr _ ih =>
  have h1:=(hw.up _ _ hr).2;rw [hw.at_ hr];rcases ih with e | e
  ·rw [<- e] at h1; exact .inr h1
  ·exact .inr (by omega)
theorem Xxn {l:List Rec} (hw:Wf l) {a b x:List UInt8} (h:Und l a x):Und l b x->Und l a b\/Und l b a:=by
 induction h with
 | self=>exact fun k=>.inr k
 | @step i r hr h ih =>
  intro k;generalize hy:r.name=y at k;cases k with
  | self=>rw [<- hy]; exact .inl (.step hr h)
  | step hs hp =>
   have e:=hw.one _ _ _ _ hr hs hy;subst e;rw [hr] at hs;cases hs
   exact ih hp
theorem Xld {l:List Rec} (hw:Wf l) (name:List UInt8):(kids l name).Nodup:=by
 unfold kids Xlc;have h1:(l.map Rec.name).Nodup:=by
  rw [List.Nodup,Y3e];intro i j hi hj hij e;simp only [Y14] at hi hj
  simp only [Y3o] at e
  have:=hw.one i j l[i] l[j] (Y4 hi) (Y4 hj) e
  omega
 exact h1.sublist ((Y4z (l:=l)).map Rec.name)
theorem X51 {l:List Rec} (hw:Wf l):∀ (n:Nat) (name:List UInt8),(Xo l n name).Nodup
 | 0,_=>by simp [Xo]
 | n+1,name=>by
  rw [Xo,Y3j];constructor
  ·intro h;obtain ⟨k,hk,hx⟩:=Y4a.1 h;have h1:=Xfk hw hk;rcases Xus hw (X72 n k name hx) with e | e
   ·rw [e] at h1; omega
   ·omega
  ·rw [List.Nodup,List.pairwise_flatMap];refine ⟨fun k _=>X51 hw n k,?_⟩;refine List.Pairwise.imp_of_mem ?_ (Xld hw name);intro a b ha hb hne x hx y hy e;subst e;have key:∀ {p q:List UInt8},p∈kids l name->q∈kids l name->p≠q->Und l p q->False:=by
    intro p q hp hq hpq hu;cases hu with
    | self=>exact hpq rfl
    | step hr h =>
     rename_i r
     obtain ⟨_,i,s,hs,hsp,hsn⟩:=X9l hq;have e:=hw.one _ _ _ _ hr hs hsn.symm;subst e;rw [hr] at hs;cases hs
     rw [hsp] at h;have h1:=Xfk hw hp;rcases Xus hw h with e | e
     ·rw [e] at h1; omega
     ·omega
   rcases Xxn hw (X72 n a x hx) (X72 n b x hy) with h | h
   ·exact key ha hb hne h
   ·exact key hb ha (Ne.symm hne) h
theorem X86 {l:List Rec}:∀ (n:Nat) (name x:List UInt8),x∈Xo l n name->x=name\/∃ r∈l,r.name=x
 | 0,_,_,h=>by simp [Xo] at h
 | n+1,name,x,h=>by
  rw [Xo,Y17] at h;rcases h with e | h
  ·exact .inl e
  ·obtain ⟨k,hk,hx⟩:=Y4a.1 h;obtain ⟨_,i,r,hr,hp,hn⟩:=X9l hk;rcases X86 n k x hx with e | e
   ·exact .inr ⟨r,Yl hr,by rw [hn,e]⟩
   ·exact .inr e
theorem Xai {α:Type} [DecidableEq α]:∀ (a b:List α),a.Nodup->(∀ x∈a,x∈b)->a.length<=b.length
 | [],_,_,_=>Yo _
 | x::a,b,hn,hs=>by
  rw [Y3j] at hn;have hx:x∈b:=hs x (by simp);have h1:=Xai a (b.erase x) hn.2 (fun y hy=>(List.mem_erase_of_ne (by intro e; subst e; exact hn.1 hy)).2 (hs y (by simp [hy])));rw [Y5h hx] at h1
  have:=Y5n hx
  rw [List.length_cons]; omega
theorem Xex {l:List Rec} (hw:Wf l) (n:Nat) (name:List UInt8):(Xo l n name).length<=l.length+1:=by
 have h:=Xai (Xo l n name) (name::l.map Rec.name) (X51 hw n name) (fun x hx=>by
  rcases X86 n name x hx with e | ⟨r,hr,e⟩
  ·simp [e]
  ·exact Y30 _ (Y2b.2 ⟨r,hr,e⟩))
 simpa using h
theorem Xa2 {l:List Rec} (hw:Wf l):∀ (n m:Nat) (name:List UInt8),0<=at0 l name->(l.length:Int) - at0 l name<=n->(l.length:Int) - at0 l name<=m->Xo l n name=Xo l m name
 | 0,_,name,_,h,_=>by have:=Xnl l name; omega
 | _+1,0,name,_,_,h=>by have:=Xnl l name; omega
 | n+1,m+1,name,h0,hn,hm=>by
  rw [Xo,Xo]
  congr 1
  rw [List.flatMap_def,List.flatMap_def]
  congr 1
  refine List.map_congr_left fun k hk=>?_
  have:=Xfk hw hk
  exact Xa2 hw n m k this.2.1 (by omega) (by omega)
theorem X71 {l:List Rec} (hw:Wf l) (name:List UInt8):(below l name).length<=l.length:=by
 unfold below;split
 ·rename_i h0
  have h:=Xai (Xo l l.length name) (l.map Rec.name) (X51 hw _ name) (fun x hx=>by
   rcases X86 _ name x hx with e | ⟨r,hr,e⟩
   ·rcases X3p l name with ⟨h1,_⟩ | ⟨j,r,_,h2,h3,_⟩
    ·omega
    ·exact Y2b.2 ⟨r,Yl h2,by rw [h3,e]⟩
   ·exact Y2b.2 ⟨r,hr,e⟩)
  simpa using h
 ·simp
theorem Xc5 {l:List Rec} {i:Nat} {r:Rec} (hr:l[i]?=some r) (h0:r.parent≠[]):∀ (n:Nat) (name:List UInt8),r.parent∈Xo l n name->r.name∈Xo l (n+1) name
 | 0,_,h=>by simp [Xo] at h
 | n+1,name,h=>by
  rw [Xo,Y17] at h ⊢;refine .inr (Y4a.2 ?_);rcases h with e | h
  ·refine ⟨r.name,?_,by rw [Xo]; simp⟩;unfold kids Xlc;exact Y2b.2 ⟨r,Y51.2 ⟨Yl hr,by simp [<- e,h0]⟩,rfl⟩
  ·obtain ⟨k,hk,hx⟩:=Y4a.1 h;exact ⟨k,hk,Xc5 hr h0 n k hx⟩
theorem Xrs {l:List Rec} (hw:Wf l) {name:List UInt8} {i:Nat} {r:Rec} (hr:l[i]?=some r) (h0:r.parent≠[]) (h:r.parent∈below l name):r.name∈below l name:=by
 unfold below at h ⊢;split at h
 ·rename_i h1
  rw [if_pos h1,Xa2 hw l.length (l.length+1) name h1 (by omega) (by omega)];exact Xc5 hr h0 _ _ h
 ·simp at h
theorem Wf.names {l:List Rec} (hw:Wf l):(l.map Rec.name).Nodup:=by
 rw [List.Nodup,Y3e];intro i j hi hj hij e;simp only [Y14] at hi hj
 simp only [Y3o] at e
 have:=hw.one i j l[i] l[j] (Y4 hi) (Y4 hj) e
 omega
theorem Wf.split {l:List Rec} (hw:Wf l) {xs ys:List Rec} {r:Rec} (h:l=xs ++ r::ys):r.parent=[]\/∃ t∈xs,t.name=r.parent:=by
 have hr:l[xs.length]?=some r:=by rw [h]; simp
 obtain ⟨h1,h2⟩:=hw.up _ _ hr;rcases h1 with e | e
 ·exact .inl e
 ·rcases X3p l r.parent with ⟨h3,_⟩ | ⟨j,t,h3,h4,h5,_⟩
  ·omega
  ·refine .inr ⟨t,?_,h5⟩;rw [h,Yi (by omega)] at h4;exact Yl h4
theorem Wf.of {l:List Rec} (h1:∀ r∈l,Xw r=true) (h2:(l.map Rec.name).Nodup) (h3:∀ xs r ys,l=xs ++ r::ys->r.parent=[]\/∃ t∈xs,t.name=r.parent):Wf l:=by
 refine ⟨h1,fun i j r s hr hs e=>?_,fun i r hr=>?_⟩
 ·rw [List.Nodup,Y3e] at h2;obtain ⟨hi,e1⟩:=Y5.1 hr;obtain ⟨hj,e2⟩:=Y5.1 hs;rcases Nat.lt_trichotomy i j with h | h | h
  ·exact absurd (by rw [Y3o,Y3o,e1,e2,e]) (h2 i j (by simpa using hi) (by simpa using hj) h)
  ·exact h
  ·exact absurd (by rw [Y3o,Y3o,e1,e2,e]) (h2 j i (by simpa using hj) (by simpa using hi) h)
 ·obtain ⟨hi,e1⟩:=Y5.1 hr;have hsp:l=l.take i ++ r::l.drop (i+1):=by
   rw [<- e1,<- Y13 hi]; exact (Yv i l).symm
  rcases h3 _ _ _ hsp with e | ⟨t,ht,e⟩
  ·refine ⟨.inl e,?_⟩;rcases X3p l r.parent with ⟨h4,_⟩ | ⟨j,t,h4,h5,h6,_⟩
   ·omega
   ·exact absurd (h6.trans e) (X8n (h1 t (Yl h5)))
  ·obtain ⟨j,hj,e2⟩:=Y4b ht;rw [Yr] at hj;have h7:l[j]?=some t:=by rw [<- e2,List.getElem_take]; exact Y4 (by omega)
   rcases X3p l r.parent with ⟨_,h5⟩ | ⟨q,u,h4,h5,h6,h8⟩
   ·exact absurd e (h5 t (Yl h7))
   ·have:q<=j:=Nat.le_of_not_lt fun hh=>h8 j t hh h7 e
    exact ⟨.inr (by omega),by omega⟩
theorem Wf.drop {l:List Rec} (hw:Wf l) (name:List UInt8):Wf (drop l name):=by
 refine Wf.of (fun r hr=>hw.right r (Y51.1 hr).1) (hw.names.sublist (Y4z.map Rec.name)) fun xs r ys h=>?_
 obtain ⟨l1,l2,e1,e2,e3⟩:=List.filter_eq_append_iff.1 h;obtain ⟨m1,m2,e4,e5,e6,_⟩:=List.filter_eq_cons_iff.1 e3;have hsp:l=(l1 ++ m1) ++ r::m2:=by rw [e1,e4,Yd]
 have hr:l[(l1 ++ m1).length]?=some r:=by rw [hsp]; simp
 rcases hw.split hsp with e | ⟨t,ht,e⟩
 ·exact .inl e
 ·by_cases h0:r.parent=[]
  ·exact .inl h0
  ·refine .inr ⟨t,?_,e⟩;have hk:((below l name).contains t.name)=false:=by
    cases hc:(below l name).contains t.name with
    | false=>rfl
    | true =>
     have h1:=Xrs hw hr h0 (by rw [<- e]; simpa using hc);have h2:(below l name).contains r.name=true:=by simpa using h1
     rw [h2] at e6; cases e6
   rcases Y12.1 ht with h1 | h1
   ·rw [<- e2]; exact Y51.2 ⟨h1,by rw [hk]; rfl⟩
   ·exact absurd (by rw [hk]; rfl) (e5 t h1)
theorem Xs2 (l:List Rec) (name:List UInt8):(drop l name).Sublist l:=Y4z
end Tr
namespace Go.Proofs.YtbciobiiejpdgaaGreatDoor
open Gk Ul Pc Tk Tr
theorem Xko (tb:Nat) (room:Int) (a:Option Addr) (c:Nat) (l:List Rec) (hl:l.length<=100000) (hwf:Wf l) (ob tx wx:Nat) (As:List X7):∀ (n:Nat) (name:List UInt8) (out:List (List UInt8)) (v:Value) (B w:World) (I:Im) (h0:0<=at0 l name) (hn:(l.length:Int) - at0 l name<=n) (hob:out.length+(Xo l n name).length<=1000000) (hS:Sat B w I (blk ob [v] 87::Vec 9 1 (v) (out).length ((out).map S)::blk tx [ptr tb 0] 76::blk wx [.func (.func 96) #[] [ptr ob 0,ptr tx 0,ptr wx 0].toArray] 164::blk tb [I64 room,.slice a l.length c] 155::Vec 75 10 (.slice a l.length c) l.length (Xr l)::As)),
  Calls Tryz.prog 96 [S name,ptr ob 0,ptr tx 0,ptr wx 0].toArray w (Ret fun _ w'=>∃ J v',Le I J/\Sat B w' J (blk ob [v'] 87::Vec 9 1 (v') ((out ++ Xo l n name)).length (((out ++ Xo l n name)).map S)::blk tx [ptr tb 0] 76::blk wx [.func (.func 96) #[] [ptr ob 0,ptr tx 0,ptr wx 0].toArray] 164::blk tb [I64 room,.slice a l.length c] 155::Vec 75 10 (.slice a l.length c) l.length (Xr l)::As)):=by
 intro n
 induction n with
 | zero=>intro name out v B w I h0 hn; have:=Xnl l name; omega
 | succ n ih =>
  intro name out v B w I h0 hn hob hS;have hob2:=hob;rw [Xo,List.length_cons] at hob2;refine calls Tryz.func96 rfl Tryz.ntmps96 rfl (.seq (.region ?_));refine .val (.lo rfl hS (k:=0) rfl Xm6 rfl) rfl (.q 1 rfl (.buildSlice (cs:=[_]) hS (pc9 rfl X4) X1u Qs9 Qz9 rfl rfl rfl rfl ?_));intro b9 w hS;refine .append (size:=1) (bytes:=16) hS (.of rfl) (.of rfl) (k:=1) rfl X1u X2v rfl rfl rfl rfl rfl rfl rfl ⟨by omega,by unfold maxLen; omega⟩ rfl ?_;intro v10 w hS;obtain ⟨a10,c10,rfl,hcap10,_⟩:=hS.vecSlice (k:=1) (v:=v10) rfl;refine .s1 hS (k:=0) rfl rfl rfl rfl Xkf (by simp) ?_;intro w hS;refine .nil (.seq (.region ?_));refine .val (.lo rfl hS (k:=2) rfl Xu1 rfl) rfl (.q 1 rfl (.call Tryz.func97 rfl (ec9 rfl (ec9 rfl X0)) rfl (Xqo tb room a c l hl name B _ I _ (hS.x [5,5])) ?_));rintro _ w ⟨J,ra,rc,rfl,hJ,hrc,hRS,hS⟩;have hkl:=Xdg l name;replace hS:=(((hS.pick 5 rfl).pick 5 rfl).pick 5 rfl).pick 5 rfl;try dsimp only [List.eraseIdx] at hS
  refine .run 2 rfl ⟨⟨_,X1u⟩,trivial⟩ (.nil (.block (.loop (σ:=Nat×Value×Im) (fun ⟨i,v,J2⟩=>[(1,ptr ob 0),(2,ptr tx 0),(3,ptr wx 0),(13,.slice ra (kids l name).length rc),(14,I64 ((kids l name).length:Nat)),(15,I64 (i:Nat))]) (fun ⟨i,v,J2⟩ w=>i<=(kids l name).length/\Le J J2/\Sat B w J2 (blk ob [v] 87::Vec 9 1 (v) ((out ++ name::((kids l name).take i).flatMap (Xo l n))).length (((out ++ name::((kids l name).take i).flatMap (Xo l n))).map S)::blk tx [ptr tb 0] 76::blk wx [.func (.func 96) #[] [ptr ob 0,ptr tx 0,ptr wx 0].toArray] 164::blk tb [I64 room,.slice a l.length c] 155::Vec 75 10 (.slice a l.length c) l.length (Xr l)::As)) (fun ⟨i,v,J2⟩=>(kids l name).length - i) (0,_,J) ⟨rfl,rfl,rfl,rfl,rfl,rfl,trivial⟩ ⟨Yo _,Le.refl _,by simpa using hS⟩ ?_)));rintro ⟨i,v,J2⟩ w ⟨hi,hJ2,hS⟩;refine .seq (.q 1 rfl (.seq ?_));refine .cond rfl (fun hb16=>?_) fun hb16=>?_
  ·have hc16:=hb16; simp only [Y6] at hc16;refine .skip (.seq (.block (.seq ?_)));obtain ⟨k,hk⟩:∃ k,(kids l name)[i]?=some k:=⟨_,Y4 (by omega)⟩
   have hkm:=Xfk hwf (Yl hk);have hnm:((kids l name).map S)[i]?=some (S k):=by rw [Yu,hk]; rfl
   have hfl:(((kids l name).take i).flatMap (Xo l n)).length+(Xo l n k).length<=((kids l name).flatMap (Xo l n)).length:=by
    have e:=Yv i (kids l name);have e2:=Y13 (l:=kids l name) (i:=i) (by omega);rw [(Y5.1 hk).2] at e2;rw [e2] at e;have e3:=congrArg (fun x=>(List.flatMap (Xo l n) x).length) e;simp only [Y1k,Y2l,Y0] at e3
    omega
   obtain ⟨p,rfl,hA⟩:=hRS.2 (by omega);refine .region (.val (.ii rfl rfl (by omega) (by omega) X1u Qs9) rfl ?_);refine .val (ldC (.of rfl) (by have h9:=X4g hS (hA.mono hJ2) hnm; simpa using h9) Qg9) rfl ?_;refine .q 1 rfl (.nil (.region ?_));refine .val (.lo rfl hS (k:=3) rfl Tryz.isAgg164 rfl) rfl (.q 1 rfl (.vcall (cap:=[ptr ob 0,ptr tx 0,ptr wx 0]) Tryz.func96 rfl (.of rfl) (ec9 rfl X0) rfl (ih k (out ++ name::((kids l name).take i).flatMap (Xo l n)) v B w J2 hkm.2.1 (by omega) (by simp only [Y0,List.length_cons,Xo] at hob ⊢; omega) hS) ?_));rintro _ w ⟨J3,v3,hJ3,hS⟩;refine .nil (.region (.run 2 rfl ⟨⟨by omega,by omega⟩,trivial⟩ (.nil ?_)));refine ⟨(i+1,v3,J3),⟨rfl,rfl,rfl,rfl,rfl,rfl,trivial⟩,⟨by (try dsimp only); omega,hJ2.trans hJ3,?_⟩,by (try dsimp only); omega⟩;rw [Yz,hk,Y1e,Y1k,Y2l,List.flatMap_nil,Y9,<- Ys,<- Yd];exact hS
  have hc16:=hb16; simp only [Y6] at hc16;refine .exit (X9d Tryz.results96 ?_);have hin:i=(kids l name).length:=by omega
  subst hin;rw [Y15] at hS;exact ⟨_,rfl,J2,v,hJ.trans hJ2,hS⟩
theorem Xe8 (tb:Nat) (room:Int) (a:Option Addr) (c:Nat) (l:List Rec) (hl:l.length<=100000) (hwf:Wf l) (name:List UInt8) (B w:World) (I:Im) (As:List X7) (hS:Sat B w I (blk tb [I64 room,.slice a l.length c] 155::Vec 75 10 (.slice a l.length c) l.length (Xr l)::As)) :
  Cz 49 [ptr tb 0,S name] w fun v w'=>∃ J ra rc,v=.slice ra (below l name).length rc/\Le I J/\(below l name).length<=rc/\RS J ra 1 (below l name).length ((below l name).map S)/\Sat B w' J (blk tb [I64 room,.slice a l.length c] 155::Vec 75 10 (.slice a l.length c) l.length (Xr l)::As):=by
 refine calls Tryz.func49 rfl Tryz.ntmps49 rfl (.seq (.region (.box1 hS (.of rfl) rfl rfl ?_)));intro b2 w hS;refine .q 1 rfl (.nil (.seq (.region (.alloc1 hS Qz87 rfl rfl ?_))));intro b5 w hS;refine .nil (.seq (.region (.alloc1 hS Tryz.zeroValue164 rfl rfl ?_)));intro b6 w hS;refine .nil (.seq (.region (.val (.makeFunc (ec9 rfl (ec9 rfl (ec9 rfl X0)))) rfl ?_)));refine .s1 hS (k:=0) rfl rfl rfl rfl Tryz.sizeOf164 (by simp) ?_;intro w hS;refine .nil (.seq (.seq (.region ?_)));refine .val (.lo rfl hS (k:=2) rfl Xu1 rfl) rfl (.q 1 rfl (.call Qf83 rfl (ec9 rfl (ec9 rfl X0)) rfl (Xir tb room a c l hl name B _ I _ (hS.x [4,4])) ?_));rintro _ w ⟨rfl,hS⟩;replace hS:=((hS.pick 4 rfl).pick 4 rfl).pick 4 rfl;try dsimp only [List.eraseIdx] at hS
 refine .q 1 rfl (.nil ?_);refine .cond rfl (fun hb11=>?_) fun hb11=>?_
 ·have hc11:=hb11; simp only [Y6] at hc11;replace hS:=(((hS.vecNil 9 1).pick 1 rfl).pick 3 rfl)
  try dsimp only [List.eraseIdx] at hS
  have hS9:=(hS.pick 2 rfl).pick 3 rfl;try dsimp only [List.eraseIdx] at hS9
  have hS:=hS9;clear hS9;refine .region (.val (.lo rfl hS (k:=3) rfl Tryz.isAgg164 rfl) rfl (.q 1 rfl ?_));refine .vcall (cap:=[ptr b5 0,ptr b2 0,ptr b6 0]) Tryz.func96 rfl (.of rfl) (ec9 rfl X0) rfl (Xko tb room a c l hl hwf b5 b2 b6 As l.length name [] _ B w I (by simpa using hb11) (by omega) (by have:=Xex hwf l.length name; simp only [List.length_nil]; omega) hS) ?_;rintro _ w ⟨J,v2,hJ,hS⟩;refine .nil (.seq (.region ?_));refine .val (.lo rfl hS (k:=0) rfl Xm6 rfl) rfl (.q 1 rfl (.nil (.ret (Xc Tryz.results49 rfl ?_))));rw [Ye] at hS;have hbe:below l name=Xo l l.length name:=if_pos (by simpa using hb11);rw [hbe];obtain ⟨ka,kc,rfl,hkc,_⟩:=hS.vecSlice (k:=1) rfl;obtain ⟨J2,hJ2,hRS,hS⟩:=hS.freezeVec (k:=1) rfl;exact ⟨_,rfl,J2,ka,kc,rfl,hJ.trans hJ2,hkc,hRS,hS.y 0 3⟩
 refine .skip (.seq (.region ?_));refine .val (.lo rfl hS (k:=1) rfl Xm6 rfl) rfl (.q 1 rfl (.nil (.ret (Xc Tryz.results49 rfl ?_))));have hbe:below l name=[]:=if_neg (by simpa using hb11);rw [hbe];exact ⟨_,rfl,I,none,0,rfl,Le.refl _,Yq _,⟨rfl,fun h=>absurd h (by simp)⟩,hS.y 0 3⟩
theorem Xjb (p:List UInt8):∀ (l:List (List UInt8)) (i:Nat),decide (0<=Xhe p l i)=l.contains p
 | [],i=>rfl
 | x::l,i=>by
  rw [Xhe,List.contains_cons];split
  ·rename_i h
   subst h;rw [beq_self_eq_true,Bool.true_or,decide_eq_true_eq]; omega
  ·rename_i h
   rw [beq_eq_false_iff_ne.2 h,Y3m,Xjb p l (i+1)]
theorem Xec (a:Option Addr) (c:Nat) (l:List (List UInt8)) (hll:l.length<=100000) (p:List UInt8) (B w:World) (I:Im) (hA:RS I a 1 l.length (l.map S)) (As:List X7) (hS:Sat B w I As) :
  Cz 136 [.slice a l.length c,S p] w fun v w'=>v=.bool (l.contains p)/\Sat B w' I As:=by
 refine calls Tryz.func136 rfl Tryz.ntmps136 rfl (.seq (.q 1 rfl (.seq (.t 2 rfl (.call Xk9 rfl (ec9 rfl (ec9 rfl X0)) rfl (X3u a c l hll p B _ I hA As hS) ?_)))));rintro _ w ⟨rfl,hS⟩;refine .q 2 rfl (.nil (.ret (Xc Tryz.results136 rfl ?_)));exact ⟨_,rfl,by rw [<- Xjb p l 0],hS⟩
theorem Xo5 (gb:Nat) (ga:Option Addr) (gc:Nat) (gn:List (List UInt8)) (hgl:gn.length<=100000) (r:Rec) (B w:World) (I:Im) (hA:RS I ga 1 gn.length (gn.map S)) (As:List X7) (hS:Sat B w I (blk gb [.slice ga gn.length gc] 87::As)) :
  Cz 135 [.agg (X5 r).toArray,ptr gb 0] w fun v w'=>v=.bool (gn.contains r.name)/\Sat B w' I (blk gb [.slice ga gn.length gc] 87::As):=by
 refine calls Tryz.func135 rfl Tryz.ntmps135 rfl (.seq (.region (.boxA (cs:=[_,_,_,_,_,_,_,_,_,_]) hS (.of rfl) rfl ?_)));intro b2 w hS;refine .q 1 rfl (.nil (.seq (.region ?_)));refine .val (.lo rfl hS (k:=1) rfl Xm6 rfl) rfl (.val (.fo 1 rfl X27 rfl rfl Qs9 rfl) rfl (.val (.lo rfl hS (k:=0) rfl Qg9 rfl) rfl (.call Tryz.func136 rfl (ec9 rfl (ec9 rfl X0)) rfl (Xec ga gc gn hgl r.name B _ I hA _ hS) ?_)));rintro _ w ⟨rfl,hS⟩;refine .q 1 rfl (.nil (.ret (Xc Tryz.results135 rfl ?_)));exact ⟨_,rfl,rfl,hS.y 0 1⟩
theorem WL.clear {P:Program} {n:Nat} {ops:Array Oper} {K:X34} {rest:List Oper} {L:Env} {w B:World} {I:Im} {As:List X7} {k b o m cap s:Nat} {cs:List Value} {E e t ty:TypeId} {x:Operand} {z:Value} {pos:String} {af:Array Edge} (hS:Sat B w I As) (hk:As[k]?=some (blk b cs E)) (hx:Ev n L x (.slice (some (ad b o)) m cap)) (ht:P.underlying t=some (.slice e)) (hz:∀ w,(zeroValue e).run P w=.ok z w) (hs:z.cells.size=s) (h1:∀ v∈z.cells,v.oneCell'=true) (ho:o+m*s<=cs.length)
  (h:∀ w' cs',cs'.length=cs.length->cs'.take o=cs.take o->Sat B w' I (As.set k (blk b cs' E))->WL P n ops K rest L w'):WL P n ops K (⟨none,.call ⟨.builtin .clear,#[x],#[t]⟩,ty,pos,af,none⟩::rest) L w:=by
 subst hs;have go:∀ w' v,(∀ a,Holds n L a->(execOp a.eval (⟨none,.call ⟨.builtin .clear,#[x],#[t]⟩,ty,pos,af,none⟩:Oper)).run P w=.ok (.value v) w')->WL P n ops K rest L w'->WL P n ops K (⟨none,.call ⟨.builtin .clear,#[x],#[t]⟩,ty,pos,af,none⟩::rest) L w:=by
  intro w' v hx h a ha;refine wpList_plain rfl fun K' hK=>?_
  unfold Oper.wp;rw [hx a ha];exact hK _ _ (h _ (ha.skip v))
 have hb:=hS.block hk;have hzl:(Builtin.zeroCells z.cells m).toList.length=m*z.cells.size:=by rw [Y3l,size_zeroCells]
 have hst:=run_storeCells_at P b o E (Builtin.zeroCells z.cells m).toList 0 cs.toArray w hb (by simp only [Y21,hzl,Y4k]; exact ho) (fun v hv=>by
  rw [Array.mem_toList_iff] at hv;unfold Builtin.zeroCells at hv;obtain ⟨i,hi,rfl⟩:=Array.mem_map.1 hv;have hi2:i<m*z.cells.size:=by simpa using hi
  have hp:0<z.cells.size:=Y5a fun e=>by rw [e] at hi2; omega
  have hlt:=Y2p i hp;rw [getElem!_pos z.cells (i % z.cells.size) hlt];exact h1 _ (Array.getElem_mem hlt))
 simp only [Y21] at hst
 cases m with
 | zero =>
  refine go w (.tuple #[]) (fun a ha=>?_) (h w cs rfl rfl ?_)
  ·simp [execOp,resolve,invoke,builtin,hx a ha,Builtin.clear_,run_underlying ht]
  ·have e:As.set k (blk b cs E)=As:=by
    apply Y1x
    intro i;rw [Y23];split
    ·rename_i e; subst e
     split
     ·exact hk.symm
     ·rename_i hlt; rw [Y1g (by omega)]
    ·rfl
   rw [e]; exact hS
 | succ m =>
  refine go (w.setRow b _) (.tuple #[]) (fun a ha=>?_) (h _ _ ?_ ?_ (hS.write (o':=Xl (cs.take o ++ (Builtin.zeroCells z.cells (m+1)).toList ++ cs.drop (o+(Builtin.zeroCells z.cells (m+1)).toList.length)) E) hk rfl rfl rfl (setRow_heap w b _ _ E _ hb) fun c hc=>setRow_other w b c _ hc))
  ·simp [execOp,resolve,invoke,builtin,hx a ha,Builtin.clear_,run_underlying ht,hz,hst]
  ·simp only [Y0,Yr,Yg,hzl]; omega
  ·rw [Yd,Y2i (by rw [Yr]; omega),Y5e,Nat.min_self]
theorem X6n {α:Type} (pr:α->Bool):∀ (l:List α) (i:Nat),(Xx pr l i=-1/\∀ r∈l,pr r=false)\/∃ (j:Nat) (r:α),Xx pr l i=((i+j:Nat):Int)/\l[j]?=some r/\pr r=true/\∀ t∈l.take j,pr t=false
 | [],i=>.inl ⟨rfl,fun r h=>by simp at h⟩
 | s::l,i=>by
  rw [Xx]
  by_cases h:pr s=true
  ·rw [if_pos h]; exact .inr ⟨0,s,by simp,rfl,h,fun t ht=>by simp at ht⟩
  ·rw [if_neg h];have h':pr s=false:=by simpa using h
   rcases X6n pr l (i+1) with ⟨h1,h2⟩ | ⟨j,r,h1,h2,h3,h4⟩
   ·exact .inl ⟨h1,fun r hr=>(Y17.1 hr).elim (fun e=>e ▸ h') (h2 r)⟩
   ·refine .inr ⟨j+1,r,by rw [h1]; omega,by simpa using h2,h3,fun t ht=>?_⟩;rw [Y1l] at ht;rcases Y17.1 ht with e | ht
    ·exact e ▸ h'
    ·exact h4 t ht
theorem Xce:∀ (l:List Rec) (i:Nat),(Xr l).take (i*10)=Xr (l.take i)
 | [],i=>by simp [Xr]
 | r::l,0=>by simp [Xr]
 | r::l,i+1=>by
  have e:∀ l:List Rec,Xr (r::l)=X5 r ++ Xr l:=fun l=>rfl
  rw [Y1l,e,e,<- Xce l i,show (i+1)*10=(X5 r).length+i*10 by show (i+1)*10=10+i*10; omega,Y52]
theorem Xbh (a:Option Addr) (c:Nat) (l:List Rec) (hl:l.length<=100000) (pr:Rec->Bool) (fid:FuncId) (fn:Func) (hfn:Tryz.prog.funcs[fid]?=some fn) (hcal:Xj fn=true) (capv:List Value) (Q:X7) (B w:World) (I:Im) (As:List X7) (hf:∀ (r:Rec) w (X:List X7),Sat B w I (Q::X)->Calls Tryz.prog fid ([Value.agg (X5 r).toArray] ++ capv).toArray w (Ret fun v w'=>v=.bool (pr r)/\Sat B w' I (Q::X))) (hS:Sat B w I (Q::Vec 75 10 (.slice a l.length c) l.length (Xr l)::As)) :
  Cz 134 [.slice a l.length c,.func (.func fid) #[] capv.toArray] w fun v w'=>v=.slice a (l.filter (fun x=>!pr x)).length c/\Sat B w' I (Q::Vec 75 10 (.slice a (l.filter (fun x=>!pr x)).length c) (l.filter (fun x=>!pr x)).length (Xr (l.filter (fun x=>!pr x)))::As):=by
 refine calls Tryz.func134 rfl Tryz.ntmps134 rfl (.seq (.q 1 rfl (.seq (.t 2 rfl (.call Tryz.func124 rfl (ec9 rfl (ec9 rfl X0)) rfl (X67 a c l hl pr fid fn hfn hcal capv B _ I _ (fun w h=>X7g h (k:=1) rfl) (fun r w h=>hf r w _ h) hS) ?_)))));rintro _ w ⟨rfl,hS⟩;refine .q 1 rfl (.nil (.seq (.seq (.q 2 rfl ?_))));refine .cond rfl (fun hb12=>?_) fun hb12=>?_
 ·refine .seq (.q 2 rfl (.ret (Xc Tryz.results134 rfl ?_)));refine ⟨_,rfl,?_⟩;have e:l.filter (fun x=>!pr x)=l:=by
   rcases X6n pr l 0 with ⟨_,h2⟩ | ⟨j,r,h1,_⟩
   ·exact List.filter_eq_self.2 (fun t ht=>by rw [h2 t ht]; rfl)
   ·exfalso; rw [h1] at hb12; simp at hb12
  rw [e];exact ⟨rfl,hS⟩
 have hc12:=hb12; simp only [Y6] at hc12;refine .skip (.seq (.seq ?_));obtain ⟨k,rk,hk1,hk2,hk3,hk4⟩:∃ (j:Nat) (r:Rec),Xx pr l 0=(j:Int)/\l[j]?=some r/\pr r=true/\∀ t∈l.take j,pr t=false:=by
  rcases X6n pr l 0 with ⟨h1,_⟩ | ⟨j,r,h1,h2,h3,h4⟩
  ·exfalso; rw [h1] at hb12; simp at hb12
  ·exact ⟨j,r,by rw [h1]; simp,h2,h3,h4⟩
 have hkl:=(Y5.1 hk2).1;rw [hk1];refine .region (.run 3 rfl ⟨⟨by omega,by omega⟩,trivial⟩ (.nil (.block ?_)));refine .loop (σ:=Nat×Nat×List Rec) (fun ⟨i,j,M⟩=>[(0,.slice a l.length c),(1,.func (.func fid) #[] capv.toArray),(5,I64 (i:Nat)),(6,I64 (j:Nat))]) (fun ⟨i,j,M⟩ w=>i<j/\j<=l.length/\M.length=l.length/\M.drop j=l.drop j/\M.take i=(l.take j).filter (fun x=>!pr x)/\Sat B w I (Q::Vec 75 10 (.slice a l.length c) l.length (Xr M)::As)) (fun ⟨i,j,M⟩=>l.length - j) (k,k+1,l) ⟨rfl,rfl,rfl,rfl,trivial⟩ ⟨by omega,by omega,rfl,rfl,by
  rw [Yz,hk2,Y1e,Y39,List.filter_eq_self.2 (fun t ht=>by rw [hk4 t ht]; rfl)];simp [hk3],hS⟩ ?_
 rintro ⟨i,j,M⟩ w ⟨hij,hj,hM,hdr,htk,hS⟩;refine .seq (.seq (.region (.run 4 rfl ⟨⟨_,X2y⟩,trivial⟩ (.nil ?_))));refine .cond rfl (fun hb19=>?_) fun hb19=>?_
 ·have hc19:=hb19; simp only [Y6] at hc19;refine .skip (.seq (.block (.seq ?_)));obtain ⟨r,hr⟩:∃ r,l[j]?=some r:=⟨_,Y4 (by omega)⟩
  have hMr:M[j]?=some r:=by
   have h9:=congrArg (fun x=>x[0]?) hdr;simpa [hr] using h9
  have hS9:=hS;rw [<- hM] at hS9;obtain ⟨p,hp9,hx⟩:=X7g hS9 (k:=1) rfl j r hMr;subst hp9;clear hS9;have hfl:((l.take (j+1)).filter (fun x=>!pr x))=((l.take j).filter (fun x=>!pr x)) ++ [r].filter (fun x=>!pr x):=by rw [Yz,hr,Y1e,Y39]
  have hdr1:M.drop (j+1)=l.drop (j+1):=by rw [<- Y1i,<- Y1i,hdr]
  refine .t 2 rfl (.val (.ii rfl rfl (by omega) (by omega) X2y X29) rfl (.val (ldsC (.of rfl) hx Xbn X29 rfl) rfl (.allocA (cs:=[_,_,_,_,_,_,_,_,_,_]) hS Xcw rfl ?_)));intro b7 w hS;refine .so hS (k:=0) rfl rfl rfl rfl X29 rfl (by simp) ?_;intro w hS;try simp only [Yk,Ye,Y9,Y7,Yh,Ym,Yc] at hS
  refine .nil (.seq (.t 1 rfl ?_));refine .val (.ldsW (cs:=[_,_,_,_,_,_,_,_,_,_]) (.of rfl) hS (k:=0) rfl Xbn X29 rfl) rfl (.vcall (cap:=capv) hfn hcal (.of rfl) (ec9 rfl X0) rfl (hf r w _ (hS.x [1])) ?_);rintro _ w ⟨rfl,hS⟩;replace hS:=hS.pick 1 rfl;try dsimp only [List.eraseIdx] at hS
  refine .q 1 rfl (.nil ?_);refine .cond rfl (fun hb29=>?_) fun hb29=>?_
  ·have hc29:=hb29; simp only [Y6] at hc29;refine .seq ?_;obtain ⟨gb,cap9,rest9,hv9,hc1,hc2,hl1,hl2,hS⟩:=hS.vecOpen (k:=2) rfl (by omega);injection hv9 with hv1 hv2 hv3
   (injection hv1 with hv1; subst hv1)
   subst hv3;have hl3:=Xas M;try dsimp only [List.set] at hS
   refine .t 2 rfl (.val (.ldsW (cs:=[_,_,_,_,_,_,_,_,_,_]) (.of rfl) hS (k:=0) rfl Xbn X29 rfl) rfl (.val (.io rfl rfl (by omega) (by omega) X2y X29) rfl (.so hS (k:=2) rfl rfl rfl rfl X29 rfl (by simp only [Y0]; omega) ?_)));intro w hS;rw [Yc,Y2i (by omega),Y2w (by omega),<- Yd] at hS;replace hS:=hS.vecShut (n:=l.length) (size:=10) (k:=2) rfl hc1 hc2 (by simp only [Y0,Yr,Yg,List.length_cons,List.length_nil]; omega) (by simp only [Y0,Yr,Yg,List.length_cons,List.length_nil]; omega);try dsimp only [List.set] at hS
   have e9:(List.take (Int.toNat (i:Int)*10) (Xr M) ++ X5 r ++ List.drop (Int.toNat (i:Int)*10+10) (Xr M))=Xr (M.set i r):=by rw [Yf,Xg5 (by omega)]
   refine .nil (.region (.run 3 rfl ⟨⟨by omega,by omega⟩,trivial⟩ (.nil (.region (.run 3 rfl ⟨⟨by omega,by omega⟩,trivial⟩ (.nil ?_))))));refine ⟨(i+1,j+1,M.set i r),⟨rfl,rfl,rfl,rfl,trivial⟩,⟨by (try dsimp only); omega,by (try dsimp only); omega,by rw [Y2a]; exact hM,?_,?_,?_⟩,by (try dsimp only); omega⟩
   ·show (M.set i r).drop (j+1)=_
    rw [List.drop_set_of_lt (by omega),hdr1]
   ·show (M.set i r).take (i+1)=_
    rw [Yz,List.take_set_of_le (Yq _),htk,Y4h (by omega),hfl,Y49,if_pos (by simpa using hb29)];rfl
   ·try dsimp only
    rw [<- e9];exact hS.y 0 1
  have hc29:=hb29; simp only [Y6] at hc29;refine .skip (.region (.run 3 rfl ⟨⟨by omega,by omega⟩,trivial⟩ (.nil ?_)));refine ⟨(i,j+1,M),⟨rfl,rfl,rfl,rfl,trivial⟩,⟨by (try dsimp only); omega,by (try dsimp only); omega,hM,hdr1,?_,hS.y 0 1⟩,by (try dsimp only); omega⟩;rw [htk,hfl,Y49,if_neg (by simpa using hb29)]
  simp
 have hc19:=hb19; simp only [Y6] at hc19;refine .exit (.seq ?_);have hjn:j=l.length:=by omega
 subst hjn;replace hS:=hS.pick 1 rfl;obtain ⟨gb,cap9,rest9,hv9,hc1,hc2,hl1,hl2,hS⟩:=hS.vecOpen (k:=0) rfl (by omega);injection hv9 with hv1 hv2 hv3
 subst hv1;subst hv3;have hl3:=Xas M;refine .t 2 rfl (.val (.slcFrom (.of rfl) (.of rfl) (by omega) (by omega) X2y X29) rfl ?_);have e8:sliced (some (ad gb 0)) ((i:Int)).toNat l.length c 10=.slice (some (ad gb (0+(i:Int).toNat*10))) (l.length - i) (c - i):=by
  simp only [sliced,Yf,Y3y,X15]
  rw [if_neg (by omega)]
 rw [show (⟨gb,0,none⟩:Addr)=ad gb 0 from rfl,e8];refine WL.clear (s:=10) hS (k:=0) rfl (.of rfl) X2y Xcw rfl (by decide) (by rw [Y0]; omega) ?_;intro w cs9 hcs1 hcs2 hS;refine .nil (.seq (.t 2 rfl (.val (.slcTo (.of rfl) (.of rfl) (by omega) (by omega) X2y X29) rfl (.q 1 rfl (.nil (.ret (Xc Tryz.results134 rfl ?_)))))));rw [X4p];refine ⟨_,rfl,?_⟩;have e1:(Xr M ++ rest9).take (i*10)=Xr (l.filter (fun x=>!pr x)):=by
  rw [Y2i (by omega),Xce,htk,Yx (by omega)]
 have e2:(l.filter (fun x=>!pr x)).length=i:=by
  have h9:=congrArg List.length htk;rw [Yr,Yx (by omega)] at h9;omega
 have e3:cs9=Xr (l.filter (fun x=>!pr x)) ++ cs9.drop (i*10):=by
  rw [<- e1];rw [show 0+(i:Int).toNat*10=i*10 by omega] at hcs2;rw [<- hcs2]; exact (Yv _ _).symm
 rw [e3] at hS;have e4:=Xas (l.filter (fun x=>!pr x));have e5:=congrArg List.length e3;rw [Y0] at e5;rw [Y0] at hcs1;replace hS:=hS.vecShut (n:=i) (size:=10) (k:=0) rfl (by omega) hc2 (by rw [e4,e2]) (by omega);rw [Yf,e2];exact ⟨rfl,hS.x [1]⟩
theorem Xqm (tb:Nat) (room:Int) (a:Option Addr) (c:Nat) (l:List Rec) (hl:l.length<=100000) (hwf:Wf l) (name:List UInt8) (B w:World) (I:Im) (As:List X7) (hS:Sat B w I (blk tb [I64 room,.slice a l.length c] 155::Vec 75 10 (.slice a l.length c) l.length (Xr l)::As)) :
  Cz 89 [ptr tb 0,S name] w fun v w'=>∃ J ra rc,v=.slice ra (below l name).length rc/\Le I J/\(below l name).length<=rc/\RS J ra 1 (below l name).length ((below l name).map S)/\∃ a c,Sat B w' J (blk tb [I64 room,.slice a (drop l name).length c] 155::Vec 75 10 (.slice a (drop l name).length c) (drop l name).length (Xr (drop l name))::As):=by
 refine calls Tryz.func89 rfl Tryz.ntmps89 rfl (.seq (.q 1 rfl (.seq (.t 2 rfl (.call Tryz.func49 rfl (ec9 rfl (ec9 rfl X0)) rfl (Xe8 tb room a c l hl hwf name B _ I _ hS) ?_)))));rintro _ w ⟨J,ga,gc,rfl,hJ,hgc,hRS,hS⟩;refine .alloc1 hS Qz87 rfl rfl ?_;intro b5 w hS;refine .s1 hS (k:=0) rfl rfl rfl rfl Xkf (by simp) ?_;intro w hS;refine .nil (.seq (.t 3 rfl ?_));refine .val (.fo 1 rfl X9v rfl rfl X6f rfl) rfl (.val (.lo rfl hS (k:=1) rfl Xcv rfl) rfl (.call Tryz.func91 rfl (ec9 rfl X0) rfl (Xc0 a c l hl B _ J _ (hS.x [1,2])) ?_));rintro _ w ⟨v7,rfl,hS⟩;replace hS:=hS.pick 2 rfl;obtain ⟨va,vc,rfl,hvc,_⟩:=hS.vecSlice (k:=1) rfl;refine .val (.makeFunc (ec9 rfl X0)) rfl ?_;refine .call Tryz.func134 rfl (ec9 rfl (ec9 rfl X0)) rfl (Xbh va vc l hl (fun r=>(below l name).contains r.name) 135 _ Tryz.func135 rfl [ptr b5 0] (blk b5 [.slice ga (below l name).length gc] 87) B _ J _ (fun r w X h=>Xo5 b5 ga gc (below l name) (by have:=X71 hwf name; omega) r B w J hRS X h) (by
    have h9:=((hS.pick 1 rfl).pick 3 rfl)
    try dsimp only [List.eraseIdx] at h9
    exact h9)) ?_
 rintro _ w ⟨rfl,hS⟩;rw [show l.filter (fun x=>!(below l name).contains x.name)=drop l name from rfl] at hS ⊢;refine .q 1 rfl (.val (.fo 1 rfl X9v rfl rfl X6f rfl) rfl (.s1 hS (k:=2) rfl rfl rfl rfl X6f (by simp) ?_));intro w hS;refine .nil (.seq (.region ?_));refine .val (.lo rfl hS (k:=0) rfl Xm6 rfl) rfl (.q 1 rfl (.nil (.ret (Xc Tryz.results89 rfl ?_))));replace hS:=(hS.drop (k:=0) rfl).drop (k:=2) rfl;exact ⟨_,rfl,J,ga,gc,rfl,hJ,hgc,hRS,va,vc,hS.x [1]⟩
end Go.Proofs.YtbciobiiejpdgaaGreatDoor
namespace Gk
open Go
structure KeyK {β:Type} (D:TypeDesc) (K:β->Value):Prop where
 is:∀ b,MapKept.IsKey D (K b)
 inj:∀ a b,K a=K b->a=b
theorem keyS:KeyK .string S:=⟨fun _=>trivial,fun a b h=>by injection h with h; injection h with h; injection h⟩
def Xub {β:Type} (K:β->Value) (kv:List (β×Value)) (es:Array MapEntry):Prop:=es.toList.map (fun e=>(e.key,e.val))=kv.map fun p=>(K p.1,p.2)
def Xm7 {β:Type} (K:β->Value) (b:Nat) (kv:List (β×Value)):X7:=fun h=>∃ es clk,Xub K kv es/\h=[(b,.map es clk)]
def MapI {β:Type} (I:Im) (K:β->Value) (b:Nat) (kv:List (β×Value)):Prop:=∃ es clk,Xub K kv es/\I b=some (.map es clk)
theorem MapI.mono {β:Type} {I J:Im} {K:β->Value} {b:Nat} {kv:List (β×Value)} (h:MapI I K b kv) (hl:Le I J):MapI J K b kv:=by
 obtain ⟨es,clk,h1,h2⟩:=h;exact ⟨es,clk,h1,hl _ _ h2⟩
section
variable {P:Program} {n:Nat} {K':X34} {L:Env} {w B:World} {ops:Array Oper} {rest:List Oper} {I:Im} {As:List X7} {β:Type} {K:β->Value} {D:TypeDesc} {kv:List (β×Value)} {k b:Nat} {t kt et ty:TypeId} {x y z:Operand} {pos:String} {af:Array Edge} {d:Nat} {g:Option (Nat×Bool)}
theorem X8a [BEq β] [LawfulBEq β] (hK:KeyK D K) (key:β):∀ (kv:List (β×Value)) (es:List MapEntry) (i:Nat),es.map (fun e=>(e.key,e.val))=kv.map (fun p=>(K p.1,p.2)) ->
  (kv.lookup key=none/\Instr.findNow D (K key) es i=some none)\/∃ j v,kv.lookup key=some v/\Instr.findNow D (K key) es i=some (some (j,v))
 | [],[],_,_=>.inl ⟨rfl,rfl⟩
 | [],e::es,_,h=>by simp at h
 | p::kv,[],_,h=>by simp at h
 | p::kv,e::es,i,h=>by
  simp only [Y1b,List.cons.injEq,Prod.mk.injEq] at h
  obtain ⟨⟨h1,h2⟩,h3⟩:=h;have hk:MapKept.IsKey D e.key:=h1 ▸ hK.is _;obtain ⟨r,hr,hi⟩:=MapKept.sameNow_of_keys (hK.is key) hk;cases r with
  | true =>
   have e1:=hK.inj _ _ ((hi.1 rfl).trans h1);exact .inr ⟨i,p.2,by obtain ⟨p1,p2⟩:=p; simp only at e1; subst e1; simp [List.lookup,beq_self_eq_true],by simp [Instr.findNow,hr,h2]⟩
  | false =>
   have hne:key≠p.1:=fun q=>by have:=hi.2 (by rw [h1,q]); cases this
   have hl:(p::kv).lookup key=kv.lookup key:=by obtain ⟨p1,p2⟩:=p; simp only at hne; simp [List.lookup,beq_eq_false_iff_ne.2 hne]
   rcases X8a hK key kv es (i+1) h3 with ⟨e1,e2⟩ | ⟨j,v,e1,e2⟩
   ·exact .inl ⟨by rw [hl]; exact e1,by simp [Instr.findNow,hr,e2]⟩
   ·exact .inr ⟨j,v,by rw [hl]; exact e1,by simp [Instr.findNow,hr,e2]⟩
theorem Xi9 [BEq β] [LawfulBEq β] {ty:TypeId} {b:Nat} {es:Array MapEntry} {clk:Nat} {z:Value} (hK:KeyK D K) (hb:w.heap[b]?=some (.map es clk)) (he:Xub K kv es) (key:β) (ht:P.underlying t=some (.map kt et)) (hk:P.underlying kt=some D) (hz:∀ w,(zeroValue et).run P w=.ok z w) (ok:Bool) :
  (Instr.lookup t (.map (some b)) (K key) ok).run P w=.ok (if ok then .tuple #[(kv.lookup key).getD z,.bool (kv.lookup key).isSome] else (kv.lookup key).getD z) w:=by
 have hc:(Instr.checkKey es.isEmpty 10000 kt (K key)).run P w=.ok () w:=MapKept.run_checkKey hk (hK.is key) _ 9999;rcases X8a hK key kv es.toList 0 he with ⟨h1,h2⟩ | ⟨j,v,h1,h2⟩
 ·simp [Instr.lookup,run_underlying ht,MapKept.run_getObj_map hb,hc,MapKept.run_findKey hk h2,h1,hz,Result.andThen]
 ·simp [Instr.lookup,run_underlying ht,MapKept.run_getObj_map hb,hc,MapKept.run_findKey hk h2,h1,Result.andThen]
theorem Sat.mapNow (hS:Sat B w I As) (hk:As[k]?=some (Xm7 K b kv)):∃ es clk,Xub K kv es/\w.heap[b]?=some (.map es clk):=by
 obtain ⟨g,hs,hg⟩:=hS;obtain ⟨h1,h2,hp,⟨es,clk,he,rfl⟩,_⟩:=hs.at_ hk;exact ⟨es,clk,he,(hg.perm hp).own b _ (by simp)⟩
theorem MapI.now (h:MapI I K b kv) (hS:Sat B w I As):∃ es clk,Xub K kv es/\w.heap[b]?=some (.map es clk):=by
 obtain ⟨es,clk,h1,h2⟩:=h;obtain ⟨g,hs,hg⟩:=hS;exact ⟨es,clk,h1,hg.imm _ _ h2⟩
theorem Ex.look2 [BEq β] [LawfulBEq β] {d:Option Nat} {z:Value} {key:β} (hK:KeyK D K) (hm:∃ es clk,Xub K kv es/\w.heap[b]?=some (.map es clk)) (hx:Ev n L x (.map (some b))) (hy:Ev n L y (K key)) (ht:P.underlying t=some (.map kt et)) (hk:P.underlying kt=some D) (hz:∀ w,(zeroValue et).run P w=.ok z w) :
  Ex P n L w ⟨d,.lookup t x y true,ty,pos,af,g⟩ (.tuple #[(kv.lookup key).getD z,.bool (kv.lookup key).isSome]) w:=fun a ha=>by
 obtain ⟨es,clk,he,hb⟩:=hm;have h:=Xi9 (ty:=ty) hK hb he key ht hk hz true;simp [execOp,hx a ha,hy a ha,h]
theorem WL.mkMap (K:β->Value) (hS:Sat B w I As) (hd:Nat.blt d n=true) (h:∀ b w',Sat B w' I (Xm7 K b []::As)->WL P n ops K' rest ((d,.map (some b))::L) w'):WL P n ops K' (⟨some d,.makeMap t none,ty,pos,af,none⟩::rest) L w:=by
 have h2:Sat B (w.alloc (.map #[] 0)) I (Xm7 K w.heap.size []::As):=(hS.alloc (.map #[] 0)).say (k:=0) rfl (A':=Xm7 K w.heap.size []) fun g hg=>⟨#[],0,rfl,hg⟩
 refine .val (v:=.map (some w.heap.size)) (fun a ha=>?_) hd (h _ _ h2);have hr:=run_makeMap_plain (P:=P) w t;simp [execOp,hr]
theorem Xt1 [BEq β] [LawfulBEq β] {val:Value} {key:β} (hK:KeyK D K) (hS:Sat B w I As) (hk:As[k]?=some (Xm7 K b kv)) (hno:kv.lookup key=none) (ht:P.underlying t=some (.map kt et)) (hkt:P.underlying kt=some D) :
  ∃ w',(Instr.mapUpdate t (.map (some b)) (K key) val).run P w=.ok () w'/\Sat B w' I (As.set k (Xm7 K b (kv ++ [(key,val)]))):=by
 obtain ⟨g,hs,hg⟩:=hS;obtain ⟨h1,h2,hp,⟨es,clk,he,rfl⟩,hset,_⟩:=hs.at_ hk;have hb:=(hg.perm hp).own b (.map es clk) (by simp);have hlt:b<w.heap.size:=(Y1a.1 hb).1;have hc:(Instr.checkKey false 10000 kt (K key)).run P w=.ok () w:=MapKept.run_checkKey hkt (hK.is key) _ 9999;have hf:Instr.findNow D (K key) es.toList 0=some none:=by
  rcases X8a hK key kv es.toList 0 he with ⟨_,h⟩ | ⟨j,v,h,_⟩
  ·exact h
  ·rw [hno] at h; cases h
 refine ⟨{ w with heap:=w.heap.setIfInBounds b (.map (es.push { key:=K key,val:=val,born:=clk }) (clk+1)) },?_,?_⟩
 ·simp [Instr.mapUpdate,run_underlying ht,MapKept.run_getObj_map hb,hc,MapKept.run_findKey hkt hf,MapKept.run_setObj_map _ hb,Result.andThen]
 ·-- the block is written
  have hS0:Sat B w I (As.set k (own b (.map es clk))):=by
   obtain ⟨g',hs',hp'⟩:=hset (own b (.map es clk)) [(b,.map es clk)] rfl;exact ⟨g',hs',hg.perm (hp.trans hp'.symm)⟩
  have hkl:k<As.length:=(Y5.1 hk).1;have hw:=hS0.write (k:=k) (b:=b) (o:=.map es clk) (w':={ w with heap:=w.heap.setIfInBounds b (.map (es.push { key:=K key,val:=val,born:=clk }) (clk+1)) }) (o':=.map (es.push { key:=K key,val:=val,born:=clk }) (clk+1)) (by simp [hkl]) rfl rfl rfl (MapKept.heap_set hb).1 (fun c hc=>(MapKept.heap_set hb).2 c hc);have hf2:=hw.say (k:=k) (A:=own b (.map (es.push { key:=K key,val:=val,born:=clk }) (clk+1))) (A':=Xm7 K b (kv ++ [(key,val)])) (by simp [hkl]) fun g hg=>⟨_,_,by
   unfold Xub at he ⊢;rw [Array.toList_push,Yw,Yw,he];rfl,hg⟩
  simpa using hf2
theorem WL.mput [BEq β] [LawfulBEq β] {val:Value} {key:β} (hK:KeyK D K) (hS:Sat B w I As) (hk:As[k]?=some (Xm7 K b kv)) (hx:Ev n L x (.map (some b))) (hy:Ev n L y (K key)) (hz:Ev n L z val) (hno:kv.lookup key=none) (ht:P.underlying t=some (.map kt et)) (hkt:P.underlying kt=some D)
  (h:∀ w',Sat B w' I (As.set k (Xm7 K b (kv ++ [(key,val)])))->WL P n ops K' rest L w'):WL P n ops K' (⟨none,.mapUpdate t x y z,ty,pos,af,none⟩::rest) L w:=by
 obtain ⟨w',hr,hS'⟩:=Xt1 (val:=val) hK hS hk hno ht hkt;refine .st (w':=w') (fun a ha=>?_) (h _ hS');simp [execOp,hx a ha,hy a ha,hz a ha,hr]
theorem Sat.freezeMap (hS:Sat B w I As) (hk:As[k]?=some (Xm7 K b kv)):∃ J,Le I J/\MapI J K b kv/\Sat B w J (As.eraseIdx k):=by
 have hkl:k<As.length:=(Y5.1 hk).1;obtain ⟨⟨⟨es,clk⟩,he⟩,hS2⟩:=hS.opened (X:={ x:Array MapEntry×Nat // Xub K kv x.1 }) (T:=fun x=>own b (.map x.1.1 x.1.2)) hk fun g hg=>by
  obtain ⟨es,clk,he,rfl⟩:=hg;exact ⟨⟨(es,clk),he⟩,rfl⟩
 obtain ⟨J,h1,h2,h3⟩:=hS2.freeze (k:=k) (b:=b) (o:=.map es clk) (by simp [hkl]);rw [Y3f] at h3;exact ⟨J,h1,⟨es,clk,he,h2⟩,h3⟩
end
def X9 {α:Type} (cells:α->List Value) (l:List α):List Value:=(l.map cells).flatten
theorem X1x {α:Type} {cells:α->List Value} {s:Nat} (hc:∀ x,(cells x).length=s):∀ l:List α,(X9 cells l).length=l.length*s
 | []=>by simp [X9]
 | x::l=>by
  have:=X1x hc l
  unfold X9 at this ⊢;rw [Y1b,Y1q,Y0,this,hc,List.length_cons,Y2y]; omega
theorem X7k {α:Type} {cells:α->List Value} {s:Nat} (hc:∀ x,(cells x).length=s) {l:List α} {i j:Nat} {r:α} {v:Value} (hr:l[i]?=some r) (hj:(cells r)[j]?=some v):(X9 cells l)[i*s+j]?=some v:=by
 have hjs:j<s:=by rw [<- hc r]; exact (Y5.1 hj).1
 have h2:=X5d (l.map cells) (fun c h=>by obtain ⟨x,_,rfl⟩:=Y2b.1 h; exact hc x) i j hjs;rw [Yu,hr] at h2;exact h2.trans hj
theorem Xcd {α:Type} (cells:α->List Value) (l:List α) (x:α):X9 cells (l ++ [x])=X9 cells l ++ cells x:=by simp [X9]
def X6y {α:Type} (w:World) (cells:α->List Value) (s:Nat) (a:Option Addr) (l:List α):Prop:=∀ (i:Nat) (r:α),l[i]?=some r->∃ p,a=some p/\∀ (j:Nat) v,(cells r)[j]?=some v->w.cell? ((p.add (i*s)).add j)=some v
section
variable {P:Program} {n:Nat} {K:X34} {L:Env} {w B:World} {ops:Array Oper} {rest:List Oper} {I:Im} {As:List X7} {k:Nat} {ty t t' E:TypeId} {x y:Operand} {pos:String} {af:Array Edge} {g:Option (Nat×Bool)} {v:Value}
theorem X6r {α:Type} {cells:α->List Value} {s:Nat} {a:Option Addr} {l:List α} (hc:∀ x,(cells x).length=s) (hS:Sat B w I As) (hR:RS I a s l.length (X9 cells l)):X6y w cells s a l:=fun i r hr=>by
 obtain ⟨p,rfl,hA⟩:=hR.2 (by have:=(Y5.1 hr).1; omega);refine ⟨p,rfl,fun j v hj=>?_⟩;rw [Addr.add_add];exact X4g hS hA (X7k hc hr hj)
theorem Ex.ldR {d:Option Nat} {p:Addr} {s:Nat} {vs:List Value} (hx:Ev n L x (.pointer (some p))) (hv:∀ (j:Nat) v,vs[j]?=some v->w.cell? (p.add j)=some v) (ht:∀ w,(isAgg t).run P w=.ok true w) (hs:∀ w,(Go.sizeOf t).run P w=.ok s w)
  (hl:vs.length=s):Ex P n L w ⟨d,.load t x,ty,pos,af,g⟩ (.agg vs.toArray) w:=fun a ha=>by
 have h:=run_loadCells_list (P:=P) w p vs hv;rw [hl] at h;simp [execOp,hx a ha,Instr.loadAt,Instr.sureAddr,loadVar,ht,hs,h]
theorem Ex.ld1 {d:Option Nat} {p:Addr} {v:Value} (hx:Ev n L x (.pointer (some p))) (hv:w.cell? p=some v) (ht:∀ w,(isAgg t).run P w=.ok false w):Ex P n L w ⟨d,.load t x,ty,pos,af,g⟩ v w:=fun a hh=>by
 simp [execOp,hx a hh,Instr.loadAt,Instr.sureAddr,loadVar,ht,load,Sem.run,hv]
theorem WL.appendF {d E size m c nn:Nat} {a:Option Addr} {v:Value} {xs ys:List Value} {i:TypeInfo} {z:Value} {bytes:Nat} (hS:Sat B w I As) (hx:Ev n L x v) (hy:Ev n L y (.slice a m c)) (hr:RS I a size m ys)
  (hk:As[k]?=some (Vec E size v nn xs)) (ht:P.underlying t=some (.slice E)) (hi:P.info? E=some i) (hz:i.zero=some z) (hsize:i.size=size) (hby:i.bytes=bytes) (hzs:z.cells.size=size)
  (h1:ys.all Value.oneCell'=true) (h63:(nn+m)*bytes<=140737488355328/\nn+m<=maxLen) (hd:Nat.blt d n=true)
  (h:∀ v' w',Sat B w' I (As.set k (Vec E size v' (nn+m) (xs ++ ys)))->WL P n ops K rest ((d,v')::L) w') :
  WL P n ops K (⟨some d,.call ⟨.builtin .append,#[x,y],#[t,t]⟩,ty,pos,af,none⟩::rest) L w:=by
 rcases Y1v m with h0 | h0
 ·subst h0;have hy0:ys=[]:=Yj (by simpa using hr.1);subst hy0;obtain ⟨a0,c0,rfl,hc0,_⟩:=hS.vecSlice hk;have hr:(Builtin.append_ #[t,t] ty #[.slice a0 nn c0,.slice a 0 c]).run P w=.ok (.slice a0 nn c0) w:=by
   subst hsize;cases a0 <;> cases a <;> simp [Builtin.append_,run_underlying ht,Go.sizeOf,typeInfo,hi,Builtin.lenOf,Builtin.firstCells,loadCells,loadCellsFrom,storeCells,hc0]
  have h2:=h (.slice a0 nn c0) w (by
   have hlk:k<As.length:=(Y5.1 hk).1
   have:As.set k (Vec E size (.slice a0 nn c0) (nn+0) (xs ++ []))=As:=by
    rw [Y21,Y9]
    have:=(Y5.1 hk).2
    rw [<- this,List.set_getElem_self]
   rw [this]; exact hS)
  exact WL.val (w':=w) (fun a' ha=>by simp [execOp,resolve,invoke,builtin,hx a' ha,hy a' ha,hr]) hd h2
 ·obtain ⟨p,rfl,hA⟩:=hr.2 h0;obtain ⟨v',w',hr',hS'⟩:=X2r (P:=P) (ty:=ty) hS ht hi hz hsize hby hzs hk (p:=p) (m:=m) (c:=c) hr.1 h0 (fun q u hu=>X4g hS hA hu) (Y1c.1 h1) h63.2 h63.1
  exact WL.val (w':=w') (fun a' ha=>by simp [execOp,resolve,invoke,builtin,hx a' ha,hy a' ha,hr']) hd (h _ _ hS')
end
end Gk
namespace Go.Proofs.YtbciobiiejpdgaaGreatDoor
open Gk Ul Pc Tk Tr
abbrev Pr:=List UInt8×List UInt8
def X1i (p:Pr):List Value:=[S p.1,S p.2]
theorem pr_one (l:List Pr):(X9 X1i l).all Value.oneCell'=true:=by
 unfold X9
 induction l with
 | nil=>rfl
 | cons p l ih=>rw [Y1b,Y1q,Y4y,ih]; rfl
structure Us where
 name:List UInt8
 pw:List UInt8
 attrs:List Pr
def X3t (u:Us) (a:Option Addr) (c:Nat):List Value:=[S u.name,S u.pw,.slice a u.attrs.length c]
def UsAt (I:Im) (u:Us) (l:List Value):Prop:=∃ a c,l=X3t u a c/\u.attrs.length<=c/\RS I a 2 u.attrs.length (X9 X1i u.attrs)
theorem UsAt.mono {I J:Im} {u:Us} {l:List Value} (h:UsAt I u l) (hl:Le I J):UsAt J u l:=by
 obtain ⟨a,c,e,h1,h2⟩:=h;exact ⟨a,c,e,h1,h2.mono hl⟩
def badW (i:Nat) (c:UInt8):Bool:=!letC c && (((i:Int) == 0) || (((decide ((c.toNat:Int)<48) || decide ((57:Int)<(c.toNat:Int))) && ((c.toNat:Int) != 45)) && ((c.toNat:Int) != 95)))
def Xbc:List UInt8->Nat->Bool
 | [],_=>true
 | c::r,i=>!badW i c && Xbc r (i+1)
theorem X5j:∀ (s:List UInt8) (k:Nat),Xbc s k=true ↔ ∀ (j:Nat) c,s[j]?=some c->badW (k+j) c=false
 | [],k=>by simp [Xbc]
 | c::r,k=>by
  rw [Xbc,Yn,X5j r (k+1)];constructor
  ·rintro ⟨h1,h2⟩ j d hd;cases j with
   | zero=>simp at hd; subst hd; simpa using h1
   | succ j=>rw [show k+(j+1)=k+1+j by omega]; exact h2 j d (by simpa using hd)
  ·intro h;refine ⟨by simpa using h 0 c rfl,fun j d hd=>?_⟩;rw [show k+1+j=k+(j+1) by omega];exact h (j+1) d (by simpa using hd)
def Xbz (s:List UInt8):Bool:=Xbc s 0 && (!(s == []) && decide ((s.length:Int)<=60))
def Xqf (p:Pr):Bool:=!Xbz p.1 || !X6t p.2 32 0 60
def X7u (u:Us):Bool:=X6t u.name 33 1 32 && decide ((1:Int)<=(u.pw.length:Int)) && decide ((u.pw.length:Int)<=60) && decide ((u.attrs.length:Int)<=8) && !u.attrs.any Xqf
def X1n (p:Pr):Prop:=p.1.length<=maxLen/\p.2.length<=maxLen
theorem Xty (s:List UInt8) (hs:s.length<=9223372036854775807) (B w:World) (I:Im) (As:List X7) (hS:Sat B w I As) :
  Cz 167 [S s] w fun v w'=>v=.bool (Xbz s)/\Sat B w' I As:=by
 refine calls Tryz.func167 rfl Tryz.ntmps167 rfl (.seq (.q 1 rfl (.seq (.seq (.region (.run 3 rfl ⟨Qu9,trivial⟩ (.nil (.block (.loop (σ:=Nat) (fun i=>[(0,S s),(6,I64 (s.length:Nat)),(7,I64 (i:Nat))]) (fun i w=>i<=s.length/\(∀ (j:Nat) c,j<i->s[j]?=some c->badW j c=false)/\Sat B w I As) (fun i=>s.length - i) 0 ⟨rfl,rfl,rfl,trivial⟩ ⟨Yo _,fun _ _ h=>absurd h (by omega),hS⟩ ?_)))))))));rintro i w ⟨hi,hno,hS⟩;refine .seq (.q 1 rfl (.seq ?_));refine .cond rfl (fun hb8=>?_) fun hb8=>?_
 ·have hc8:=hb8; simp only [Y6] at hc8;refine .skip (.seq (.block (.seq (.q 2 rfl (.seq (.region (.run 4 rfl ⟨⟨⟨by omega,by omega⟩,Qu9⟩,trivial⟩ (.nil (.seq (.t 1 rfl (.call Tryz.func214 rfl (ec9 rfl X0) rfl (Xlf _ w) ?_)))))))))));rintro _ _ ⟨rfl,rfl⟩;refine .q 2 rfl (.gm rfl rfl rfl rfl (.gval rfl rfl (fun hg1=>(.eql (.gd hg1 rfl) (.of rfl))) rfl (.gval rfl rfl (fun hg1=>(.move (.gd hg1 rfl))) rfl (.gval2 rfl rfl rfl (fun hg1 hg2=>(.mo rfl)) rfl (.gval2 rfl rfl rfl (fun hg1 hg2=>(.lss (.gd2 hg1 hg2 rfl) (.of rfl))) rfl (.gval2 rfl rfl rfl (fun hg1 hg2=>(.move (.gd2 hg1 hg2 rfl))) rfl (.gval3 rfl rfl rfl (fun hg1 hg2 hg3=>(.mo rfl)) rfl (.gval3 rfl rfl rfl (fun hg1 hg2 hg3=>(.gtr (.gd3 hg1 hg2 hg3 rfl) (.of rfl))) rfl (.gval2 rfl rfl rfl (fun hg1 hg2=>(.por (.gd2 hg1 hg2 rfl) (.of rfl) (.gd2 hg1 hg2 rfl))) rfl (.gval2 rfl rfl rfl (fun hg1 hg2=>(.move (.gd2 hg1 hg2 rfl))) rfl (.gval3 rfl rfl rfl (fun hg1 hg2 hg3=>(.mo rfl)) rfl (.gval3 rfl rfl rfl (fun hg1 hg2 hg3=>(.neq (.gd3 hg1 hg2 hg3 rfl) (.of rfl))) rfl (.gval2 rfl rfl rfl (fun hg1 hg2=>(.pand (.gd2 hg1 hg2 rfl) (.gd2 hg1 hg2 rfl) (.of rfl))) rfl (.gval2 rfl rfl rfl (fun hg1 hg2=>(.move (.gd2 hg1 hg2 rfl))) rfl (.gval3 rfl rfl rfl (fun hg1 hg2 hg3=>(.mo rfl)) rfl (.gval3 rfl rfl rfl (fun hg1 hg2 hg3=>(.neq (.gd3 hg1 hg2 hg3 rfl) (.of rfl))) rfl (.gval2 rfl rfl rfl (fun hg1 hg2=>(.pand (.gd2 hg1 hg2 rfl) (.gd2 hg1 hg2 rfl) (.of rfl))) rfl (.gval rfl rfl (fun hg1=>(.por (.gd hg1 rfl) (.of rfl) (.gd hg1 rfl))) rfl (.val (.pa rfl rfl rfl) rfl (.nil ?_))))))))))))))))))));refine .cond rfl (fun hb35=>?_) fun hb35=>?_
  ·have hc35:=hb35; simp only [Y6] at hc35;refine .seq (.q 1 rfl (.ret (Xc Tryz.results167 rfl ?_)));refine ⟨_,rfl,congrArg Value.bool ?_,hS⟩
   have:Xbc s 0=false:=by
    cases h:Xbc s 0 with
    | false=>rfl
    | true =>
     have h1:=(X5j s 0).1 h i _ (Xy (show i<s.length by omega));rw [Yc] at h1;exact absurd (hb35.symm.trans h1) (by decide)
   rw [Xbz,this]; rfl
  have hc35:=hb35; simp only [Y6] at hc35;refine .skip (.region (.run 2 rfl ⟨⟨by omega,by omega⟩,trivial⟩ (.nil ?_)));refine ⟨i+1,⟨rfl,rfl,rfl,trivial⟩,⟨by (try dsimp only); omega,fun j c hj hc=>?_,hS⟩,by (try dsimp only); omega⟩;rcases Yp j i with h1 | h1
  ·exact hno j c h1 hc
  ·have e:j=i:=by omega
   subst e;rw [Xy (show j<s.length by omega)] at hc; cases hc;exact hb35
 have hc8:=hb8; simp only [Y6] at hc8;refine .exit (.seq (.t 3 rfl (.gm rfl rfl rfl rfl (.gval rfl rfl (fun hg1=>(.len (.gd hg1 rfl) Qu9)) rfl (.gval rfl rfl (fun hg1=>(.leq (.gd hg1 rfl) (.of rfl))) rfl (.val (.pa rfl rfl rfl) rfl (.q 1 rfl (.nil (.ret (Xc Tryz.results167 rfl ?_))))))))));refine ⟨_,rfl,congrArg Value.bool ?_,hS⟩
 have:Xbc s 0=true:=(X5j s 0).2 fun j c hc=>by
  have:=(Y5.1 hc).1
  rw [Yc]; exact hno j c (by omega) hc
 rw [Xbz,this]
 simp
theorem Xrn (p:Pr) (hp:X1n p) (B w:World) (I:Im) (As:List X7) (hS:Sat B w I As) :
  Cz 166 [.agg (X1i p).toArray] w fun v w'=>v=.bool (Xqf p)/\Sat B w' I As:=by
 refine calls Tryz.func166 rfl Tryz.ntmps166 rfl (.seq (.region (.boxA (cs:=[_,_]) hS (.of rfl) rfl ?_)));intro b1 w hS;refine .q 1 rfl (.nil (.seq (.region ?_)));refine .val (.fo 0 rfl X3j rfl rfl Qs9 rfl) rfl (.val (.lo rfl hS (k:=0) rfl Qg9 rfl) rfl (.call Tryz.func167 rfl (ec9 rfl X0) rfl (Xty p.1 hp.1 B _ I _ hS) ?_));rintro _ w ⟨rfl,hS⟩;refine .q 2 rfl (.gval rfl rfl (fun hg1=>(by exact .fo 1 rfl X3j rfl rfl Qs9 rfl)) rfl ?_);refine .gval rfl rfl (fun hg1=>(by exact (.ld (.gd hg1 rfl) hS (k:=0) rfl Qg9 rfl))) rfl ?_;refine .gcall (T:=fun w=>Sat B w I (blk b1 [S p.1,S p.2] 136::As)) rfl rfl rfl Tryz.func168 rfl (fun hg1=>(Xd (.gd hg1 rfl) (ec9 rfl (ec9 rfl (ec9 rfl X0))))) rfl (fun hg1=>Xcl p.2 32 0 60 hp.2 B _ I _ hS) hS ?_;rintro w hS;refine .gval rfl rfl (fun hg1=>(.not (.gd hg1 rfl))) rfl (.val (.po rfl rfl rfl) rfl (.q 1 rfl (.nil (.ret (Xc Tryz.results166 rfl ?_)))));exact ⟨_,rfl,rfl,hS.y 0 1⟩
theorem Xbl (a:Option Addr) (cap:Nat) (l:List (Pr)) (hln:l.length<=9223372036854775807) (pr:Pr->Bool) (fid:FuncId) (fn:Func) (hfn:Tryz.prog.funcs[fid]?=some fn) (hcal:Xj fn=true) (capv:List Value) (B w:World) (I:Im) (As:List X7) (hE:∀ w,Sat B w I As->X6y w X1i 2 a l) (hf:∀ (r:Pr) (hr:r∈l) w,Sat B w I As->Calls Tryz.prog fid ([Value.agg (X1i r).toArray] ++ capv).toArray w (Ret fun v w'=>v=.bool (pr r)/\Sat B w' I As)) (hS:Sat B w I As) :
  Cz 193 [.slice a l.length cap,.func (.func fid) #[] capv.toArray] w fun v w'=>v=I64 (Xx pr l 0)/\Sat B w' I As:=by
 refine calls Xmp rfl Tryz.ntmps193 rfl (.seq (.q 1 rfl (.seq (.seq (.region (.run 3 rfl ⟨⟨_,X2e⟩,trivial⟩ (.nil (.block (.loop (σ:=Nat) (fun i=>[(0,.slice a l.length cap),(1,.func (.func fid) #[] capv.toArray),(7,I64 (l.length:Nat)),(8,I64 (i:Nat))]) (fun i w=>i<=l.length/\(∀ (j:Nat) t,j<i->l[j]?=some t->pr t=false)/\Sat B w I As) (fun i=>l.length - i) 0 ⟨rfl,rfl,rfl,rfl,trivial⟩ ⟨Yo _,fun _ _ h=>absurd h (by omega),hS⟩ ?_)))))))));rintro i w ⟨hi,hno,hS⟩;refine .seq (.q 1 rfl (.seq ?_));refine .cond rfl (fun hb9=>?_) fun hb9=>?_
 ·have hc9:=hb9; try simp only [Y6] at hc9
  refine .skip (.seq (.block (.seq ?_)));obtain ⟨r,hr⟩:∃ r,l[i]?=some r:=⟨_,Y4 (by omega)⟩
  obtain ⟨p,rfl,hx⟩:=hE w hS i r hr;refine .q 2 rfl (.seq (.t 3 rfl ?_));refine .val (.ii rfl rfl (by omega) (by omega) X2e X2i) rfl (.val (.ldR (.of rfl) hx Xkd X2i rfl) rfl (.vcall (cap:=capv) hfn hcal (.of rfl) (ec9 rfl X0) rfl (hf r (Yl hr) w hS) ?_));clear hS;rintro _ w ⟨rfl,hS⟩;refine .nil (.cond rfl (fun hb16=>?_) fun hb16=>?_)
  ·refine .seq (.q 2 rfl (.ret (Xc Xr1 rfl ?_)));exact ⟨_,rfl,by rw [X2k hno hr hb16],hS⟩
  have hc16:=hb16; try simp only [Y6] at hc16
  refine .skip (.region (.run 2 rfl ⟨⟨by omega,by omega⟩,trivial⟩ (.nil ?_)));refine ⟨i+1,⟨rfl,rfl,rfl,rfl,trivial⟩,⟨by (try dsimp only); omega,fun j t hj ht=>?_,hS⟩,by (try dsimp only); omega⟩;rcases Yp j i with h1 | h1
  ·exact hno j t h1 ht
  ·have e:j=i:=by omega
   subst e;rw [hr] at ht; cases ht;exact hb16
 have hc9:=hb9; try simp only [Y6] at hc9
 refine .exit (.seq (.q 1 rfl (.ret (Xc Xr1 rfl ?_))));exact ⟨_,rfl,by rw [X21 (fun j t ht=>hno j t (by have:=(Y5.1 ht).1; omega) ht)],hS⟩
theorem X7y (a:Option Addr) (cap:Nat) (l:List (Pr)) (hln:l.length<=9223372036854775807) (pr:Pr->Bool) (fid:FuncId) (fn:Func) (hfn:Tryz.prog.funcs[fid]?=some fn) (hcal:Xj fn=true) (capv:List Value) (B w:World) (I:Im) (As:List X7) (hE:∀ w,Sat B w I As->X6y w X1i 2 a l) (hf:∀ (r:Pr) (hr:r∈l) w,Sat B w I As->Calls Tryz.prog fid ([Value.agg (X1i r).toArray] ++ capv).toArray w (Ret fun v w'=>v=.bool (pr r)/\Sat B w' I As)) (hS:Sat B w I As) :
  Cz 169 [.slice a l.length cap,.func (.func fid) #[] capv.toArray] w fun v w'=>v=.bool (l.any pr)/\Sat B w' I As:=by
 refine calls Xqs rfl Tryz.ntmps169 rfl (.seq (.q 1 rfl (.seq (.t 2 rfl (.call Xmp rfl (ec9 rfl (ec9 rfl X0)) rfl (Xbl a cap l hln pr fid fn hfn hcal capv B _ I As hE hf hS) ?_)))));rintro _ w ⟨rfl,hS⟩;refine .q 2 rfl (.nil (.ret (Xc Tryz.results169 rfl ?_)));exact ⟨_,rfl,by rw [<- X24 pr l 0],hS⟩
theorem Xk3 (a:Option Addr) (c:Nat) (l:List (Pr)) (hl:l.length<=1000000) (B w:World) (I:Im) (hR:RS I a 2 l.length (X9 X1i l)) (As:List X7) (hS:Sat B w I As) :
  Cz 117 [.slice a l.length c] w fun v w'=>∃ J ra rc,v=.slice ra l.length rc/\Le I J/\l.length<=rc/\RS J ra 2 l.length (X9 X1i l)/\Sat B w' J As:=by
 refine calls Tryz.func117 rfl Tryz.ntmps117 rfl (.seq (.q 1 rfl (.seq (.seq (.t 1 rfl (.val (Ex.slNil (.of rfl) (.of rfl) X2e) rfl (.nil ?_)))))));refine .cond rfl (fun hb4=>?_) fun hb4=>?_
 ·refine .seq (.q 1 rfl (.ret (Xc Tryz.results117 rfl ?_)));cases a with
  | some p=>simp at hb4
  | none =>
  have h0:l=[]:=by
   cases l with
   | nil=>rfl
   | cons x l=>obtain ⟨p,h,_⟩:=hR.2 (by simp); cases h
  subst h0;exact ⟨_,rfl,I,none,0,rfl,Le.refl _,Yq _,⟨rfl,fun h=>absurd h (by simp)⟩,hS⟩
 refine .skip (.seq (.region (.buildSlice (cs:=[]) hS X4 X2e X2i Xbr rfl rfl rfl rfl ?_)));intro b5 w hS;refine .q 1 rfl ?_;replace hS:=hS.vecOf (k:=0) (E:=136) (size:=2) (n:=0) rfl rfl (Yo _);refine .appendF (size:=2) (bytes:=32) hS (.of rfl) (.of rfl) hR (k:=0) rfl X2e (i:=Tryz.t136) (by kernel_rfl) rfl rfl rfl rfl (pr_one l) ⟨by omega,by unfold maxLen; omega⟩ rfl ?_;intro v7 w hS;rw [Yc,Ye] at hS;refine .q 1 rfl (.nil (.ret (Xc Tryz.results117 rfl ?_)));obtain ⟨ra,rc,rfl,hrc,_⟩:=hS.vecSlice (k:=0) rfl;obtain ⟨J,hJ,hRS,hS⟩:=hS.freezeVec (k:=0) rfl;exact ⟨_,rfl,J,ra,rc,rfl,hJ,hrc,hRS,hS⟩
theorem Xq4 (u:Us) (a:Option Addr) (c:Nat) (hn:u.name.length<=9223372036854775807) (hal:u.attrs.length<=9223372036854775807) (hA:∀ p∈u.attrs,X1n p) (B w:World) (I:Im) (hR:RS I a 2 u.attrs.length (X9 X1i u.attrs)) (As:List X7) (hS:Sat B w I As) :
  Cz 116 [.agg (X3t u a c).toArray] w fun v w'=>v=.bool (X7u u)/\Sat B w' I As:=by
 refine calls Tryz.func116 rfl Tryz.ntmps116 rfl (.seq (.region (.boxA (cs:=[_,_,_]) hS (.of rfl) rfl ?_)));intro b1 w hS;refine .q 1 rfl (.nil (.seq (.q 1 rfl (.seq (.region ?_)))));refine .val (.fo 0 rfl X2t rfl rfl Qs9 rfl) rfl (.val (.lo rfl hS (k:=0) rfl Qg9 rfl) rfl (.call Tryz.func168 rfl (ec9 rfl (ec9 rfl (ec9 rfl (ec9 rfl X0)))) rfl (Xcl u.name 33 1 32 hn B _ I _ hS) ?_));rintro _ w ⟨rfl,hS⟩;refine .q 1 rfl (.gval rfl rfl (fun hg1=>(by exact .fo 1 rfl X2t rfl rfl Qs9 rfl)) rfl ?_);refine .gval rfl rfl (fun hg1=>(by exact (.ld (.gd hg1 rfl) hS (k:=0) rfl Qg9 rfl))) rfl ?_;refine .gval rfl rfl (fun hg1=>(.len (.gd hg1 rfl) Qu9)) rfl (.gval rfl rfl (fun hg1=>(.geq (.gd hg1 rfl) (.of rfl))) rfl (.val (.pa rfl rfl rfl) rfl (.q 1 rfl ?_)));refine .gval rfl rfl (fun hg1=>(by exact .fo 1 rfl X2t rfl rfl Qs9 rfl)) rfl ?_;refine .gval rfl rfl (fun hg1=>(by exact (.ld (.gd hg1 rfl) hS (k:=0) rfl Qg9 rfl))) rfl ?_;refine .gval rfl rfl (fun hg1=>(.len (.gd hg1 rfl) Qu9)) rfl (.gval rfl rfl (fun hg1=>(.leq (.gd hg1 rfl) (.of rfl))) rfl (.val (.pa rfl rfl rfl) rfl (.q 1 rfl ?_)));refine .gval rfl rfl (fun hg1=>(by exact .fo 2 rfl X2t rfl rfl X4u rfl)) rfl ?_;refine .gval rfl rfl (fun hg1=>(by exact (.ld (.gd hg1 rfl) hS (k:=0) rfl X6x rfl))) rfl ?_;refine .gval rfl rfl (fun hg1=>(.lenSlice (.gd hg1 rfl) X2e)) rfl (.gval rfl rfl (fun hg1=>(.leq (.gd hg1 rfl) (.of rfl))) rfl (.val (.pa rfl rfl rfl) rfl (.q 1 rfl ?_)));refine .gval rfl rfl (fun hg1=>(by exact .fo 2 rfl X2t rfl rfl X4u rfl)) rfl ?_;refine .gval rfl rfl (fun hg1=>(by exact (.ld (.gd hg1 rfl) hS (k:=0) rfl X6x rfl))) rfl ?_;refine .gm rfl rfl rfl rfl (.gcall (T:=fun w=>Sat B w I (blk b1 (X3t u a c) 183::As)) rfl rfl rfl Xqs rfl (fun hg1=>(Xd (.gd hg1 rfl) (Xd (.gd hg1 rfl) X0))) rfl (fun hg1=>X7y a c u.attrs (by omega) Xqf 166 _ Tryz.func166 rfl [] B _ I _ (fun w h=>X6r (fun _=>rfl) h hR) (fun p hp w h=>Xrn p (hA p hp) B w I _ h) hS) hS ?_);rintro w hS;refine .gval rfl rfl (fun hg1=>(.not (.gd hg1 rfl))) rfl (.val (.pa rfl rfl rfl) rfl (.q 1 rfl (.nil (.ret (Xc Tryz.results116 rfl ?_)))));exact ⟨_,rfl,rfl,hS.y 0 1⟩
theorem Xnt:Bld Tryz.prog 196 [(0,1)] [.map none]:=X23 Xvh Tryz.zeroValue196 (fun w=>by simp [go_sem])
def UsrsAt (I:Im) (a:Option Addr) (l:List Us):Prop:=∀ (i:Nat) (u:Us),l[i]?=some u->∃ p ra rc,a=some p/\At I (p.add (i*3)) (X3t u ra rc)/\u.attrs.length<=rc/\RS I ra 2 u.attrs.length (X9 X1i u.attrs)
theorem UsrsAt.mono {I J:Im} {a:Option Addr} {l:List Us} (h:UsrsAt I a l) (hl:Le I J):UsrsAt J a l:=fun i u hu=>by
 obtain ⟨p,ra,rc,e,h1,h2,h3⟩:=h i u hu;exact ⟨p,ra,rc,e,h1.mono hl,h2,h3.mono hl⟩
structure Us.fits (u:Us):Prop where
 name:u.name.length<=maxLen
 pw:u.pw.length<=maxLen
 attrs:u.attrs.length<=9223372036854775807/\∀ p∈u.attrs,X1n p
def X59:List Us->Nat->List Us->Nat×Nat
 | [],_,_=>(0,0)
 | u::r,i,acc=>if 16<=i then (5,i) else if X7u u=false then (1,i) else if acc.any (fun t=>t.name == u.name) then (7,i) else X59 r (i+1) (acc ++ [u])
def KvOf (J:Im) (kv:List (List UInt8×Value)) (l:List Us):Prop:=kv.length=l.length/\∀ (i:Nat) (u:Us),l[i]?=some u->∃ cs,kv[i]?=some (u.name,.agg (List.toArray cs))/\UsAt J u cs
theorem KvOf.mono {I J:Im} {kv:List (List UInt8×Value)} {l:List Us} (h:KvOf I kv l) (hl:Le I J):KvOf J kv l:=⟨h.1,fun i u hu=>by
 obtain ⟨cs,h1,h2⟩:=h.2 i u hu;exact ⟨cs,h1,h2.mono hl⟩⟩
theorem KvOf.snoc {J:Im} {kv:List (List UInt8×Value)} {l:List Us} {u:Us} {cs:List Value} (h:KvOf J kv l) (hu:UsAt J u cs):KvOf J (kv ++ [(u.name,.agg cs.toArray)]) (l ++ [u]):=⟨by simp [h.1],fun i t ht=>by
 rcases Yp i l.length with h1 | h1
 ·rw [Yi h1] at ht;rw [Yi (by rw [h.1]; exact h1)];exact h.2 i t ht
 ·have h2:=(Y5.1 ht).1;simp only [Y0,List.length_cons,List.length_nil] at h2
  have e:i=l.length:=by omega
  subst e;simp at ht; subst ht
  exact ⟨cs,by rw [<- h.1]; simp,hu⟩⟩
theorem Xot {J:Im} (name:List UInt8):∀ {kv:List (List UInt8×Value)} {l:List Us},KvOf J kv l->(l.find? (fun t=>t.name == name)=none/\kv.lookup name=none)\/∃ u cs,l.find? (fun t=>t.name == name)=some u/\kv.lookup name=some (.agg (List.toArray cs))/\UsAt J u cs
 | [],[],_=>.inl ⟨rfl,rfl⟩
 | [],u::l,h=>by have:=h.1; simp at this
 | p::kv,[],h=>by have:=h.1; simp at this
 | p::kv,u::l,h=>by
  obtain ⟨cs,h1,h2⟩:=h.2 0 u rfl;simp at h1; subst h1
  have h3:KvOf J kv l:=⟨by simpa using h.1,fun i t ht=>by simpa using h.2 (i+1) t (by simpa using ht)⟩
  rw [Y2v]
  by_cases e:u.name=name
  ·subst e;exact .inr ⟨u,cs,by simp,by simp [List.lookup],h2⟩
  ·have e1:(u.name == name)=false:=beq_eq_false_iff_ne.2 e;have e2:(name == u.name)=false:=beq_eq_false_iff_ne.2 (Ne.symm e);simp only [e1,List.lookup,e2]
   exact Xot name h3
theorem Xrj (l:List Us) (name:List UInt8):l.any (fun t=>t.name == name)=(l.find? (fun t=>t.name == name)).isSome:=by
 rw [Y2u,Y35,List.find?_isSome]
def TabAt (J:Im) (tb:Nat) (l:List Us):Prop:=∃ mb kv,At J (ad tb 0) [.map (some mb)]/\MapI J S mb kv/\KvOf J kv l
theorem TabAt.mono {I J:Im} {tb:Nat} {l:List Us} (h:TabAt I tb l) (hl:Le I J):TabAt J tb l:=by
 obtain ⟨mb,kv,h1,h2,h3⟩:=h;exact ⟨mb,kv,h1.mono hl,h2.mono hl,h3.mono hl⟩
theorem Xnj {J:Im} {b:Nat} {cs:List Value} {E:TypeId} (h:J b=some (Xl cs E)):At J (ad b 0) cs:=⟨rfl,_,E,(0,0),h,fun j v hj=>by simpa [ad] using hj⟩
theorem Xba {u:Us} (h:X7u u=true):u.attrs.length<=8:=by
 unfold X7u at h;simp only [Yn,decide_eq_true_eq] at h
 omega
set_option maxRecDepth 20000 in
theorem Xgc (a:Option Addr) (cap:Nat) (l:List Us) (hln:l.length<=9223372036854775807) (hfit:∀ u∈l,u.fits) (B w:World) (I:Im) (hU:UsrsAt I a l) (As:List X7) (hS:Sat B w I As) :
  Cz 74 [.slice a l.length cap] w fun v w'=>∃ J,Le I J/\(((X59 l 0 []).1=0/\∃ tb,v=.tuple #[ptr tb 0,I64 0,I64 0]/\TabAt J tb l)\/((X59 l 0 []).1≠0/\v=.tuple #[.pointer none,I64 ((X59 l 0 []).1:Nat),I64 ((X59 l 0 []).2:Nat)]))/\Sat B w' J As:=by
 refine calls Tryz.func74 rfl Tryz.ntmps74 rfl (.seq (.q 3 rfl (.seq (.region (.mkMap S hS rfl ?_)))));clear hS; intro b10 w hS;refine .val (.build (cs:=[_]) (pc9 rfl X4) Xnt rfl) rfl (.boxA (cs:=[_]) hS (.of rfl) rfl ?_);clear hS; intro b12 w hS;refine .q 1 rfl (.nil (.seq (.seq (.region (.run 3 rfl ⟨⟨_,Xgs⟩,trivial⟩ (.nil (.block (.loop (σ:=Nat×Im×List (List UInt8×Value)) (fun ⟨i,J,kv⟩=>[(0,.slice a l.length cap),(5,ptr b12 0),(13,.slice a l.length cap),(14,I64 (l.length:Nat)),(15,I64 (i:Nat))]) (fun ⟨i,J,kv⟩ w=>i<=l.length/\Le I J/\KvOf J kv (l.take i)/\X59 (l.drop i) i (l.take i)=X59 l 0 []/\Sat B w J (blk b12 [.map (some b10)] 196::Xm7 S b10 kv::As)) (fun ⟨i,J,kv⟩=>l.length - i) (0,I,[]) ⟨rfl,rfl,rfl,rfl,rfl,trivial⟩ ⟨Yo _,Le.refl _,⟨rfl,fun i u h=>by simp at h⟩,rfl,hS⟩ ?_))))))));rintro ⟨i,J,kv⟩ w ⟨hi,hJ,hkv,hq,hS⟩;refine .seq (.q 1 rfl (.seq ?_));refine .cond rfl (fun hb16=>?_) fun hb16=>?_
 ·have hc16:=hb16; try simp only [Y6] at hc16
  refine .skip (.seq (.block (.seq ?_)));obtain ⟨u,hu⟩:∃ u,l[i]?=some u:=⟨_,Y4 (by omega)⟩
  obtain ⟨p,ra,rc,hap,hA0,hrc,hRR⟩:=hU i u hu;have hfu:=hfit u (Yl hu);subst hap;have hA:=hA0.mono hJ;have hR:=hRR.mono hJ;have hstep:X59 (l.drop i) i (l.take i)=if 16<=i then (5,i) else if X7u u=false then (1,i) else if (l.take i).any (fun t=>t.name == u.name) then (7,i) else X59 (l.drop (i+1)) (i+1) (l.take (i+1)):=by
   rw [Y13 (by omega),(Y5.1 hu).2,X59];simp only [Yz,hu,Y1e]
  rw [hq] at hstep;have hlook:=Xot u.name hkv;have hany:=Xrj (l.take i) u.name;refine .t 1 rfl (.val (.ii rfl rfl (by omega) (by omega) Xgs X62) rfl (.val (.ldR (vs:=X3t u ra rc) (.of rfl) (fun j v hj=>X4g hS hA hj) Xqz X62 rfl) rfl ?_));unfold X3t;refine .allocA (cs:=[_,_,_]) hS Xvn rfl ?_;clear hS; intro b7 w hS;refine .q 1 rfl (.so hS (k:=0) rfl rfl rfl rfl X62 rfl (by simp) ?_);clear hS; intro w hS;try simp only [Yk,Ye,Y9,Y7,Yh,Ym,Yc] at hS
  refine .nil (.seq ?_);obtain ⟨n9,p9,a9,k9,c9,hz9⟩:∃ n9 p9 a9 k9 c9,(kv.lookup u.name).getD (.agg [S [],S [],.slice none 0 0].toArray)=.agg [S n9,S p9,.slice a9 k9 c9].toArray:=by
   rcases hlook with ⟨_,e⟩ | ⟨t,cs,_,e,ta,tc,ht,_⟩
   ·rw [e]; exact ⟨_,_,_,_,_,rfl⟩
   ·rw [e,ht]; exact ⟨_,_,_,_,_,rfl⟩
  refine .dw (fun w=>∃ R,Sat B w J (blk b7 [S u.name,S u.pw,.slice ra u.attrs.length rc] 183::blk b12 [.map (some b10)] 196::Xm7 S b10 kv::R)) (fun j=>!([].contains j)) ?_;replace hS:=hS.drew; generalize w.drew=w at hS ⊢;have hH:=(hS.x [2,2,2])
  refine .tp 0 rfl (fun w=>(.mo rfl)) (.tp 1 rfl (fun w=>(.no rfl)) ?_);refine .tp 2 rfl (fun w=>(.fo 0 rfl Xvh rfl rfl Tryz.sizeOf194 rfl)) (.tk 3 rfl ⟨_,hH⟩ (fun w ⟨R,hS⟩=>((.lo rfl hS (k:=1) rfl Tryz.isAgg194 rfl))) (.tp 4 rfl (fun w=>(.fo 0 rfl X2t rfl rfl Qs9 rfl)) (.tk 5 rfl ⟨_,hH⟩ (fun w ⟨R,hS⟩=>((.lo rfl hS (k:=0) rfl Qg9 rfl))) ?_)));refine .tk 6 rfl ⟨_,hH⟩ (v:=.tuple #[.agg [S n9,S p9,.slice a9 k9 c9].toArray,.bool (kv.lookup u.name).isSome]) (fun w ⟨R,hS⟩=>by rw [<- hz9]; exact .look2 (key:=u.name) keyS (hS.mapNow (k:=2) rfl) (.of rfl) (.of rfl) Tryz.underlying194 Qu9 Xvn) ?_;refine .tp 7 rfl (fun w=>(.mo rfl)) (.tp 8 rfl (fun w=>(.extract (.of rfl) rfl)) (.tp 9 rfl (fun w=>(.extract (.of rfl) rfl)) ?_));refine .b1 10 rfl (.allocA (cs:=[_,_,_]) hS Xvn rfl ?_);clear hS; intro b8 w hS;refine .nil ?_;clear hH;have hH:=(hS.x [3,3,3])
  refine ⟨fun _ _=>⟨_,hH⟩,?_⟩;refine .b1 11 rfl (.so hS (k:=0) rfl rfl rfl rfl X62 rfl (by simp) ?_);clear hS; intro w hS;try simp only [Yk,Ye,Y9,Y7,Yh,Ym,Yc] at hS
  refine .nil ?_;clear hH;have hH:=(hS.x [3,3,3])
  refine ⟨fun _ _=>⟨_,hH⟩,?_⟩;refine .tp 12 rfl (fun w=>(.ao rfl)) (.dn (.seq (.block (.seq (.q 3 rfl ?_)))));refine .cond rfl (fun hb30=>?_) fun hb30=>?_
  ·have hc30:=hb30; try simp only [Y6] at hc30
   refine .seq (.q 4 rfl (.ret (Xap Qr74 rfl rfl rfl ?_)));have hE:X59 l 0 []=(5,i):=by rw [hstep]; exact if_pos (by omega)
   rw [hE];exact ⟨_,rfl,J,hJ,.inr ⟨show (5:Nat)≠0 by decide,rfl⟩,hS.y 0 4⟩
  have hc30:=hb30; try simp only [Y6] at hc30
  refine .seq (.region ?_);refine .val (.ldsW (cs:=[_,_,_]) (.of rfl) hS (k:=1) rfl Xqz X62 rfl) rfl (.call Tryz.func116 rfl (ec9 rfl X0) rfl (Xq4 u ra rc hfu.name hfu.attrs.1 hfu.attrs.2 B _ J hR _ hS) ?_);clear hS;rintro _ w ⟨rfl,hS⟩;refine .q 2 rfl (.nil ?_);refine .cond rfl (fun hb34=>?_) fun hb34=>?_
  ·have hc34:=hb34; try simp only [Y6] at hc34
   refine .seq (.q 4 rfl (.ret (Xap Qr74 rfl rfl rfl ?_)));have hE:X59 l 0 []=(1,i):=by rw [hstep]; rw [if_neg (by omega)]; exact if_pos (by simpa using hb34)
   rw [hE];exact ⟨_,rfl,J,hJ,.inr ⟨show (1:Nat)≠0 by decide,rfl⟩,hS.y 0 4⟩
  have hc34:=hb34; try simp only [Y6] at hc34
  refine .seq (.q 2 rfl ?_);refine .cond rfl (fun hb39=>?_) fun hb39=>?_
  ·have hc39:=hb39; try simp only [Y6] at hc39
   refine .seq (.q 4 rfl (.ret (Xap Qr74 rfl rfl rfl ?_)));have hE:X59 l 0 []=(7,i):=by rw [hstep]; rw [if_neg (by omega)]; rw [if_neg (show ¬ X7u u=false by simpa using hb34)]; exact if_pos (by rw [hany]; rcases hlook with ⟨_,e⟩ | ⟨t,cs,e,_⟩ <;> simp_all)
   rw [hE];exact ⟨_,rfl,J,hJ,.inr ⟨show (7:Nat)≠0 by decide,rfl⟩,hS.y 0 4⟩
  have hc39:=hb39; try simp only [Y6] at hc39
  refine .skip (.seq ?_);have hur:X7u u=true:=by simpa using hb34
  have hal:=Xba hur;refine .region (.val (.fo 2 rfl X2t rfl rfl X4u rfl) rfl (.val (.lo rfl hS (k:=1) rfl X6x rfl) rfl (.call Tryz.func117 rfl (ec9 rfl X0) rfl (Xk3 ra rc u.attrs (by omega) B _ J hR _ hS) ?_)));clear hS;rintro _ w ⟨J2,ra2,rc2,rfl,hJ2,hrc2,hR2,hS⟩;refine .val (.fo 2 rfl X2t rfl rfl X4u rfl) rfl (.s1 hS (k:=1) rfl rfl rfl rfl X4u (by simp) ?_);clear hS; intro w hS;refine .nil (.tail 7 (by kernel_rfl) (by kernel_rfl) ?_);replace hS:=hS.drew; generalize w.drew=w at hS ⊢;refine .vm rfl rfl (.val (.no rfl) rfl ?_);refine .val (by exact .fo 0 rfl Xvh rfl rfl Tryz.sizeOf194 rfl) rfl ?_;refine .val (by exact (.lo rfl hS (k:=2) rfl Tryz.isAgg194 rfl)) rfl ?_;refine .val (by exact .fo 0 rfl X2t rfl rfl Qs9 rfl) rfl ?_;refine .val (by exact (.lo rfl hS (k:=1) rfl Qg9 rfl)) rfl ?_;refine .val (by exact (.ldsW (cs:=[_,_,_]) (.of rfl) hS (k:=1) rfl Xqz X62 rfl)) rfl ?_;refine .nil ?_;show WL _ _ _ _ _ _ _
  have hno:kv.lookup u.name=none:=by
   cases h:kv.lookup u.name with
   | none=>rfl
   | some x=>rw [h] at hb39; cases hb39
  refine .mput keyS hS (k:=3) rfl (.of rfl) (.of rfl) (.of rfl) hno Tryz.underlying194 Qu9 ?_;clear hS; intro w hS;try dsimp only [List.set] at hS
  refine .nil (.region (.run 2 rfl ⟨⟨by omega,by omega⟩,trivial⟩ (.nil ?_)));refine ⟨(i+1,J2,kv ++ [(u.name,Value.agg #[S u.name,S u.pw,Value.slice ra2 u.attrs.length rc2])]),⟨rfl,rfl,rfl,rfl,rfl,trivial⟩,⟨by (try dsimp only); omega,hJ.trans hJ2,?_,?_,hS.y 0 2⟩,by (try dsimp only); omega⟩
  ·show KvOf J2 _ (l.take (i+1))
   rw [Yz,hu];exact (hkv.mono hJ2).snoc ⟨ra2,rc2,rfl,hrc2,hR2⟩
  ·show X59 (l.drop (i+1)) (i+1) (l.take (i+1))=_
   rw [hstep,if_neg (by omega),if_neg (by rw [hur]; decide),if_neg];rw [hany];rcases hlook with ⟨e,_⟩ | ⟨t,cs,e,e2,_⟩
   ·rw [e]; decide
   ·rw [hno] at e2; cases e2
 have hc16:=hb16; try simp only [Y6] at hc16
 refine .exit (.seq (.q 4 rfl (.ret (Xap Qr74 rfl rfl rfl ?_))));have e:i=l.length:=by omega
 subst e;have hE:X59 l 0 []=(0,0):=by rw [<- hq,Y2x]; rfl
 rw [Y15] at hkv;rw [hE];obtain ⟨J2,hJ2,hA2,hS⟩:=hS.freeze (k:=0) rfl;obtain ⟨J3,hJ3,hM3,hS⟩:=hS.freezeMap (k:=0) rfl;exact ⟨_,rfl,J3,(hJ.trans hJ2).trans hJ3,.inl ⟨rfl,b12,rfl,b10,kv,(Xnj hA2).mono hJ3,hM3,(hkv.mono hJ2).mono hJ3⟩,hS⟩
end Go.Proofs.YtbciobiiejpdgaaGreatDoor
namespace Go.Proofs.YtbciobiiejpdgaaGreatDoor
open Gk Pat
def CompT (I:Im) (l:List UInt8) (po:Option Addr) (e a:Int):Prop:=match cmp l with
 | .error (e',a')=>po=none/\e=e'/\a=a'
 | .ok Q=>∃ p,po=some p/\e=0/\a=0/\PatI I p Q l.length
theorem CompT.mono {I J:Im} {l:List UInt8} {po:Option Addr} {e a:Int} (h:CompT I l po e a) (hl:Le I J):CompT J l po e a:=by
 unfold CompT at h ⊢;cases hq:cmp l with
 | error x=>rw [hq] at h; exact h
 | ok Q=>rw [hq] at h; obtain ⟨p,h1,h2,h3,h4⟩:=h; exact ⟨p,h1,h2,h3,h4.mono hl⟩
theorem Xeb (l:List UInt8) (B w:World) (I:Im) (As:List X7) (hS:Sat B w I As) (hl:l.length<=9223372036854775807) :
  Cz 160 [S l] w fun v w'=>∃ po e a J,v=.tuple #[.pointer po,I64 e,I64 a]/\Le I J/\CompT J l po e a/\Sat B w' J As:=by
 refine (Xgh l B w I As hS hl).mono fun x w' ⟨v,hx,h⟩=>⟨v,hx,?_⟩
 rcases h with ⟨e,a,J,h1,h2,h3,h4⟩ | ⟨Q,p,J,h1,h2,h3,h4,h5⟩
 ·exact ⟨none,e,a,J,h2,h3,by rw [CompT,h1]; exact ⟨rfl,rfl,rfl⟩,h4⟩
 ·exact ⟨some p,0,0,J,h2,h3,by rw [CompT,h1]; exact ⟨p,rfl,rfl,rfl,h4⟩,h5⟩
theorem Xnz {l:List UInt8} {Q:List Pl} (h:cmp l=.ok Q):WF Q/\0<Q.length/\Q.length<=201/\l.length<=200:=by
 obtain ⟨hl,p,h1,h2,h3,rfl⟩:=Xo0 h;obtain ⟨hW,hE⟩:=Xam h1.ok;have h4:=X8y p;have h5:=h1.len;exact ⟨hW,hE.1,by unfold X1d at h4; omega,hl⟩
theorem Xmh {l:List UInt8} {Q:List Pl} (hq:cmp l=.ok Q) (p:Addr) (s:List UInt8) (hs:s.length<=1000000) (B w:World) (I:Im) (As:List X7) (hS:Sat B w I As) (hp:PatI I p Q l.length) :
  Cz 131 [.pointer (some p),S s] w fun v w'=>v=.bool (mat Q s)/\Sat B w' I As:=by
 have hf:=Xnz hq;refine calls Tryz.func131 rfl Tryz.ntmps131 rfl (.seq (.q 1 rfl (.seq (.t 2 rfl (.call Tryz.func177 rfl (ec9 rfl (ec9 rfl X0)) rfl (Xxb Q p l.length s hf.1 hf.2.1 (by omega) (by omega) hs B w I As hS hp) ?_)))));rintro _ w ⟨rfl,hS⟩;refine .q 5 rfl (.nil (.seq (.q 2 rfl (.ret (Xc Tryz.results131 rfl ?_)))));exact ⟨_,rfl,rfl,hS⟩
theorem Xoe {s:Sv} {Q:List Pl} (hq:cmp s.urls=.ok Q) (a:Option Addr) (c:Nat) (p q:Addr) (n:List UInt8) (hn:n.length<=1000000) (b:Nat) (B w:World) (I:Im) (hp:PatI I p Q s.urls.length) (As:List X7) (hS:Sat B w I (blk b [S n] 9::As)) :
  Cz 130 [.agg [I64 s.id,F64 s.ord,S s.urls,.bool s.login,.bool s.proxy,.bool s.back,S s.calls,.slice a s.rel.length c,.pointer (some p),.pointer (some q)].toArray,ptr b 0] w fun v w'=>v=.bool (mat Q n)/\Sat B w' I (blk b [S n] 9::As):=by
 refine calls Tryz.func130 rfl Tryz.ntmps130 rfl (.seq (.region (.boxA (cs:=[_,_,_,_,_,_,_,_,_,_]) hS (.of rfl) rfl ?_)));intro b2 w hS;refine .q 1 rfl (.nil (.seq (.region (.val (.fo 8 rfl Xr7 rfl rfl Tryz.sizeOf186 rfl) rfl (.val (.lo rfl hS (k:=0) rfl Tryz.isAgg186 rfl) rfl (.val (.lo rfl hS (k:=1) rfl Qg9 rfl) rfl (.call Tryz.func131 rfl (ec9 rfl (ec9 rfl X0)) rfl (Xmh hq p n hn B _ I _ hS hp) ?_)))))));rintro _ w ⟨rfl,hS⟩;refine .q 1 rfl (.nil (.ret (Xc Tryz.results130 rfl ?_)));exact ⟨_,rfl,rfl,hS.y 0 1⟩
theorem Xov (s t:Sv) (a ta:Option Addr) (c tc:Nat) (p q:Addr) (b:Nat) (B w:World) (I:Im) (As:List X7) (hS:Sat B w I (blk b [I64 t.id,F64 t.ord,S t.urls,.bool t.login,.bool t.proxy,.bool t.back,S t.calls,.slice ta t.rel.length tc] 105::As)) :
  Cz 159 [.agg [I64 s.id,F64 s.ord,S s.urls,.bool s.login,.bool s.proxy,.bool s.back,S s.calls,.slice a s.rel.length c,.pointer (some p),.pointer (some q)].toArray,ptr b 0] w fun v w'=>v=.bool (s.id == t.id)/\Sat B w' I (blk b [I64 t.id,F64 t.ord,S t.urls,.bool t.login,.bool t.proxy,.bool t.back,S t.calls,.slice ta t.rel.length tc] 105::As):=by
 refine calls Tryz.func159 rfl Tryz.ntmps159 rfl (.seq (.region (.boxA (cs:=[_,_,_,_,_,_,_,_,_,_]) hS (.of rfl) rfl ?_)));intro b2 w hS;refine .q 1 rfl (.nil (.seq (.region (.val (.fo 0 rfl Xr7 rfl rfl X10 rfl) rfl (.val (.fo 0 rfl X2d rfl rfl Qs3 rfl) rfl (.val (.lo rfl hS (k:=0) rfl Qg3 rfl) rfl (.val (.fo 0 rfl X2d rfl rfl Qs3 rfl) rfl (.val (.lo rfl hS (k:=1) rfl Qg3 rfl) rfl (.q 2 rfl (.nil (.ret (Xc Tryz.results159 rfl ?_))))))))))));exact ⟨_,rfl,rfl,hS.y 0 1⟩
theorem X3y:Bld Tryz.prog 188 [(0,8),(8,1),(9,1)] [.int .i64 0,.float .f64 0,S [],.bool false,.bool false,.bool false,S [],.slice none 0 0,.pointer none,.pointer none]:=X23 Xr7 Xkh (fun w=>by simp [go_sem])
def Xrm (lo:List Sv) (s:Sv):Nat :=
 if 16<=lo.length then 5 else if (decide (s.id<0) || decide (8<(s.rel.length:Int)))=true then 1 else if lo.any (fun t=>t.id == s.id)=true then 7
 else if (((chk s.urls).1 != 0) || ((chk s.calls).1 != 0))=true then 8 else 0
theorem Xc8 (pr:Sv->Bool):∀ (l:List Sv) (i:Nat),decide (0<=X2u pr l i)=l.any pr
 | [],_=>rfl
 | s::r,i=>by
  rw [X2u,Y5w];cases pr s with
  | true=>simp
  | false=>simpa using Xc8 pr r (i+1)
theorem X5r {I:Im} {l:List UInt8} {po:Option Addr} {e a:Int} (h:CompT I l po e a):(e != 0)=((chk l).1 != 0)/\((chk l).1=0->∃ p Q,po=some p/\cmp l=.ok Q/\PatI I p Q l.length):=by
 have key:∀ e',cmp l=.error e'->(chk l).1=e'.1/\e'.1≠0:=fun e' hc=>by
  unfold cmp at hc;unfold chk;split at hc
  ·rename_i hl; rw [if_pos hl]; cases hc; exact ⟨rfl,by decide⟩
  ·rename_i hl
   rw [if_neg hl]
   have:=(X1j l.length l 0 [] [] [] (Yq _) rfl).1 e' hc
   rw [this.1]; exact ⟨rfl,this.2⟩
 have key2:∀ Q,cmp l=.ok Q->(chk l).1=0:=fun Q hc=>by
  unfold cmp at hc;unfold chk;split at hc
  ·cases hc
  ·rename_i hl
   rw [if_neg hl,(X1j l.length l 0 [] [] [] (Yq _) rfl).2 Q hc]
 unfold CompT at h;cases hc:cmp l with
 | ok Q =>
  rw [hc] at h;obtain ⟨p,rfl,rfl,rfl,hp⟩:=h;rw [key2 Q hc];exact ⟨rfl,fun _=>⟨p,Q,rfl,rfl,hp⟩⟩
 | error x =>
  obtain ⟨e',a'⟩:=x;rw [hc] at h;obtain ⟨rfl,rfl,rfl⟩:=h;obtain ⟨h1,h2⟩:=key _ hc;rw [h1];exact ⟨rfl,fun h3=>absurd h3 h2⟩
theorem Xsx (s:Sv) (sa:Option Addr) (sc:Nat) (hsc:s.rel.length<=sc) (hrl:s.rel.length<=1000000) (hu:s.urls.length<=9223372036854775807) (hcl:s.calls.length<=9223372036854775807) (a:Option Addr) (cap:Nat) (lo:List Sv) (hlo:lo.length<=100000) (B w:World) (I:Im) (hr:RS I sa 1 s.rel.length (s.rel.map S)) (As:List X7) (hE:∀ w,Sat B w I As->Xgj w I a lo) (hS:Sat B w I As) :
  Cz 114 [.agg [I64 s.id,F64 s.ord,S s.urls,.bool s.login,.bool s.proxy,.bool s.back,S s.calls,.slice sa s.rel.length sc].toArray,.slice a lo.length cap] w fun v w'=>∃ J cs code,Le I J/\v=.tuple #[.agg (List.toArray cs),I64 ((code:Nat):Int)]/\code=Xrm lo s/\cs.length=10/\cs.all Value.oneCell'=true/\(code=0->EntAt J s cs)/\Sat B w' J As:=by
 refine calls Tryz.func114 rfl Tryz.ntmps114 rfl (.seq (.region (.boxA (cs:=[_,_,_,_,_,_,_,_]) hS (.of rfl) rfl ?_)));intro b2 w hS;refine .allocA (cs:=[_,_,_,_,_,_,_,_,_,_]) hS Xkh rfl ?_;intro b4 w hS;refine .q 1 rfl (.nil (.seq (.block (.seq (.region (.run 4 rfl ⟨⟨_,X9a⟩,trivial⟩ (.nil ?_)))))));refine .cond rfl (fun hb12=>?_) fun hb12=>?_
 ·refine .seq (.region (.val (.build (cs:=[_,_,_,_,_,_,_,_,_,_]) X4 X3y rfl) rfl (.so hS (k:=0) rfl rfl rfl rfl X3v rfl (by simp) ?_)));intro w hS;try simp only [Yk,Ye,Y9,Y7,Yh,Ym,Yc] at hS
  refine .q 1 rfl (.nil (.ret (X1k (b:=_) (cs:=[_,_,_,_,_,_,_,_,_,_]) Xmu hS (k:=0) rfl Xel X3v rfl rfl rfl ?_)));refine ⟨_,rfl,I,_,5,Le.refl _,rfl,?_,rfl,rfl,fun h=>(by cases h),(hS.y 0 2)⟩;unfold Xrm;rw [if_pos (by simp only [decide_eq_true_eq] at hb12; omega)]
 refine .seq (.region (.val (.fo 0 rfl X2d rfl rfl Qs3 rfl) rfl (.val (.lo rfl hS (k:=1) rfl Qg3 rfl) rfl (.q 2 rfl (.gval rfl rfl (fun hg1=>(.fo 7 rfl X2d rfl rfl Xkf rfl)) rfl (.gval rfl rfl (fun hg1=>(.ld (.gd hg1 rfl) hS (k:=1) rfl Xm6 rfl)) rfl (.gval rfl rfl (fun hg1=>(.lenSlice (.gd hg1 rfl) X1u)) rfl (.gval rfl rfl (fun hg1=>(.gtr (.gd hg1 rfl) (.of rfl))) rfl (.val (.po rfl rfl rfl) rfl (.q 1 rfl (.nil ?_)))))))))));refine .cond rfl (fun hb17=>?_) fun hb17=>?_
 ·refine .seq (.region (.val (.build (cs:=[_,_,_,_,_,_,_,_,_,_]) X4 X3y rfl) rfl (.so hS (k:=0) rfl rfl rfl rfl X3v rfl (by simp) ?_)));intro w hS;try simp only [Yk,Ye,Y9,Y7,Yh,Ym,Yc] at hS
  refine .q 1 rfl (.nil (.ret (X1k (b:=_) (cs:=[_,_,_,_,_,_,_,_,_,_]) Xmu hS (k:=0) rfl Xel X3v rfl rfl rfl ?_)));refine ⟨_,rfl,I,_,1,Le.refl _,rfl,?_,rfl,rfl,fun h=>(by cases h),(hS.y 0 2)⟩;unfold Xrm;rw [if_neg (by simp only [decide_eq_false_iff_not] at hb12; omega),if_pos hb17]
 refine .seq ?_;replace hS:=hS.pick 1 rfl;refine .t 1 rfl (.val (.makeFunc (ec9 rfl X0)) rfl ?_);refine .call Tryz.func158 rfl (ec9 rfl (ec9 rfl X0)) rfl (X99 a cap lo hlo (fun t=>t.id == s.id) 159 _ Tryz.func159 rfl [ptr b2 0] B _ I (blk b2 [I64 s.id,F64 s.ord,S s.urls,.bool s.login,.bool s.proxy,.bool s.back,S s.calls,.slice sa s.rel.length sc] 105::blk b4 [I64 0,F64 0,S [],.bool false,.bool false,.bool false,S [],.slice none 0 0,.pointer none,.pointer none] 188::As) (fun w h=>hE w ((h.drop (k:=0) rfl).drop (k:=0) rfl)) (fun t c ht w h=>by
  obtain ⟨ta,tc,tp,tq,_,_,rfl,_⟩:=ht;exact Xov t s ta sa tc sc tp tq b2 B w I _ h) hS) ?_
 rintro _ w ⟨rfl,hS⟩;rw [Xc8];refine .q 1 rfl (.nil ?_);refine .cond rfl (fun hb28=>?_) fun hb28=>?_
 ·refine .seq (.region (.val (.build (cs:=[_,_,_,_,_,_,_,_,_,_]) X4 X3y rfl) rfl (.so hS (k:=1) rfl rfl rfl rfl X3v rfl (by simp) ?_)));intro w hS;try simp only [Yk,Ye,Y9,Y7,Yh,Ym,Yc] at hS
  refine .q 1 rfl (.nil (.ret (X1k (b:=_) (cs:=[_,_,_,_,_,_,_,_,_,_]) Xmu hS (k:=1) rfl Xel X3v rfl rfl rfl ?_)));refine ⟨_,rfl,I,_,7,Le.refl _,rfl,?_,rfl,rfl,fun h=>(by cases h),(hS.y 0 2)⟩;unfold Xrm;rw [if_neg (by simp only [decide_eq_false_iff_not] at hb12; omega),if_neg (by rw [hb17]; decide),if_pos hb28]
 refine .skip (.seq (.region (.val (.fo 2 rfl X2d rfl rfl Qs9 rfl) rfl (.val (.lo rfl hS (k:=0) rfl Qg9 rfl) rfl (.call Tryz.func160 rfl (ec9 rfl X0) rfl (Xeb s.urls B _ I _ hS hu) ?_)))));rintro _ w ⟨po,e1,a1,J1,rfl,hJ1,hc1,hS⟩;refine .q 7 rfl (.nil (.seq (.region (.val (.fo 6 rfl X2d rfl rfl Qs9 rfl) rfl (.val (.lo rfl hS (k:=0) rfl Qg9 rfl) rfl (.call Tryz.func160 rfl (ec9 rfl X0) rfl (Xeb s.calls B _ J1 _ hS hcl) ?_))))));rintro _ w ⟨qo,e2,a2,J2,rfl,hJ2,hc2,hS⟩;refine .q 7 rfl (.nil (.seq (.seq (.t 3 rfl (.gm rfl rfl rfl rfl (.gval rfl rfl (fun hg1=>(.neq (.gd hg1 rfl) (.of rfl))) rfl (.val (.po rfl rfl rfl) rfl (.nil ?_))))))));refine .cond rfl (fun hb52=>?_) fun hb52=>?_
 ·refine .seq (.region (.val (.build (cs:=[_,_,_,_,_,_,_,_,_,_]) X4 X3y rfl) rfl (.so hS (k:=1) rfl rfl rfl rfl X3v rfl (by simp) ?_)));intro w hS;try simp only [Yk,Ye,Y9,Y7,Yh,Ym,Yc] at hS
  refine .q 1 rfl (.nil (.ret (X1k (b:=_) (cs:=[_,_,_,_,_,_,_,_,_,_]) Xmu hS (k:=1) rfl Xel X3v rfl rfl rfl ?_)));refine ⟨_,rfl,J2,_,8,Le.trans hJ1 hJ2,rfl,?_,rfl,rfl,fun h=>(by cases h),(hS.y 0 2)⟩;have hk:=hb52;rw [(X5r hc1).1,(X5r hc2).1] at hk;unfold Xrm;rw [if_neg (by simp only [decide_eq_false_iff_not] at hb12; omega),if_neg (by rw [hb17]; decide),if_neg (by rw [hb28]; decide),if_pos hk]
 refine .skip (.seq (.region (.val (.fo 7 rfl X2d rfl rfl Xkf rfl) rfl (.val (.lo rfl hS (k:=0) rfl Xm6 rfl) rfl (.call Tryz.func161 rfl (ec9 rfl X0) rfl (Xea sa sc s.rel hrl B _ J2 ((hr.mono hJ1).mono hJ2) _ hS) ?_)))));rintro _ w ⟨J3,ra,rc,rfl,hJ3,hrc,hrr,hS⟩;refine .val (.fo 7 rfl X2d rfl rfl Xkf rfl) rfl (.s1 hS (k:=0) rfl rfl rfl rfl Xkf (by simp) ?_);intro w hS;refine .nil (.seq (.region (.val (.ldsW (cs:=[_,_,_,_,_,_,_,_]) (.of rfl) hS (k:=0) rfl X61 X10 rfl) rfl (.q 2 rfl (.val (.build (cs:=[_,_,_,_,_,_,_,_,_,_]) (pc9 rfl (pc9 rfl (pc9 rfl X4))) X3y rfl) rfl (.so hS (k:=1) rfl rfl rfl rfl X3v rfl (by simp) ?_))))));intro w hS;try simp only [Yk,Ye,Y9,Y7,Yh,Ym,Yc] at hS
 refine .q 1 rfl (.nil (.ret (X1k (b:=_) (cs:=[_,_,_,_,_,_,_,_,_,_]) Xmu hS (k:=1) rfl Xel X3v rfl rfl rfl ?_)));have hk:=hb52;rw [(X5r hc1).1,(X5r hc2).1] at hk;obtain ⟨k1,k2⟩:=Y10.1 hk;simp only [bne_eq_false_iff_eq] at k1 k2
 obtain ⟨p,Q,rfl,hq,hp⟩:=(X5r hc1).2 k1;obtain ⟨q,T,rfl,hq2,hp2⟩:=(X5r hc2).2 k2;refine ⟨_,rfl,J3,X1p s ra rc p q,0,Le.trans hJ1 (Le.trans hJ2 hJ3),rfl,?_,rfl,rfl,fun _=>⟨ra,rc,p,q,Q,T,rfl,hrc,hrr,hq,hp.mono (Le.trans hJ2 hJ3),hq2,hp2.mono hJ3⟩,(hS.y 0 2)⟩;unfold Xrm;rw [if_neg (by simp only [decide_eq_false_iff_not] at hb12; omega),if_neg (by rw [hb17]; decide),if_neg (by rw [hb28]; decide),if_neg (by rw [hk]; decide)]
def RegAt (I:Im) (pr:Addr) (lo:List Sv):Prop:=∃ a c E,At I pr [.slice a lo.length c]/\lo.length<=c/\EntsIn I a E lo
theorem EntsIn.mono {I J:Im} {a:Option Addr} {E:List (List Value)} {l:List Sv} (h:EntsIn I a E l) (hl:Le I J):EntsIn J a E l:=⟨h.1,fun i s hs=>by
 obtain ⟨p,c,e,h0,h1,ra,rc,pp,qq,Q,T,e2,h2,h3,h4,h5,h6,h7⟩:=h.2 i s hs;exact ⟨p,c,e,h0,h1.mono hl,ra,rc,pp,qq,Q,T,e2,h2,h3.mono hl,h4,h5.mono hl,h6,h7.mono hl⟩⟩
def RowsOf (J:Im) (C:List (List Value)) (l:List Sv):Prop:=C.length=l.length/\∀ (i:Nat) (s:Sv),l[i]?=some s->∃ c,C[i]?=some c/\SvAt J s c
theorem RowsOf.mono {J K:Im} {C:List (List Value)} {l:List Sv} (h:RowsOf J C l) (hl:Le J K):RowsOf K C l:=⟨h.1,fun i s hs=>by
 obtain ⟨c,h1,h2⟩:=h.2 i s hs;exact ⟨c,h1,h2.mono hl⟩⟩
theorem RowsOf.snoc {J:Im} {C:List (List Value)} {l:List Sv} {s:Sv} {c:List Value} (h:RowsOf J C l) (hs:SvAt J s c):RowsOf J (C ++ [c]) (l ++ [s]):=⟨by simp [h.1],fun i t ht=>by
 rcases Yp i l.length with hi | hi
 ·rw [Yi hi] at ht;obtain ⟨d,h1,h2⟩:=h.2 i t ht;exact ⟨d,by rw [Yi (by rw [h.1]; exact hi)]; exact h1,h2⟩
 ·rw [Yt hi] at ht;have hi0:i - l.length=0:=by have:=(Y5.1 ht).1; simp at this; omega
  rw [hi0] at ht;cases ht
  exact ⟨c,by rw [Yt (by rw [h.1]; exact hi),h.1,hi0]; rfl,hs⟩⟩
theorem X5t:Tryz.prog.info? 188=some Tryz.t188:=by kernel_rfl
theorem Xns:Bld Tryz.prog 192 [(0,1)] [.slice none 0 0]:=X23 Xmz Tryz.zeroValue192 (fun w=>by simp [go_sem])
theorem bad_le {l:List Sv} {i:Nat} (h:∀ (j:Nat) t,j<i->l[j]?=some t->bad l j t=0) (hi:i<=l.length):i<=16:=by
 rcases Yp 16 i with h1 | h1
 ·have:=h 16 _ h1 (Y4 (by omega))
  unfold bad at this;rw [if_pos rfl] at this;cases this
 ·exact h1
theorem Xit {l:List Sv} {i:Nat} {s:Sv} (hi:i<=16) (hl:i<=l.length):Xrm (l.take i) s=bad l i s:=by
 unfold Xrm bad;rw [Yr,Y2h hl]
 by_cases h:i=16
 ·rw [if_pos (by omega),if_pos h]
 ·rw [if_neg (by omega),if_neg h]
theorem made_n (s:Sv) (sa:Option Addr) (sc:Nat) (hsc:s.rel.length<=sc) (hrl:s.rel.length<=1000000) (hu:s.urls.length<=9223372036854775807) (hcl:s.calls.length<=9223372036854775807) (a:Option Addr) (cap:Nat) (lo:List Sv) (n:Nat) (hn:lo.length=n) (hlo:n<=100000) (B w:World) (I:Im) (hr:RS I sa 1 s.rel.length (s.rel.map S)) (As:List X7) (hE:∀ w,Sat B w I As->Xgj w I a lo) (hS:Sat B w I As) :
  Cz 114 [.agg [I64 s.id,F64 s.ord,S s.urls,.bool s.login,.bool s.proxy,.bool s.back,S s.calls,.slice sa s.rel.length sc].toArray,.slice a n cap] w fun v w'=>∃ J cs code,Le I J/\v=.tuple #[.agg (List.toArray cs),I64 ((code:Nat):Int)]/\code=Xrm lo s/\cs.length=10/\cs.all Value.oneCell'=true/\(code=0->EntAt J s cs)/\Sat B w' J As:=by
 subst hn;exact Xsx s sa sc hsc hrl hu hcl a cap lo hlo B w I hr As hE hS
theorem ents_n {B w:World} {I:Im} {As:List X7} {k T cap n:Nat} {a:Option Addr} {E:List (List Value)} {l:List Sv} (hS:Sat B w I As) (hn:l.length=n) (hk:As[k]?=some (Vec T 10 (.slice a n cap) n E.flatten)) (h10:∀ c∈E,c.length=10)
  (hE:∀ (i:Nat) (s:Sv),l[i]?=some s->∃ c,E[i]?=some c/\EntAt I s c):Xgj w I a l:=by
 subst hn;exact Xs7 hS hk h10 hE
theorem EntAt.mono {I J:Im} {s:Sv} {l:List Value} (h:EntAt I s l) (hl:Le I J):EntAt J s l:=by
 obtain ⟨ra,rc,pp,qq,Q,T,e2,h2,h3,h4,h5,h6,h7⟩:=h;exact ⟨ra,rc,pp,qq,Q,T,e2,h2,h3.mono hl,h4,h5.mono hl,h6,h7.mono hl⟩
theorem EntAt.len {I:Im} {s:Sv} {l:List Value} (h:EntAt I s l):l.length=10:=by
 obtain ⟨ra,rc,pp,qq,Q,T,rfl,_⟩:=h;rfl
def X4w (l:List Sv) (D:List Int):List Sv:=D.map fun d=>l.getD d.toNat z0
theorem Xux (a:Option Addr) (cap:Nat) (l:List Sv) (hln:l.length<=100000) (hom:∀ v∈ords l,v<18446744073709551616) (hfit:∀ s∈l,s.urls.length<=9223372036854775807/\s.calls.length<=9223372036854775807/\s.rel.length<=1000000) (B w:World) (I:Im) (hl:SvsAt I a l) (As:List X7) (hS:Sat B w I As) :
  Cz 73 [.slice a l.length cap] w fun v w'=>∃ J,Le I J/\Sat B w' J As/\(((X4a l).1≠0/\v=.tuple #[.pointer none,I64 ((X4a l).1:Nat),I64 ((X4a l).2:Nat)])\/((X4a l).1=0/\∃ pr D,v=.tuple #[.pointer (some pr),I64 0,I64 0]/\Srt.Ord (kx (ords l)) l.length D/\RegAt J pr (X4w l D))):=by
 refine calls Tryz.func73 rfl Tryz.ntmps73 rfl (.seq (.q 3 rfl (.seq (.q 1 rfl (.seq (.q 1 rfl (.seq (.seq (.region (.run 3 rfl ⟨⟨_,X9b⟩,trivial⟩ (.nil (.block ?_))))))))))));replace hS:=hS.vecNil 27 1;replace hS:=hS.vecNil 188 10;refine .loop (σ:=Nat×Im×Value×Value×List (List Value)) (fun ⟨i,J,ev,ov,E⟩=>[(5,ev),(6,ov),(14,.slice a l.length cap),(15,I64 (l.length:Nat)),(16,I64 (i:Nat))]) (fun ⟨i,J,ev,ov,E⟩ w=>i<=l.length/\Le I J/\E.length=i/\(∀ c∈E,c.length=10)/\(∀ (j:Nat) (s:Sv),(l.take i)[j]?=some s->∃ c,E[j]?=some c/\EntAt J s c)/\(∀ (j:Nat) (t:Sv),j<i->l[j]?=some t->bad l j t=0)/\Sat B w J (Vec 188 10 ev i E.flatten::Vec 27 1 ov i (((ords l).take i).map F64)::As)) (fun ⟨i,J,ev,ov,E⟩=>l.length - i) (0,I,.slice none 0 0,.slice none 0 0,[]) ⟨rfl,rfl,rfl,rfl,rfl,trivial⟩ ⟨Yo _,Le.refl _,rfl,fun _ h=>(by simp at h),fun _ _ h=>(by simp at h),fun _ _ h=>absurd h (by omega),hS⟩ ?_;rintro ⟨i,J,ev,ov,E⟩ w ⟨hi,hJ,hEl,h10,hEE,hok,hS⟩;refine .seq (.q 1 rfl (.seq ?_));refine .cond rfl (fun hb17=>?_) fun hb17=>?_
 ·have hc17:=hb17; simp only [Y6] at hc17;refine .skip (.seq (.block (.seq ?_)));obtain ⟨s,hs⟩:∃ s,l[i]?=some s:=⟨_,Y4 (by omega)⟩
  obtain ⟨p,ra,rc,rfl,hx,hrc,hr⟩:=(hl.mono hJ) i s hs;unfold X1o at hx;have hi16:=bad_le hok hi;have hsm:=hfit s (Yl hs);have hln:(l.take i).length=i:=by rw [Yr]; omega
  have hnx:((ords l).take (i+1)).map F64=((ords l).take i).map F64 ++ [F64 s.ord]:=by
   rw [Yz,ords,Yu,hs,Yw]; rfl
  have htn:l.take (i+1)=l.take i ++ [s]:=by rw [Yz,hs]; rfl
  obtain ⟨ea,ec,rfl,hec,_⟩:=hS.vecSlice (k:=0) rfl;obtain ⟨oa,oc,rfl,hoc,_⟩:=hS.vecSlice (k:=1) rfl;refine .t 1 rfl (.val (.ii rfl rfl (by omega) (by omega) X9b X10) rfl (.val (.ldsI (.of rfl) hS hx X61 X10 rfl (fun _ _ h=>h)) rfl (.allocA (cs:=[_,_,_,_,_,_,_,_]) hS Xbq rfl ?_)));clear hS; intro b8 w hS;refine .q 1 rfl (.so hS (k:=0) rfl rfl rfl rfl X10 rfl (by simp) ?_);clear hS; intro w hS;try simp only [Yk,Ye,Y9,Y7,Yh,Ym,Yc] at hS
  refine .nil (.seq (.region (.val (.ldsW (cs:=[_,_,_,_,_,_,_,_]) (.of rfl) hS (k:=0) rfl X61 X10 rfl) rfl (.q 1 rfl (.call Tryz.func114 rfl (ec9 rfl (ec9 rfl X0)) rfl (made_n s ra rc hrc hsm.2.2 hsm.1 hsm.2.1 ea ec (l.take i) i hln (by omega) B _ J hr _ (fun w h=>ents_n h hln (k:=1) rfl h10 hEE) hS) ?_)))));clear hS;rintro _ w ⟨J2,cs,code,hJ2,rfl,hcode,hcs10,hall,hent,hS⟩;refine .q 3 rfl (.allocA (cs:=[_,_,_,_,_,_,_,_,_,_]) hS Xkh rfl ?_);clear hS; intro b9 w hS;refine .so hS (k:=0) rfl rfl rfl hall X3v hcs10 (by simp) ?_;clear hS; intro w hS;try simp only [Yk,Ye,Y9,Y7,Yh,Ym,Yc] at hS
  refine .q 1 rfl (.nil (.seq (.seq (.q 2 rfl ?_))));refine .cond rfl (fun hb28=>?_) fun hb28=>?_
  ·have hc28:=hb28; simp only [Y6] at hc28;refine .seq (.q 5 rfl (.ret (Xap Tryz.results73 rfl rfl rfl ?_)));have hb2:=Xit (l:=l) (i:=i) (s:=s) hi16 (by omega);have hbn:bad l i s≠0:=by rw [<- hb2,<- hcode]; omega
   have hw:=X5m hok hs hbn;refine ⟨_,rfl,J2,Le.trans hJ hJ2,hS.y 0 4,.inl ⟨by rw [hw]; exact hbn,?_⟩⟩;rw [hw,hcode,hb2];rfl
  have hc28:=hb28; simp only [Y6] at hc28;refine .skip ?_;have hcode0:code=0:=by omega
  obtain ⟨sa,sc,pp,qq,Q,T,rfl,hsc,hent⟩:=hent hcode0;have hent2:EntAt J2 s (X1p s sa sc pp qq):=⟨sa,sc,pp,qq,Q,T,rfl,hsc,hent⟩
  have hbad0:bad l i s=0:=by rw [<- Xit (l:=l) (i:=i) hi16 (by omega),<- hcode,hcode0]
  unfold X1p at hS;refine .dw (fun w=>∃ R,Sat B w J2 (blk b9 [I64 s.id,F64 s.ord,S s.urls,.bool s.login,.bool s.proxy,.bool s.back,S s.calls,.slice sa s.rel.length sc,.pointer (some pp),.pointer (some qq)] 188::blk b8 [I64 s.id,F64 s.ord,S s.urls,.bool s.login,.bool s.proxy,.bool s.back,S s.calls,.slice ra s.rel.length rc] 105::R)) (fun j=>!([].contains j)) ?_;replace hS:=hS.drew; generalize w.drew=w at hS ⊢;have hH:=(hS.x [1,1])
  refine .tp 0 rfl (fun w=>(.mo rfl)) (.tk 1 rfl ⟨_,hH⟩ (fun w ⟨R,hS⟩=>(.ldsW (cs:=[_,_,_,_,_,_,_,_,_,_]) (.of rfl) hS (k:=0) rfl Xel X3v rfl)) (.tp 4 rfl (fun w=>(.mo rfl)) (.tp 5 rfl (fun w=>(.fo 1 rfl X2d rfl rfl Xgf rfl)) (.tk 6 rfl ⟨_,hH⟩ (fun w ⟨R,hS⟩=>(.lo rfl hS (k:=1) rfl Xm5 rfl)) ?_))));refine .branch [2,7] (by kernel_rfl) rfl (WO.cons rfl ?_ (WO.cons rfl ?_ (WO.nil)))
  ·refine .buildSlice (cs:=[_,_,_,_,_,_,_,_,_,_]) hS (pc9 rfl X4) X9a X3v Xkh rfl rfl rfl rfl ?_;clear hS; intro b33 w hS;refine .nil ?_;clear hH;have hH:=(hS.x [2,2])
   refine ⟨fun _ _=>⟨_,hH⟩,?_⟩;refine .branch [3,7] (by kernel_rfl) rfl (WO.cons rfl ?_ (WO.cons rfl ?_ (WO.nil)))
   ·refine .append (size:=10) (bytes:=96) hS (.of rfl) (.of rfl) (k:=2) rfl X9a X5t rfl rfl rfl rfl rfl rfl rfl ⟨by omega,by unfold maxLen; omega⟩ rfl ?_;clear hS; intro v34 w hS;obtain ⟨a34,c34,rfl,hcap34,_⟩:=hS.vecSlice (k:=2) (v:=v34) rfl;refine .nil ?_;clear hH;have hH:=(hS.x [1,1])
    refine ⟨fun _ _=>⟨_,hH⟩,?_⟩;refine .b1 7 rfl (.buildSlice (cs:=[_]) hS (pc9 rfl X4) X63 Xgf Qz27 rfl rfl rfl rfl ?_);clear hS; intro b38 w hS;refine .nil ?_;clear hH;have hH:=(hS.x [2,2])
    refine ⟨fun _ _=>⟨_,hH⟩,?_⟩;refine .b1 8 rfl (.append (size:=1) (bytes:=8) hS (.of rfl) (.of rfl) (k:=3) rfl X63 X7b rfl rfl rfl rfl rfl rfl rfl ⟨by omega,by unfold maxLen; omega⟩ rfl ?_);clear hS; intro v39 w hS;obtain ⟨a39,c39,rfl,hcap39,_⟩:=hS.vecSlice (k:=3) (v:=v39) rfl;refine .nil ?_;clear hH;have hH:=(hS.x [1,1])
    refine ⟨fun _ _=>⟨_,hH⟩,?_⟩;refine .tp 9 rfl (fun w=>(.ao rfl)) (.tp 10 rfl (fun w=>(.ao rfl)) (.dn (.region (.run 2 rfl ⟨⟨by omega,by omega⟩,trivial⟩ (.nil ?_)))));have hfin:=((hS.drop (k:=0) rfl).drop (k:=0) rfl)
    refine ⟨(i+1,J2,.slice a34 (i+1) c34,.slice a39 (i+1) c39,E ++ [X1p s sa sc pp qq]),⟨rfl,rfl,rfl,rfl,rfl,trivial⟩,⟨by (try dsimp only); omega,Le.trans hJ hJ2,by (try dsimp only); rw [Y0,hEl]; rfl,fun c hc=>?_,fun j u hu=>?_,fun j u hj hu=>?_,?_⟩,by (try dsimp only); omega⟩
    ·rcases Y12.1 hc with h | h
     ·exact h10 c h
     ·simp at h; subst h; rfl
    ·(try dsimp only at hu)
     rw [htn] at hu;rcases Yp j i with h1 | h1
     ·rw [Yi (by omega)] at hu;obtain ⟨c,e1,e2⟩:=hEE j u hu;exact ⟨c,by rw [Yi (by omega)]; exact e1,e2.mono hJ2⟩
     ·rw [Yt (by omega),hln] at hu;have hj0:j - i=0:=by have:=(Y5.1 hu).1; simp at this; omega
      rw [hj0] at hu;cases hu
      exact ⟨_,by rw [Yt (by omega),hEl,hj0]; rfl,hent2⟩
    ·rcases Yp j i with h1 | h1
     ·exact hok j u h1 hu
     ·have e:j=i:=by (try dsimp only at hj); omega
      subst e;rw [hs] at hu; cases hu;exact hbad0
    ·(try dsimp only)
     rw [hnx,Y29];simpa [X1p] using hfin
   ·refine .buildSlice (cs:=[_]) hS (pc9 rfl X4) X63 Xgf Qz27 rfl rfl rfl rfl ?_;clear hS; intro b38 w hS;refine .nil ?_;clear hH;have hH:=(hS.x [3,3])
    refine ⟨fun _ _=>⟨_,hH⟩,?_⟩;refine .b1 3 rfl ?_;replace hS:=hS.pick 1 rfl;refine .append (size:=10) (bytes:=96) hS (.of rfl) (.of rfl) (k:=3) rfl X9a X5t rfl rfl rfl rfl rfl rfl rfl ⟨by omega,by unfold maxLen; omega⟩ rfl ?_;clear hS; intro v34 w hS;obtain ⟨a34,c34,rfl,hcap34,_⟩:=hS.vecSlice (k:=3) (v:=v34) rfl;refine .nil ?_;clear hH;have hH:=(hS.x [2,2])
    refine ⟨fun _ _=>⟨_,hH⟩,?_⟩;refine .b1 8 rfl (.append (size:=1) (bytes:=8) hS (.of rfl) (.of rfl) (k:=3) rfl X63 X7b rfl rfl rfl rfl rfl rfl rfl ⟨by omega,by unfold maxLen; omega⟩ rfl ?_);clear hS; intro v39 w hS;obtain ⟨a39,c39,rfl,hcap39,_⟩:=hS.vecSlice (k:=3) (v:=v39) rfl;refine .nil ?_;clear hH;have hH:=(hS.x [1,1])
    refine ⟨fun _ _=>⟨_,hH⟩,?_⟩;refine .tp 9 rfl (fun w=>(.ao rfl)) (.tp 10 rfl (fun w=>(.ao rfl)) (.dn (.region (.run 2 rfl ⟨⟨by omega,by omega⟩,trivial⟩ (.nil ?_)))));have hfin:=((hS.drop (k:=0) rfl).drop (k:=0) rfl)
    refine ⟨(i+1,J2,.slice a34 (i+1) c34,.slice a39 (i+1) c39,E ++ [X1p s sa sc pp qq]),⟨rfl,rfl,rfl,rfl,rfl,trivial⟩,⟨by (try dsimp only); omega,Le.trans hJ hJ2,by (try dsimp only); rw [Y0,hEl]; rfl,fun c hc=>?_,fun j u hu=>?_,fun j u hj hu=>?_,?_⟩,by (try dsimp only); omega⟩
    ·rcases Y12.1 hc with h | h
     ·exact h10 c h
     ·simp at h; subst h; rfl
    ·(try dsimp only at hu)
     rw [htn] at hu;rcases Yp j i with h1 | h1
     ·rw [Yi (by omega)] at hu;obtain ⟨c,e1,e2⟩:=hEE j u hu;exact ⟨c,by rw [Yi (by omega)]; exact e1,e2.mono hJ2⟩
     ·rw [Yt (by omega),hln] at hu;have hj0:j - i=0:=by have:=(Y5.1 hu).1; simp at this; omega
      rw [hj0] at hu;cases hu
      exact ⟨_,by rw [Yt (by omega),hEl,hj0]; rfl,hent2⟩
    ·rcases Yp j i with h1 | h1
     ·exact hok j u h1 hu
     ·have e:j=i:=by (try dsimp only at hj); omega
      subst e;rw [hs] at hu; cases hu;exact hbad0
    ·(try dsimp only)
     rw [hnx,Y29];simpa [X1p] using hfin
  ·refine .buildSlice (cs:=[_]) hS (pc9 rfl X4) X63 Xgf Qz27 rfl rfl rfl rfl ?_;clear hS; intro b38 w hS;refine .nil ?_;clear hH;have hH:=(hS.x [2,2])
   refine ⟨fun _ _=>⟨_,hH⟩,?_⟩;refine .b1 2 rfl (.buildSlice (cs:=[_,_,_,_,_,_,_,_,_,_]) hS (pc9 rfl X4) X9a X3v Xkh rfl rfl rfl rfl ?_);clear hS; intro b33 w hS;refine .nil ?_;clear hH;have hH:=(hS.x [3,3])
   refine ⟨fun _ _=>⟨_,hH⟩,?_⟩;refine .b1 3 rfl (.append (size:=10) (bytes:=96) hS (.of rfl) (.of rfl) (k:=3) rfl X9a X5t rfl rfl rfl rfl rfl rfl rfl ⟨by omega,by unfold maxLen; omega⟩ rfl ?_);clear hS; intro v34 w hS;obtain ⟨a34,c34,rfl,hcap34,_⟩:=hS.vecSlice (k:=3) (v:=v34) rfl;refine .nil ?_;clear hH;have hH:=(hS.x [2,2])
   refine ⟨fun _ _=>⟨_,hH⟩,?_⟩;refine .b1 8 rfl (.append (size:=1) (bytes:=8) hS (.of rfl) (.of rfl) (k:=3) rfl X63 X7b rfl rfl rfl rfl rfl rfl rfl ⟨by omega,by unfold maxLen; omega⟩ rfl ?_);clear hS; intro v39 w hS;obtain ⟨a39,c39,rfl,hcap39,_⟩:=hS.vecSlice (k:=3) (v:=v39) rfl;refine .nil ?_;clear hH;have hH:=(hS.x [1,1])
   refine ⟨fun _ _=>⟨_,hH⟩,?_⟩;refine .tp 9 rfl (fun w=>(.ao rfl)) (.tp 10 rfl (fun w=>(.ao rfl)) (.dn (.region (.run 2 rfl ⟨⟨by omega,by omega⟩,trivial⟩ (.nil ?_)))));have hfin:=((hS.drop (k:=0) rfl).drop (k:=0) rfl)
   refine ⟨(i+1,J2,.slice a34 (i+1) c34,.slice a39 (i+1) c39,E ++ [X1p s sa sc pp qq]),⟨rfl,rfl,rfl,rfl,rfl,trivial⟩,⟨by (try dsimp only); omega,Le.trans hJ hJ2,by (try dsimp only); rw [Y0,hEl]; rfl,fun c hc=>?_,fun j u hu=>?_,fun j u hj hu=>?_,?_⟩,by (try dsimp only); omega⟩
   ·rcases Y12.1 hc with h | h
    ·exact h10 c h
    ·simp at h; subst h; rfl
   ·(try dsimp only at hu)
    rw [htn] at hu;rcases Yp j i with h1 | h1
    ·rw [Yi (by omega)] at hu;obtain ⟨c,e1,e2⟩:=hEE j u hu;exact ⟨c,by rw [Yi (by omega)]; exact e1,e2.mono hJ2⟩
    ·rw [Yt (by omega),hln] at hu;have hj0:j - i=0:=by have:=(Y5.1 hu).1; simp at this; omega
     rw [hj0] at hu;cases hu
     exact ⟨_,by rw [Yt (by omega),hEl,hj0]; rfl,hent2⟩
   ·rcases Yp j i with h1 | h1
    ·exact hok j u h1 hu
    ·have e:j=i:=by (try dsimp only at hj); omega
     subst e;rw [hs] at hu; cases hu;exact hbad0
   ·(try dsimp only)
    rw [hnx,Y29];simpa [X1p] using hfin
 have hc17:=hb17; simp only [Y6] at hc17;refine .exit (.seq ?_);have hin:i=l.length:=by omega
 subst hin;have hol:(ords l).length=l.length:=Y14 ..;rw [Yx (Yq _)] at hEE;rw [Yx (by omega)] at hS;obtain ⟨oa,oc,rfl,hoc,_⟩:=hS.vecSlice (k:=1) rfl;obtain ⟨ea,ec,rfl,hec,_⟩:=hS.vecSlice (k:=0) rfl;obtain ⟨J1,hJ1,hOR,hS1⟩:=hS.freezeVec (k:=1) rfl;try dsimp only [List.eraseIdx] at hS1
 obtain ⟨J2,hJ2,hER,hS2⟩:=hS1.freezeVec (k:=0) rfl;clear hS hS1;have hS:=hS2;clear hS2;try dsimp only [List.eraseIdx] at hS
 replace hJ:=Le.trans hJ (Le.trans hJ1 hJ2);replace hOR:=hOR.mono hJ2;replace hEE:=fun j s h=>let ⟨c,h1,h2⟩:=hEE j s h; (⟨c,h1,EntAt.mono h2 (Le.trans hJ1 hJ2)⟩:∃ c,E[j]?=some c/\EntAt J2 s c)
 refine .region (.val (.build (cs:=[_]) X4 Xns rfl) rfl (.boxA (cs:=[_]) hS (.of rfl) rfl ?_));clear hS; intro b42 w hS;refine .q 1 rfl (.nil (.seq (.seq ?_)));rw [<- hol] at hOR ⊢;refine .t 1 rfl (.call Tryz.func115 rfl (ec9 rfl X0) rfl (Xml (ords l) hom (by omega) oa oc B _ J2 hOR _ hS) ?_);clear hS;rintro _ w ⟨D,va,vc,rfl,hD,hS⟩;obtain ⟨J3,hJ3,hDR,hS2⟩:=hS.freezeVec (k:=0) rfl;clear hS;have hS:=hS2;clear hS2;try dsimp only [List.eraseIdx] at hS
 replace hJ:=Le.trans hJ hJ3;rw [hol] at hD hDR ⊢;have hDl:=hD.len;refine .run 2 rfl ⟨⟨_,Xf⟩,trivial⟩ (.nil (.block ?_));replace hS:=(hS.vecNil 188 10).pick 1 rfl;try dsimp only [List.eraseIdx] at hS
 refine .loop (σ:=Value×Nat) (fun ⟨kv,j⟩=>[(5,.slice ea l.length ec),(11,ptr b42 0),(44,.slice va l.length vc),(45,I64 (l.length:Nat)),(46,I64 (j:Nat))]) (fun ⟨kv,j⟩ w=>j<=l.length/\Sat B w J3 (blk b42 [kv] 192::Vec 188 10 kv j (X4v E (D.take j)).flatten::As)) (fun ⟨kv,j⟩=>l.length - j) (.slice none 0 0,0) ⟨rfl,rfl,rfl,rfl,rfl,trivial⟩ ⟨Yo _,hS⟩ ?_;rintro ⟨kv,j⟩ w ⟨hj,hS⟩;refine .seq (.q 1 rfl (.seq ?_));refine .cond rfl (fun hb47=>?_) fun hb47=>?_
 ·have hc47:=hb47; simp only [Y6] at hc47;refine .skip (.seq (.block (.seq ?_)));obtain ⟨d,hd⟩:∃ d,D[j]?=some d:=⟨_,Y4 (by omega)⟩
  have hdm:d∈Srt.upto l.length:=hD.2.mem_iff.1 (Yl hd);have hdr:=Srt.upto_mem.1 hdm;obtain ⟨s,hs⟩:∃ s,l[d.toNat]?=some s:=⟨_,Y4 (by omega)⟩
  obtain ⟨c,hc,ra,rc,pp,qq,Q,T,rfl,hent⟩:=hEE d.toNat s hs;obtain ⟨pe,rfl,hpe⟩:=(hER.mono hJ3).2 (by omega);have hx:=X50 (hpe.add (d.toNat*10)) 10;rw [X1f E h10 d.toNat _ hc] at hx;have hnr:(X4v E (D.take (j+1))).flatten=(X4v E (D.take j)).flatten ++ X1p s ra rc pp qq:=by
   unfold X4v;rw [Yz,hd,Yw,Y29];simp [Y8,hc]
  unfold X1p at hx hnr;obtain ⟨dp,rfl,hdp⟩:=hDR.2 (by omega);obtain ⟨ka,kc,rfl,hkc,_⟩:=hS.vecSlice (k:=1) rfl;have hdx:((D.map I64).drop ((j:Int).toNat*1))[0]?=some (I64 d):=by rw [Y1d,Yf,Y1n,Y21,Yu,hd]; rfl
  refine .region (.val (.ii rfl rfl (by omega) (by omega) Xf Qs3) rfl (.val (.ldI (v:=I64 d) (.of rfl) hS (hdp.add _) Qg3 hdx) rfl (.q 1 rfl (.nil (.dw (fun w=>∃ R,Sat B w J3 (blk b42 [.slice ka j kc] 192::R)) (fun j=>!([13].contains j)) ?_)))));replace hS:=hS.drew; generalize w.drew=w at hS ⊢;have hH:=(hS.x [0])
  refine .tp 0 rfl (fun w=>(.mo rfl)) (.tp 1 rfl (fun w=>(.mo rfl)) (.tp 2 rfl (fun w=>(.no rfl)) (.tp 3 rfl (fun w=>(.fo 0 rfl Xmz rfl rfl Xmw rfl)) (.tk 4 rfl ⟨_,hH⟩ (fun w ⟨R,hS⟩=>(.lo rfl hS (k:=0) rfl Tryz.isAgg184 rfl)) (.tp 5 rfl (fun w=>(.mo rfl)) (.tp 6 rfl (fun w=>(.mo rfl)) (.tp 7 rfl (fun w=>(.ii rfl rfl (by omega) (by omega) X9a X3v)) (.tk 8 rfl ⟨_,hH⟩ (fun w ⟨R,hS⟩=>(.ldsI (.of rfl) hS hx Xel X3v rfl (fun _ _ h=>h))) ?_))))))));refine .b1 9 rfl (.buildSlice (cs:=[_,_,_,_,_,_,_,_,_,_]) hS (pc9 rfl X4) X9a X3v Xkh rfl rfl rfl rfl ?_);clear hS; intro b59 w hS;refine .nil ?_;clear hH;have hH:=(hS.x [1])
  refine ⟨fun _ _=>⟨_,hH⟩,?_⟩;refine .b1 10 rfl (.append (size:=10) (bytes:=96) hS (.of rfl) (.of rfl) (k:=1) rfl X9a X5t rfl rfl rfl rfl rfl rfl rfl ⟨by omega,by unfold maxLen; omega⟩ rfl ?_);clear hS; intro v60 w hS;obtain ⟨a60,c60,rfl,hcap60,_⟩:=hS.vecSlice (k:=1) (v:=v60) rfl;refine .nil ?_;clear hH;have hH:=(hS.x [0])
  refine ⟨fun _ _=>⟨_,hH⟩,?_⟩;refine .tp 11 rfl (fun w=>(.no rfl)) (.tp 12 rfl (fun w=>(.fo 0 rfl Xmz rfl rfl Xmw rfl)) ?_);refine .b1 13 rfl (.s1 hS (k:=0) rfl rfl rfl rfl Xmw (by simp) ?_);clear hS; intro w hS;refine .nil ?_;refine And.intro (by intro h; cases h) ?_;refine .dn (.region (.run 2 rfl ⟨⟨by omega,by omega⟩,trivial⟩ (.nil ?_)));refine ⟨(.slice a60 (j+1) c60,j+1),⟨rfl,rfl,rfl,rfl,rfl,trivial⟩,⟨by (try dsimp only); omega,?_⟩,by (try dsimp only); omega⟩;rw [hnr]; exact hS
 have hc47:=hb47; simp only [Y6] at hc47;refine .exit (.seq (.q 4 rfl (.ret (Xap Tryz.results73 rfl rfl rfl ?_))));have hjn:j=l.length:=by omega
 subst hjn;rw [Yx (by omega)] at hS;obtain ⟨ka,kc,rfl,hkc,_⟩:=hS.vecSlice (k:=1) rfl;obtain ⟨J4,hJ4,hKR,hS1⟩:=hS.freezeVec (k:=1) rfl;try dsimp only [List.eraseIdx] at hS1
 obtain ⟨J5,hJ5,hb5,hS2⟩:=hS1.freeze (k:=0) rfl;have hw:X4a l=(0,0):=Xcn (fun q t ht=>hok q t (by have:=(Y5.1 ht).1; omega) ht);have hpl:(X4w l D).length=l.length:=by unfold X4w; rw [Y14,hDl]
 refine ⟨_,rfl,J5,Le.trans hJ (Le.trans hJ4 hJ5),hS2,.inr ⟨by rw [hw],_,D,rfl,hD,ka,kc,X4v E D,?_,by rw [hpl]; exact hkc,by unfold X4v X4w; rw [Y14,Y14],fun q s hq=>?_⟩⟩
 ·rw [hpl];exact ⟨rfl,_,_,_,hb5,fun q v hq=>by simpa using hq⟩
 ·unfold X4w at hq;rw [Yu] at hq;cases hdq:D[q]? with
  | none=>rw [hdq] at hq; cases hq
  | some d =>
   rw [hdq] at hq;have hdr:=Srt.upto_mem.1 (hD.2.mem_iff.1 (Yl hdq));obtain ⟨u,hu⟩:∃ u,l[d.toNat]?=some u:=⟨_,Y4 (by omega)⟩
   have hus:u=s:=by
    have h2:=hq;rw [Y3y,Y8,hu] at h2;exact Option.some.inj h2
   subst hus;obtain ⟨c,hc,hent⟩:=hEE d.toNat u hu;have hql:=(Y5.1 hdq).1;obtain ⟨kp,rfl,hkp⟩:=(hKR.mono hJ5).2 (by omega);have hpk:(X4v E D)[q]?=some c:=by unfold X4v; rw [Yu,hdq]; simp [Y8,hc]
   have h10':∀ c∈X4v E D,c.length=10:=fun c hc=>by
    unfold X4v at hc;obtain ⟨d',hd',rfl⟩:=Y2b.1 hc;have hdr':=Srt.upto_mem.1 (hD.2.mem_iff.1 hd');rw [Y8,Y4 (by omega)];exact h10 _ (Y36 _)
   have hx:=X50 (hkp.add (q*10)) 10;rw [X1f _ h10' q _ hpk] at hx;exact ⟨kp,c,rfl,hpk,hx,hent.mono (Le.trans hJ3 (Le.trans hJ4 hJ5))⟩
theorem Xac (pr:Sv->Bool):∀ (l:List Sv) (i:Nat),(X2u pr l i=-1/\l.find? pr=none)\/(∃ j s,X2u pr l i=((i+j:Nat):Int)/\l[j]?=some s/\pr s=true/\l.find? pr=some s)
 | [],_=>.inl ⟨rfl,rfl⟩
 | a::l,i=>by
  rw [X2u,Y2v];cases ha:pr a with
  | true=>exact .inr ⟨0,a,rfl,rfl,ha,rfl⟩
  | false =>
   rw [if_neg (by decide)];rcases Xac pr l (i+1) with ⟨h1,h2⟩ | ⟨j,s,h1,h2,h3,h4⟩
   ·exact .inl ⟨h1,h2⟩
   ·exact .inr ⟨j+1,s,by rw [h1]; congr 1; omega,h2,h3,h4⟩
theorem Xad (pr:Sv->Bool) (l:List Sv):(X2u pr l 0=-1/\l.find? pr=none)\/(∃ (j:Nat) (s:Sv),X2u pr l 0=(j:Int)/\l[j]?=some s/\pr s=true/\l.find? pr=some s):=by
 rcases Xac pr l 0 with h | ⟨j,s,h1,h2⟩
 ·exact .inl h
 ·exact .inr ⟨j,s,by rw [h1,Yc],h2⟩
theorem Xt2 {l:List UInt8} {Q:List Pl} (h:cmp l=.ok Q) (s:List UInt8):(Xbg l s).1=mat Q s:=by unfold Xbg; rw [h]
def X20 (lo:List Sv) (s:List UInt8):Sv×List UInt8×Nat :=
 if (Ul.nU s).2≠0 then (z0,[],(Ul.nU s).2) else if 100<(Ul.nU s).1.length then (z0,[],2)
 else match lo.find? (fun t=>(Xbg t.urls (Ul.nU s).1).1) with
  | none=>(z0,[],31)
  | some t=>(t,(Ul.nU s).1,0)
theorem Xgx (pr:Addr) (lo:List Sv) (hlo:lo.length<=100000) (hrl:∀ s∈lo,s.rel.length<=1000000) (s:List UInt8) (hs:s.length<=1000000) (a:Option Addr) (cc:Nat) (E:List (List Value)) (B w:World) (I:Im) (hK:Known I) (hreg:At I pr [.slice a lo.length cc]) (hE:EntsIn I a E lo) (As:List X7) (hS:Sat B w I As) :
  Cz 86 [.pointer (some pr),S s] w fun v w'=>∃ J u c n e,Le I J/\v=.tuple #[.agg (List.toArray c),S n,I64 ((e:Nat):Int)]/\SvAt J u c/\X20 lo s=(u,n,e)/\Sat B w' J As:=by
 refine calls Tryz.func86 rfl Tryz.ntmps86 rfl (.seq (.region (.allocA (cs:=[_,_,_,_,_,_,_,_]) hS Xbq rfl ?_)));intro b4 w hS;refine .q 2 rfl (.nil (.seq (.t 1 rfl (.call Tryz.func128 rfl (ec9 rfl X0) rfl (Xif s hs B _ I hK _ hS) ?_))));rintro _ w ⟨rfl,hS⟩;refine .q 3 rfl (.alloc1 hS Qz9 rfl rfl ?_);intro b7 w hS;refine .s1 hS (k:=0) rfl rfl rfl rfl Qs9 (by simp) ?_;intro w hS;refine .q 1 rfl (.nil (.seq (.seq (.t 3 rfl (.gval rfl rfl (fun hg1=>(.lo rfl hS (k:=0) rfl Qg9 rfl)) rfl (.gval rfl rfl (fun hg1=>(.len (.gd hg1 rfl) Qu9)) rfl (.gval rfl rfl (fun hg1=>(.gtr (.gd hg1 rfl) (.of rfl))) rfl (.val (.pa rfl rfl rfl) rfl (.nil ?_)))))))));refine .cond rfl (fun hb21=>?_) fun hb21=>?_
 ·have hc21:=hb21; simp only [Y6] at hc21;refine .q 1 rfl (.seq (.seq (.q 2 rfl ?_)));refine .cond rfl (fun hb23=>?_) (fun hb23=>by exfalso; simp only [Y6] at hb23; omega);have hc23:=hb23; simp only [Y6] at hc23;refine .seq (.region (.val (.build (cs:=[_,_,_,_,_,_,_,_]) X4 X3w rfl) rfl (.q 1 rfl (.so hS (k:=1) rfl rfl rfl rfl X10 rfl (by simp) ?_))));intro w hS;try simp only [Yk,Ye,Y9,Y7,Yh,Ym,Yc] at hS
  refine .q 2 rfl (.nil (.ret (Xg3 (b:=_) (cs:=[_,_,_,_,_,_,_,_]) Qr86 hS (k:=1) rfl X61 X10 rfl rfl rfl rfl ?_)));exact ⟨_,rfl,I,z0,_,[],2,Le.refl _,rfl,⟨none,0,rfl,Yq _,RS.nil _ _⟩,(by unfold X20; rw [if_neg (by simp at hb21; omega),if_pos (by simp at hb21; omega)]),(hS.y 0 2)⟩
 have hc21:=hb21; simp only [Y6] at hc21;refine .skip (.seq (.seq (.q 2 rfl ?_)));refine .cond rfl (fun hb23=>?_) fun hb23=>?_
 ·have hc23:=hb23; simp only [Y6] at hc23;refine .seq (.region (.val (.build (cs:=[_,_,_,_,_,_,_,_]) X4 X3w rfl) rfl (.q 1 rfl (.so hS (k:=1) rfl rfl rfl rfl X10 rfl (by simp) ?_))));intro w hS;try simp only [Yk,Ye,Y9,Y7,Yh,Ym,Yc] at hS
  refine .q 2 rfl (.nil (.ret (Xg3 (b:=_) (cs:=[_,_,_,_,_,_,_,_]) Qr86 hS (k:=1) rfl X61 X10 rfl rfl rfl rfl ?_)));exact ⟨_,rfl,I,z0,_,[],_,Le.refl _,rfl,⟨none,0,rfl,Yq _,RS.nil _ _⟩,(by unfold X20; rw [if_pos (by omega)]),(hS.y 0 2)⟩
 have hc23:=hb23; simp only [Y6] at hc23;refine .skip (.seq ?_);have hz:(Ul.nU s).2=0:=by omega
 have hn100:(Ul.nU s).1.length<=100:=by
  rw [hz] at hb21;simp at hb21
  omega
 refine .t 2 rfl (.val (.fi 0 rfl Xmz rfl rfl Xmw rfl) rfl (.val (.ldI (.of rfl) hS (At.add hreg _) Tryz.isAgg184 rfl) rfl (.val (.makeFunc (ec9 rfl X0)) rfl ?_)));refine .call Tryz.func129 rfl (ec9 rfl (ec9 rfl X0)) rfl (X6w a cc lo hlo (fun t=>(Xbg t.urls (Ul.nU s).1).1) 130 _ Tryz.func130 rfl [ptr b7 0] B _ I (blk b7 [S (Ul.nU s).1] 9::blk b4 [I64 0,F64 0,S [],.bool false,.bool false,.bool false,S [],.slice none 0 0] 105::As) (fun w h=>hE.now h) (fun t c ht w h=>by
  obtain ⟨ta,tc,tp,tq,Q,_,rfl,_,_,hQ,hpat,_⟩:=ht;refine (Xoe hQ ta tc tp tq (Ul.nU s).1 (by omega) b7 B w I hpat _ h).mono fun e w' ⟨v,e1,e2,e3⟩=>⟨v,e1,?_,e3⟩
  rw [e2,Xt2 hQ]) hS) ?_
 rintro _ w ⟨rfl,hS⟩;refine .q 1 rfl (.nil (.seq (.seq (.q 2 rfl ?_))));refine .cond rfl (fun hb33=>?_) fun hb33=>?_
 ·have hc33:=hb33; simp only [Y6] at hc33;refine .seq (.region (.val (.build (cs:=[_,_,_,_,_,_,_,_]) X4 X3w rfl) rfl (.so hS (k:=1) rfl rfl rfl rfl X10 rfl (by simp) ?_)));intro w hS;try simp only [Yk,Ye,Y9,Y7,Yh,Ym,Yc] at hS
  refine .q 2 rfl (.nil (.ret (Xg3 (b:=_) (cs:=[_,_,_,_,_,_,_,_]) Qr86 hS (k:=1) rfl X61 X10 rfl rfl rfl rfl ?_)));exact ⟨_,rfl,I,z0,_,[],31,Le.refl _,rfl,⟨none,0,rfl,Yq _,RS.nil _ _⟩,(by
   have hno:lo.find? (fun t=>(Xbg t.urls (Ul.nU s).1).1)=none:=by
    rcases Xad (fun t=>(Xbg t.urls (Ul.nU s).1).1) lo with ⟨_,h⟩ | ⟨j,u,hj,_⟩
    ·exact h
    ·exfalso; rw [hj] at hc33; omega
   unfold X20;rw [if_neg (by omega),if_neg (by omega),hno]),(hS.y 0 2)⟩
 have hc33:=hb33; simp only [Y6] at hc33;refine .skip (.seq ?_);rcases Xad (fun t=>(Xbg t.urls (Ul.nU s).1).1) lo with ⟨hneg,_⟩ | ⟨j,u,hj,hu,hpu,hfind⟩
 ·exfalso; rw [hneg] at hc33; omega
 rw [hj];obtain ⟨p,c,rfl,hc,hx0,ra,rc,pp,qq,Q,T,rfl,hrc,hrr,hQ,hpQ,hT,hpT⟩:=hE.2 j u hu;have hjl:=(Y5.1 hu).1;have hsm:=hrl u (Yl hu);have hx:=X50 hx0 8;simp only [X1p,Y1l,Yk] at hx
 refine .dw (fun w=>∃ J9 R,Le I J9/\Sat B w J9 (blk b7 [S (Ul.nU s).1] 9::R)) (fun j=>!([].contains j)) ?_;replace hS:=hS.drew; generalize w.drew=w at hS ⊢;have hH:∃ J9 R,Le I J9/\Sat B w J9 (blk b7 [S (Ul.nU s).1] 9::R):=⟨_,_,Le.refl _,(hS.x [0])⟩
 refine .tp 0 rfl (fun w=>(.mo rfl)) (.tp 1 rfl (fun w=>(.no rfl)) (.tp 2 rfl (fun w=>(.fi 0 rfl Xmz rfl rfl Xmw rfl)) (.tk 3 rfl hH (fun w ⟨J9,R,hL9,hS⟩=>(.ldI (.of rfl) hS (At.add (hreg.mono hL9) _) Tryz.isAgg184 rfl)) (.tp 4 rfl (fun w=>(.mo rfl)) (.tp 5 rfl (fun w=>(.ii rfl rfl (by omega) (by omega) X9a X3v)) (.tp 6 rfl (fun w=>(.fi 0 rfl Xr7 rfl rfl X10 rfl)) (.tk 7 rfl hH (fun w ⟨J9,R,hL9,hS⟩=>(.ldsI (.of rfl) hS (hx.mono hL9) X61 X10 rfl (fun _ _ h=>h))) (.tk 9 rfl hH (fun w ⟨J9,R,hL9,hS⟩=>(.lo rfl hS (k:=0) rfl Qg9 rfl)) ?_))))))));refine .b1 8 rfl (.call Tryz.func132 rfl (ec9 rfl X0) rfl (Xwz u ra rc hsm B _ I hrr _ hS) ?_);rintro _ w ⟨J2,cs,hJ2,rfl,hsv,hS⟩;obtain ⟨sa,sc,rfl,hq1,hq2⟩:=hsv;have hsv:SvAt J2 u (X1o u sa sc):=⟨sa,sc,rfl,hq1,hq2⟩
 refine .nil ?_;clear hH;have hH:∃ J9 R,Le I J9/\Sat B w J9 (blk b7 [S (Ul.nU s).1] 9::R):=⟨_,_,hJ2,(hS.x [0])⟩
 refine ⟨fun _ _=>hH,?_⟩;refine .b1 10 rfl (.so hS (k:=1) rfl rfl rfl rfl X10 rfl (by simp) ?_);intro w hS;try simp only [Yk,Ye,Y9,Y7,Yh,Ym,Yc] at hS
 refine .nil ?_;clear hH;have hH:∃ J9 R,Le I J9/\Sat B w J9 (blk b7 [S (Ul.nU s).1] 9::R):=⟨_,_,hJ2,(hS.x [0])⟩
 refine ⟨fun _ _=>hH,?_⟩;refine .tp 11 rfl (fun w=>(.ao rfl)) (.tp 12 rfl (fun w=>(.ao rfl)) (.dn (.ret (Xg3 (b:=_) (cs:=[_,_,_,_,_,_,_,_]) Qr86 hS (k:=1) rfl X61 X10 rfl rfl rfl rfl ?_))));exact ⟨_,rfl,J2,u,_,(Ul.nU s).1,0,hJ2,rfl,hsv,(by unfold X20; rw [if_neg (by omega),if_neg (by omega),hfind]),(hS.y 0 2)⟩
end Go.Proofs.YtbciobiiejpdgaaGreatDoor
