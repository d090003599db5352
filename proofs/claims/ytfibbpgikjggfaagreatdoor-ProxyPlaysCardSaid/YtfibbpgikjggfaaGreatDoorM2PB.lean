/- Part 2 of what the proof stands on: Tk, Tre, W18a, W18b, W18c, Shelf, W18d, W18e, PatM, Pat, W17b, W18f, W21a, W21b, GkZ. -/
import Derived.Test.YtfibbpgikjggfaaGreatDoorM2PA
import Derived.Test.YtfibbpgikjggfaaGreatDoorChecked
import Derived.Shelf.Strings.Builder1
import Derived.Shelf.Strings.Builder2
import Derived.Shelf.Small.Utf8
import Derived.Shelf.Small.Strs
import Derived.Shelf.Utf8.RuneCount
import Derived.Shelf.Strconv.Itoa0
import Derived.Shelf.Strconv.Itoa1
import Derived.Shelf.LaysM
import Derived.Shelf.Strconv.Itoa2
import Derived.Shelf.Strconv.Itoa3
import Derived.Shelf.Strings.Search1
import Derived.Shelf.Strings.Search2
import Derived.Shelf.Strings.Search3
import Derived.Shelf.Strings.Cut
import Derived.Shelf.Strings.Count
import Derived.Shelf.Strings.Shaped
import Derived.Shelf.Strings.Prefix
import Derived.Shelf.Strings.Split
import Derived.Shelf.Strings.SplitShaped
import Derived.Shelf.Unicode.Decode
import Derived.Shelf.Strings.Runes
import Derived.Shelf.Strings.RuneCount
import Derived.Shelf.Strings.IndexAny
import Derived.Shelf.Strings.AsciiSet
import Derived.Shelf.Strings.IndexAnyAll
import Derived.Shelf.Unicode.DecodeSlow
import Derived.Shelf.Unicode.DecodeAny
import Derived.Ground.Names2Prog
import Derived.Shelf.Slices.Clone
import Derived.Test.YtfibbpgikjggfaaGreatDoorProg
import Derived.Below
import Derived.ChangeSame
import Derived.Carry
import Derived.ChangeSlices
set_option linter.unusedVariables false
set_option linter.unusedSimpArgs false
namespace Tk
open Pc Gk Ul
def pre:Nat→List UInt8
 | 1=>[84,71,84]
 | 2=>[83,84]
 | 3=>[80,84]
 | 4=>[80,71,84]
 | 5=>[80,71,84,73,79,85]
 | 6=>[76,84]
 | _=>[]
def hx (c:UInt8):Option Nat:=if 48≤c && c≤57 then some (c.toNat - 48) else if 97≤c && c≤102 then some (c.toNat - 87) else none
def hxS (n:Nat):List UInt8→Option Nat
 | []=>some n
 | c::r=>match hx c with
  | some d=>hxS (16*n+d) r
  | none=>none
def X4u (s:List UInt8):Option Nat:=if s.length=16 then hxS 0 s else none
def X3c (p:List UInt8):Nat:=if p=pre 1 then 1 else if p=pre 2 then 2 else if p=pre 3 then 3 else if p=pre 4 then 4 else if p=pre 5 then 5 else if p=pre 6 then 6 else 0
def Xz (s:List UInt8):Option (Nat×Nat) :=
 if X3c (upto [45] s)=0 then none else (X4u ((Xc [45] s).drop 1)).map fun d=>(X3c (upto [45] s),d)
theorem hx_lt {c:UInt8} {d:Nat} (h:hx c=some d):d<16:=by
 have:=Xw (p:=fun c=>match hx c with | some d=>decide (d<16) | none=>true) (by decide +kernel) c
 rw [h] at this;simpa using this
theorem Xr7:∀ (s:List UInt8) (n m k:Nat),n<16 ^ k→hxS n s=some m→m<16 ^ (k+s.length)
 | [],n,m,k,hn,h=>by
  simp only [hxS,Option.some.injEq] at h
  subst h; exact hn
 | c::r,n,m,k,hn,h=>by
  rw [hxS] at h;cases hc:hx c with
  | none=>rw [hc] at h; cases h
  | some d =>
   rw [hc] at h;have hd:=hx_lt hc
   have:=Xr7 r (16*n+d) m (k+1) (by rw [Y2g]; omega) h
   rw [Y8,show k+(r.length+1)=k+1+r.length by omega]; exact this
theorem Xsh {s:List UInt8} {d:Nat} (h:X4u s=some d):d<18446744073709551616:=by
 unfold X4u at h;split at h
 ·rename_i hl
  have:=Xr7 s 0 d 0 (by decide) h
  rw [hl] at this;exact this
 ·cases h
def X49:Nat→Nat→List UInt8
 | 0,_=>[]
 | k+1,n=>X49 k (n / 16) ++ [if n % 16<10 then UInt8.ofNat (48+n % 16) else UInt8.ofNat (87+n % 16)]
theorem X45:∀ (k n:Nat),(X49 k n).length=k
 | 0,_=>rfl
 | k+1,n=>by rw [X49,Y0,X45 k]; rfl
theorem Xh2:∀ (s t:List UInt8) (n:Nat),hxS n (s ++ t)=(hxS n s).bind fun m=>hxS m t
 | [],_,_=>rfl
 | c::r,t,n=>by
  rw [Ys,hxS,hxS];cases hx c with
  | none=>rfl
  | some d=>exact Xh2 r t _
theorem Xqm {k:Nat}:∀ c∈pre k,c≠45:=by
 intro c hc e;subst e
 match k,hc with
 | 0,h=>simp [pre] at h
 | 1,h=>simp [pre] at h
 | 2,h=>simp [pre] at h
 | 3,h=>simp [pre] at h
 | 4,h=>simp [pre] at h
 | 5,h=>simp [pre] at h
 | 6,h=>simp [pre] at h
 | k+7,h=>simp [pre] at h
theorem Xo1 {p r:List UInt8} (h:∀ c∈p,c≠45):upto [45] (p ++ 45::r)=p∧Xc [45] (p ++ 45::r)=45::r:=by
 induction p with
 | nil=>simp [upto,Xc]
 | cons c p ih =>
  have h1:c≠45:=h c (by simp);obtain ⟨h2,h3⟩:=ih (fun x hx=>h x (by simp [hx]));simp only [upto,Xc] at h2 h3 ⊢
  rw [Ys,Y4c,Y3s]
  have:(!([45]:List UInt8).contains c)=true:=by simp [h1]
  rw [if_pos this,if_pos this];exact ⟨congrArg (c::·) h2,h3⟩
theorem Xo7 {k:Nat} (h1:1≤k) (h2:k≤6):X3c (pre k)=k:=by
 have:=(by decide:∀ k:Fin 7,1≤k.val→X3c (pre k.val)=k.val) ⟨k,by omega⟩ h1
 exact this
theorem Xsp (p:List UInt8):X3c p≤6:=by
 unfold X3c
 by_cases h1:p=pre 1
 ·rw [if_pos h1]; decide
 by_cases h2:p=pre 2
 ·rw [if_neg h1,if_pos h2]; decide
 by_cases h3:p=pre 3
 ·rw [if_neg h1,if_neg h2,if_pos h3]; decide
 by_cases h4:p=pre 4
 ·rw [if_neg h1,if_neg h2,if_neg h3,if_pos h4]; decide
 by_cases h5:p=pre 5
 ·rw [if_neg h1,if_neg h2,if_neg h3,if_neg h4,if_pos h5]; decide
 by_cases h6:p=pre 6
 ·rw [if_neg h1,if_neg h2,if_neg h3,if_neg h4,if_neg h5,if_pos h6]; decide
 ·rw [if_neg h1,if_neg h2,if_neg h3,if_neg h4,if_neg h5,if_neg h6]; decide
theorem Xmx {p:List UInt8} (h:X3c p≠0):p=pre (X3c p):=by
 unfold X3c at h ⊢
 by_cases h1:p=pre 1
 ·rw [if_pos h1]; exact h1
 by_cases h2:p=pre 2
 ·rw [if_neg h1,if_pos h2]; exact h2
 by_cases h3:p=pre 3
 ·rw [if_neg h1,if_neg h2,if_pos h3]; exact h3
 by_cases h4:p=pre 4
 ·rw [if_neg h1,if_neg h2,if_neg h3,if_pos h4]; exact h4
 by_cases h5:p=pre 5
 ·rw [if_neg h1,if_neg h2,if_neg h3,if_neg h4,if_pos h5]; exact h5
 by_cases h6:p=pre 6
 ·rw [if_neg h1,if_neg h2,if_neg h3,if_neg h4,if_neg h5,if_pos h6]; exact h6
 ·rw [if_neg h1,if_neg h2,if_neg h3,if_neg h4,if_neg h5,if_neg h6] at h; exact absurd rfl h
theorem X3u {s:List UInt8} {k d:Nat} (h:Xz s=some (k,d)):1≤k∧k≤6∧d<18446744073709551616∧s.length≤23∧s≠[]:=by
 unfold Xz at h;split at h
 ·cases h
 ·rename_i hk
  obtain ⟨x,hx,e⟩:=Y1n.1 h;simp only [Prod.mk.injEq] at e
  obtain ⟨rfl,rfl⟩:=e;have hl:=Xsp (upto [45] s);refine ⟨by omega,hl,Xsh hx,?_,fun e=>by subst e; exact hk rfl⟩;unfold X4u at hx;split at hx
  ·rename_i h16
   have h3:=X2r [45] s;have h4:(upto [45] s).length≤6:=by
    rw [Xmx hk]
    have:=(by decide:∀ k:Fin 7,(pre k.val).length≤6) ⟨X3c (upto [45] s),by omega⟩
    exact this
   rw [Yp] at h16;omega
  ·cases hx
end Tk
namespace Tr
open Tk
structure Rec where
 kind:Int
 name:List UInt8
 parent:List UInt8
 user:List UInt8
 service:List UInt8
 url:List UInt8
 made:Int
 used:Int
 uses:Int
 fresh:Bool
 deriving DecidableEq
def r0:Rec:=⟨0,[],[],[],[],[],0,0,0,false⟩
def X6r (kind of:Int):Bool:=(kind == 1 && of == 0) || (kind == 6 && of == 0) || (kind == 2 && of == 1) || (kind == 3 && of == 4) || (kind == 4 && of == 2) || (kind == 4 && of == 3) || (kind == 5 && of == 4)
def X2u (kind:Int) (name:List UInt8):Bool:=if name=[] then X6r kind 0 else match Xz name with
 | some (of,_)=>X6r kind (of:Nat)
 | none=>false
def isT (s:List UInt8) (kind:Int):Bool:=match Xz s with
 | some (k,_)=>((k:Nat):Int) == kind
 | none=>false
def Xm (r:Rec):Bool :=
 (decide ((r.user.length:Int)≤32) && decide ((r.service.length:Int)≤100) && decide ((r.url.length:Int)≤100)) && (decide (0≤r.made) && decide (r.made≤r.used) && decide (r.used≤1099511627776) && decide (0≤r.uses) && decide (r.uses≤255)) && isT r.name r.kind && X2u r.kind r.parent
def atN (name:List UInt8):List Rec→Nat→Int
 | [],_=>-1
 | r::l,i=>if r.name=name then (i:Int) else atN name l (i+1)
def at0 (l:List Rec) (name:List UInt8):Int:=atN name l 0
theorem Xig (name:List UInt8):∀ (l:List Rec) (i:Nat),(atN name l i=-1∧∀ r∈l,r.name≠name)∨∃ (j:Nat) (r:Rec),atN name l i=((i+j:Nat):Int)∧l[j]?=some r∧r.name=name∧∀ (q:Nat) (t:Rec),q<j→l[q]?=some t→t.name≠name
 | [],_=>.inl ⟨rfl,fun r h=>by simp at h⟩
 | a::l,i=>by
  rw [atN]
  by_cases h:a.name=name
  ·rw [if_pos h];exact .inr ⟨0,a,rfl,rfl,h,fun q t hq=>absurd hq (by omega)⟩
  ·rw [if_neg h];rcases Xig name l (i+1) with ⟨h1,h2⟩ | ⟨j,r,h1,h2,h3,h4⟩
   ·refine .inl ⟨h1,fun r hr=>?_⟩;rcases Y18.1 hr with e | e
    ·subst e; exact h
    ·exact h2 r e
   ·refine .inr ⟨j+1,r,by rw [h1]; congr 1; omega,h2,h3,fun q t hq ht=>?_⟩;cases q with
    | zero=>simp at ht; subst ht; exact h
    | succ q=>exact h4 q t (by omega) (by simpa using ht)
theorem X2o (l:List Rec) (name:List UInt8):(at0 l name=-1∧∀ r∈l,r.name≠name)∨∃ (j:Nat) (r:Rec),at0 l name=(j:Int)∧l[j]?=some r∧r.name=name∧∀ (q:Nat) (t:Rec),q<j→l[q]?=some t→t.name≠name:=by
 rcases Xig name l 0 with h | ⟨j,r,h1,h2⟩
 ·exact .inl h
 ·exact .inr ⟨j,r,by rw [at0,h1,Yd],h2⟩
theorem Xdd (l:List Rec) (name:List UInt8):at0 l name<l.length:=by
 rcases X2o l name with ⟨h,_⟩ | ⟨j,r,h,hr,_⟩
 ·rw [h]; omega
 ·have:=(Y5.1 hr).1
  rw [h]; omega
theorem Xkl (l:List Rec) (name:List UInt8):-1≤at0 l name:=by
 rcases X2o l name with ⟨h,_⟩ | ⟨j,r,h,_⟩ <;> rw [h] <;> omega
def get (l:List Rec) (name:List UInt8):Option Rec:=l.find? fun r=>decide (r.name=name)
theorem get_at (l:List Rec) (name:List UInt8):(at0 l name=-1∧get l name=none)∨∃ (j:Nat) (r:Rec),at0 l name=(j:Int)∧l[j]?=some r∧r.name=name∧get l name=some r:=by
 rcases X2o l name with ⟨h1,h2⟩ | ⟨j,r,h1,h2,h3,h4⟩
 ·refine .inl ⟨h1,?_⟩;unfold get;rw [Y4r];intro r hr;simpa using h2 r hr
 ·refine .inr ⟨j,r,h1,h2,h3,?_⟩;unfold get
  have:∀ (l:List Rec) (j:Nat),l[j]?=some r→(∀ (q:Nat) (t:Rec),q<j→l[q]?=some t→t.name≠name)→l.find? (fun r=>decide (r.name=name))=some r:=by
   intro l
   induction l with
   | nil=>intro j h; simp at h
   | cons a l ih =>
    intro j h hno;rw [Y3v];cases j with
    | zero=>simp at h; subst h; rw [decide_eq_true h3]
    | succ j =>
     rw [decide_eq_false (hno 0 a (by omega) rfl)];exact ih j (by simpa using h) (fun q t hq ht=>hno (q+1) t (by omega) (by simpa using ht))
  exact this l j h2 h4
def X5j (room:Int) (l:List Rec) (r:Rec):Nat:=if Xm r=false then 1 else if 0≤at0 l r.name then 7 else if r.parent≠[]∧at0 l r.parent<0 then 6 else if room≤l.length then 5 else 0
def add (room:Int) (l:List Rec) (r:Rec):List Rec:=if X5j room l r=0 then l ++ [r] else l
def Xb5 (l:List Rec) (r:Rec):Nat:=if Xm r=false then 1 else match get l r.name with
 | none=>6
 | some t=>if t.parent≠r.parent then 8 else 0
def put (l:List Rec) (r:Rec):List Rec:=if Xb5 l r=0 then l.set (at0 l r.name).toNat r else l
structure Wf (l:List Rec):Prop where
 right:∀ r∈l,Xm r=true
 one:∀ (i j:Nat) (r s:Rec),l[i]?=some r→l[j]?=some s→r.name=s.name→i=j
 up:∀ (i:Nat) (r:Rec),l[i]?=some r→(r.parent=[]∨0≤at0 l r.parent)∧at0 l r.parent<i
theorem Wf.nil:Wf []:=⟨fun r h=>by simp at h,fun i j r s h=>by simp at h,fun i r h=>by simp at h⟩
theorem Wf.at_ {l:List Rec} (h:Wf l) {i:Nat} {r:Rec} (hr:l[i]?=some r):at0 l r.name=(i:Int):=by
 rcases X2o l r.name with ⟨_,h2⟩ | ⟨j,t,h1,h2,h3,_⟩
 ·exact absurd rfl (h2 r (Yi hr))
 ·rw [h1,h.one j i t r h2 hr h3]
theorem Wf.get_ {l:List Rec} (h:Wf l) {i:Nat} {r:Rec} (hr:l[i]?=some r):get l r.name=some r:=by
 rcases get_at l r.name with ⟨h1,_⟩ | ⟨j,t,h1,h2,h3,h4⟩
 ·rw [h.at_ hr] at h1; omega
 ·rw [h4];have e:j=i:=h.one j i t r h2 hr h3;subst e;rw [h2] at hr; exact hr
theorem X8b {r:Rec} (h:Xm r=true):r.name≠[]:=by
 intro e;unfold Xm at h;simp only [Yq] at h
 have h1:=h.1.2;unfold isT at h1;rw [e] at h1;cases hp:Xz [] with
 | none=>rw [hp] at h1; cases h1
 | some x=>exact (X3u (k:=x.1) (d:=x.2) hp).2.2.2.2 rfl
theorem Xm5 (name:List UInt8):∀ (l m:List Rec) (i:Nat),atN name (l ++ m) i=if atN name l i=-1 then atN name m (i+l.length) else atN name l i
 | [],m,i=>by simp [atN]
 | a::l,m,i=>by
  rw [Ys,atN,atN];split
  ·rw [if_neg (by omega)]
  ·rw [Xm5 name l m (i+1),Y8,show i+1+l.length=i+(l.length+1) by omega]
theorem Xso (l:List Rec) (r:Rec) (name:List UInt8):at0 (l ++ [r]) name=if at0 l name=-1 then (if r.name=name then (l.length:Int) else -1) else at0 l name:=by
 unfold at0;rw [Xm5];simp [atN]
theorem X90 {l:List Rec} {r:Rec} {i:Nat} {t:Rec} (h:(l ++ [r])[i]?=some t):l[i]?=some t∨(i=l.length∧t=r):=by
 rcases Yr i l.length with h1 | h1
 ·rw [Yk h1] at h; exact .inl h
 ·rw [Yw h1] at h;have h2:=(Y5.1 h).1;simp at h2
  have h3:i=l.length:=by omega
  subst h3;simp at h
  exact .inr ⟨rfl,h.symm⟩
theorem Xi9 {room:Int} {l:List Rec} {r:Rec} (h:X5j room l r=0):Xm r=true∧at0 l r.name=-1∧(r.parent=[]∨0≤at0 l r.parent)∧(l.length:Int)<room:=by
 unfold X5j at h;split at h
 ·cases h
 ·rename_i h1
  split at h
  ·cases h
  ·rename_i h2
   split at h
   ·cases h
   ·rename_i h3
    split at h
    ·cases h
    ·refine ⟨by simpa using h1,by have:=Xkl l r.name; omega,?_,by omega⟩
     by_cases e:r.parent=[]
     ·exact .inl e
     ·refine .inr ?_
      have:¬ at0 l r.parent<0:=fun h4=>h3 ⟨e,h4⟩
      omega
theorem Wf.snoc {l:List Rec} (h:Wf l) {r:Rec} (hr:Xm r=true) (hm1:at0 l r.name=-1) (hp:r.parent=[]∨0≤at0 l r.parent):Wf (l ++ [r]):=by
 have hno:∀ t∈l,t.name≠r.name:=by
  rcases X2o l r.name with ⟨_,h4⟩ | ⟨j,t,h4,_⟩
  ·exact h4
  ·rw [h4] at hm1; omega
 have hnil:∀ l:List Rec,(∀ r∈l,Xm r=true)→at0 l []=-1:=fun l hl=>by
  rcases X2o l [] with ⟨h4,_⟩ | ⟨j,t,_,ht,he,_⟩
  ·exact h4
  ·exact absurd he (X8b (hl t (Yi ht)))
 refine ⟨fun t ht=>?_,fun i j s t hi hj he=>?_,fun i t hi=>?_⟩
 ·rcases Y16.1 ht with e | e
  ·exact h.right t e
  ·simp at e; subst e; exact hr
 ·rcases X90 hi with hi1 | ⟨hi1,hi2⟩
  ·rcases X90 hj with hj1 | ⟨hj1,hj2⟩
   ·exact h.one i j s t hi1 hj1 he
   ·rw [hj2] at he; exact absurd he (hno s (Yi hi1))
  ·rcases X90 hj with hj1 | ⟨hj1,hj2⟩
   ·rw [hi2] at he; exact absurd he.symm (hno t (Yi hj1))
   ·omega
 ·have key:∀ (t:Rec),(t.parent=[]∨0≤at0 l t.parent)→at0 (l ++ [r]) t.parent=at0 l t.parent:=fun t ht=>by
   rw [Xso];rcases ht with e | e
   ·rw [e,hnil l h.right,if_pos rfl,if_neg (X8b hr)]
   ·rw [if_neg (by omega)]
  rcases X90 hi with hi1 | ⟨hi1,hi2⟩
  ·obtain ⟨h1,h2⟩:=h.up i t hi1;rw [key t h1]; exact ⟨h1,h2⟩
  ·subst hi1; subst hi2;rw [key t hp]; exact ⟨hp,Xdd l t.parent⟩
theorem Wf.add {l:List Rec} (h:Wf l) {room:Int} {r:Rec}:Wf (add room l r):=by
 unfold Tr.add;split
 ·rename_i he
  obtain ⟨h1,h2,h3,_⟩:=Xi9 he;exact h.snoc h1 h2 h3
 ·exact h
theorem Xkh (name:List UInt8) {r:Rec}:∀ (l:List Rec) (k i:Nat) (t:Rec),l[k]?=some t→t.name=r.name→atN name (l.set k r) i=atN name l i
 | [],k,i,t,h,_=>by simp at h
 | a::l,0,i,t,h,he=>by
  simp at h; subst h
  rw [Y4q,atN,atN,he]
 | a::l,k+1,i,t,h,he=>by
  rw [Y3f,atN,atN,Xkh name l k (i+1) t (by simpa using h) he]
theorem put_ok {l:List Rec} {r:Rec} (h:Xb5 l r=0):Xm r=true∧∃ (j:Nat) (t:Rec),at0 l r.name=(j:Int)∧l[j]?=some t∧t.name=r.name∧t.parent=r.parent∧get l r.name=some t:=by
 unfold Xb5 at h;split at h
 ·cases h
 ·rename_i h1
  refine ⟨by simpa using h1,?_⟩;rcases get_at l r.name with ⟨_,h2⟩ | ⟨j,t,h2,h3,h4,h5⟩
  ·rw [h2] at h; cases h
  ·rw [h5] at h;simp only at h
   split at h
   ·cases h
   ·rename_i h6
    exact ⟨j,t,h2,h3,h4,by simpa using h6,h5⟩
theorem Wf.set {l:List Rec} (h:Wf l) {j:Nat} {t r:Rec} (ht:l[j]?=some t) (hn:t.name=r.name) (hp:t.parent=r.parent) (hr:Xm r=true):Wf (l.set j r):=by
 have hj:=(Y5.1 ht).1;have e:∀ name,at0 (l.set j r) name=at0 l name:=fun name=>Xkh name l j 0 t ht hn
 have g:∀ (i:Nat) (s:Rec),(l.set j r)[i]?=some s→∃ u,l[i]?=some u∧u.name=s.name∧u.parent=s.parent:=fun i s hs=>by
  rw [Y27] at hs;split at hs
  ·rename_i hij
   subst hij;cases hs
   exact ⟨t,ht,hn,hp⟩
  ·exact ⟨s,hs,rfl,rfl⟩
 refine ⟨fun s hs=>?_,fun i k s u hi hk he=>?_,fun i s hi=>?_⟩
 ·rcases List.mem_or_eq_of_mem_set hs with h1 | h1
  ·exact h.right s h1
  ·subst h1; exact hr
 ·obtain ⟨s',h1,h2,_⟩:=g i s hi;obtain ⟨u',h3,h4,_⟩:=g k u hk;exact h.one i k s' u' h1 h3 (by rw [h2,h4,he])
 ·obtain ⟨s',h1,_,h2⟩:=g i s hi;rw [e,← h2];exact h.up i s' h1
theorem Wf.put {l:List Rec} (h:Wf l) {r:Rec}:Wf (put l r):=by
 unfold Tr.put;split
 ·rename_i he
  obtain ⟨h1,j,t,h2,h3,h4,h5,_⟩:=put_ok he;rw [h2,Ym];exact h.set h3 h4 h5 h1
 ·exact h
def X4l (l:List Rec):Nat→Int→List Rec
 | 0,_=>[]
 | f+1,i=>if i<0 then [] else match l[i.toNat]? with
  | some r=>r::X4l l f (at0 l r.parent)
  | none=>[]
theorem X3t (l:List Rec) (f:Nat) {i:Int} (h:i<0):X4l l f i=[]:=by
 cases f with
 | zero=>rfl
 | succ f=>rw [X4l,if_pos h]
theorem Xbs {l:List Rec} (h:Wf l):∀ (f g:Nat) (i:Int),i<f→i<g→X4l l f i=X4l l g i
 | 0,g,i,h1,_=>by rw [X3t l g (by omega),X3t l 0 (by omega)]
 | f+1,0,i,_,h2=>by rw [X3t l (f+1) (by omega),X3t l 0 (by omega)]
 | f+1,g+1,i,h1,h2=>by
  rw [X4l,X4l];split
  ·rfl
  ·rename_i hi
   cases hr:l[i.toNat]? with
   | none=>rfl
   | some r =>
    have hu:=(h.up i.toNat r hr).2;simp only
    rw [Xbs h f g (at0 l r.parent) (by omega) (by omega)]
def Xf2 (l:List Rec) (i:Int):List Rec:=X4l l (i.toNat+1) i
def path (l:List Rec) (name:List UInt8):List Rec:=Xf2 l (at0 l name)
theorem X7e (l:List Rec) {i:Int} (h:i<0):Xf2 l i=[]:=X3t l _ h
theorem Xcj {l:List Rec} (h:Wf l) {i:Nat} {r:Rec} (hr:l[i]?=some r):Xf2 l (i:Int)=r::Xf2 l (at0 l r.parent):=by
 unfold Xf2;rw [Ym,X4l,if_neg (by omega),Ym,hr];simp only
 have hu:=(h.up i r hr).2;rw [Xbs h i ((at0 l r.parent).toNat+1) _ (by omega) (by omega)]
def Xj8 (l:List Rec) (name:List UInt8):List Rec:=l.filter fun r=>decide (name≠[]) && decide (r.parent=name)
def X1y (l:List Rec) (name:List UInt8):List (List UInt8):=(Xj8 l name).map Rec.name
def Xk (l:List Rec):Nat→List UInt8→List (List UInt8)
 | 0,_=>[]
 | f+1,name=>name::(X1y l name).flatMap (Xk l f)
def below (l:List Rec) (name:List UInt8):List (List UInt8):=if 0≤at0 l name then Xk l l.length name else []
def drop (l:List Rec) (name:List UInt8):List Rec:=l.filter fun r=>!(below l name).contains r.name
def X24 {α:Type} (pr:α→Bool):List α→Nat→Int
 | [],_=>-1
 | s::r,i=>if pr s then (i:Int) else X24 pr r (i+1)
theorem X6m {α:Type} (pr:α→Bool):∀ (n:Nat) (r:List α) (i:Nat),(∀ (j:Nat) s,j<n→r[j]?=some s→pr s=false)→X24 pr r i=X24 pr (r.drop n) (i+min n r.length)
 | 0,r,i,_=>by simp
 | n+1,[],i,_=>by simp [X24]
 | n+1,s::r,i,h=>by
  rw [X24,if_neg (by rw [h 0 s (by omega) rfl]; decide),X6m pr n r (i+1) (fun j t hj ht=>h (j+1) t (by omega) (by simpa using ht)),Y7,Y8]
  congr 1
  omega
theorem X5f {α:Type} {pr:α→Bool} {l:List α} {i:Nat} {s:α} (h:∀ (j:Nat) t,j<i→l[j]?=some t→pr t=false) (hs:l[i]?=some s) (hp:pr s=true):X24 pr l 0=(i:Int):=by
 have hi:=(Y5.1 hs).1;rw [X6m pr i l 0 h,Yd,Y3h (by omega),Y1f hi,(Y5.1 hs).2,X24,if_pos hp]
theorem X3z {α:Type} {pr:α→Bool} {l:List α} (h:∀ (j:Nat) t,l[j]?=some t→pr t=false):X24 pr l 0=-1:=by
 rw [X6m pr l.length l 0 (fun j t _ ht=>h j t ht),Y3a];rfl
theorem X7x {α:Type} (pr:α→Bool):∀ (l:List α) (i:Nat),decide (0≤X24 pr l i)=l.any pr
 | [],i=>rfl
 | s::r,i=>by
  rw [X24,Y4y];split
  ·rename_i h
   rw [h,Bool.true_or,decide_eq_true_eq]; omega
  ·rename_i h
   rw [Y4t.2 h,Y38,X7x pr r (i+1)]
theorem X8x (name:List UInt8):∀ (l:List Rec) (i:Nat),X24 (fun r=>decide (r.name=name)) l i=atN name l i
 | [],i=>rfl
 | s::r,i=>by
  rw [X24,atN,X8x name r (i+1)];simp only [decide_eq_true_eq]
def getD (l:List Rec) (name:List UInt8):Rec:=(get l name).getD r0
end Tr
section
open Go Go.Proofs Gk
abbrev Cz (f : FuncId) (l : List Value) (w : World) (Q : Value → World → Prop) : Prop := Calls Tryz.prog f l.toArray w (Ret Q)
theorem Cz.mono {f : FuncId} {l : List Value} {w : World} {Q : Value → World → Prop} {R : Ending → World → Prop} (h : Cz f l w Q) (k : ∀ e w', Ret Q e w' → R e w') : Calls Tryz.prog f l.toArray w R := Calls.mono h k
end
section
open Go.Proofs
abbrev Xov:=@Tryz.func109
abbrev Xcp:=@Tryz.func128
abbrev Xpc:=@Tryz.func129
abbrev Qf13:=@Tryz.func13
abbrev Xqg:=@Tryz.func134
abbrev Xp6:=@Tryz.func138
abbrev Xu6:=@Tryz.func15
abbrev Xp8:=@Tryz.func151
abbrev Xo2:=@Tryz.func152
abbrev Qf16:=@Tryz.func16
abbrev Xk6:=@Tryz.func161
abbrev Xou:=@Tryz.func165
abbrev Qf175:=@Tryz.func175
abbrev Qf179:=@Tryz.func179
abbrev Xml:=@Tryz.func191
abbrev Qf20:=@Tryz.func20
abbrev Xpe:=@Tryz.func200
abbrev Xjf:=@Tryz.func201
abbrev Xqr:=@Tryz.func206
abbrev Xqd:=@Tryz.func207
abbrev Qf209:=@Tryz.func209
abbrev Qf210:=@Tryz.func210
abbrev Qf211:=@Tryz.func211
abbrev Qf213:=@Tryz.func213
abbrev X7v:=@Tryz.func223
abbrev Xo6:=@Tryz.func226
abbrev Qf23:=@Tryz.func23
abbrev Xoe:=@Tryz.func232
abbrev Qf234:=@Tryz.func234
abbrev Xkv:=@Tryz.func245
abbrev Xlg:=@Tryz.func246
abbrev Xpx:=@Tryz.func253
abbrev Qf33:=@Tryz.func33
abbrev Qf34:=@Tryz.func34
abbrev Xtj:=@Tryz.func44
abbrev Qf50:=@Tryz.func50
abbrev Qf52:=@Tryz.func52
abbrev Xrm:=@Tryz.func54
abbrev Qf58:=@Tryz.func58
abbrev Qf59:=@Tryz.func59
abbrev Qf71:=@Tryz.func71
abbrev Qf73:=@Tryz.func73
abbrev Qf85:=@Tryz.func85
abbrev Qf86:=@Tryz.func86
abbrev Qf90:=@Tryz.func90
abbrev Qg0:=@Tryz.isAgg0
abbrev Xkw:=@Tryz.isAgg157
abbrev Xeu:=@Tryz.isAgg160
abbrev X38:=@Tryz.isAgg168
abbrev Xgk:=@Tryz.isAgg172
abbrev Xqy:=@Tryz.isAgg178
abbrev Qg21:=@Tryz.isAgg21
abbrev Qg22:=@Tryz.isAgg22
abbrev X7t:=@Tryz.isAgg233
abbrev Xgy:=@Tryz.isAgg242
abbrev Xmb:=@Tryz.isAgg253
abbrev Xth:=@Tryz.isAgg26
abbrev Qg27:=@Tryz.isAgg27
abbrev Xrc:=@Tryz.isAgg29
abbrev Qg3:=@Tryz.isAgg3
abbrev X5v:=@Tryz.isAgg30
abbrev Xjx:=@Tryz.isAgg31
abbrev Xna:=@Tryz.isAgg37
abbrev Xdt:=@Tryz.isAgg39
abbrev Qg4:=@Tryz.isAgg4
abbrev Qg40:=@Tryz.isAgg40
abbrev Xc6:=@Tryz.isAgg48
abbrev Qg49:=@Tryz.isAgg49
abbrev Qg5:=@Tryz.isAgg5
abbrev X3e:=@Tryz.isAgg54
abbrev Xkb:=@Tryz.isAgg57
abbrev Xfm:=@Tryz.isAgg59
abbrev X5i:=@Tryz.isAgg63
abbrev Xds:=@Tryz.isAgg81
abbrev Qg9:=@Tryz.isAgg9
abbrev Xnq:=@Tryz.isAgg95
abbrev Xsr:=@Tryz.results101
abbrev Xpr:=@Tryz.results103
abbrev Xqo:=@Tryz.results114
abbrev Xfp:=@Tryz.results125
abbrev Xu8:=@Tryz.results126
abbrev Xul:=@Tryz.results127
abbrev Xg2:=@Tryz.results129
abbrev Qr13:=@Tryz.results13
abbrev Xsw:=@Tryz.results145
abbrev Xmc:=@Tryz.results147
abbrev Xtn:=@Tryz.results155
abbrev Qr16:=@Tryz.results16
abbrev Xsf:=@Tryz.results167
abbrev Xfk:=@Tryz.results169
abbrev Xno:=@Tryz.results17
abbrev Xqt:=@Tryz.results173
abbrev Xoo:=@Tryz.results175
abbrev Xgj:=@Tryz.results189
abbrev Xry:=@Tryz.results192
abbrev Xp1:=@Tryz.results199
abbrev Qr20:=@Tryz.results20
abbrev Xh8:=@Tryz.results200
abbrev Xuh:=@Tryz.results201
abbrev Xn9:=@Tryz.results202
abbrev Xnw:=@Tryz.results224
abbrev Xrx:=@Tryz.results231
abbrev Xpg:=@Tryz.results246
abbrev Qr25:=@Tryz.results25
abbrev Qr28:=@Tryz.results28
abbrev Qr32:=@Tryz.results32
abbrev Xr0:=@Tryz.results38
abbrev Qr47:=@Tryz.results47
abbrev Qr48:=@Tryz.results48
abbrev Qr50:=@Tryz.results50
abbrev Qr51:=@Tryz.results51
abbrev Qr64:=@Tryz.results64
abbrev Qr66:=@Tryz.results66
abbrev Qr67:=@Tryz.results67
abbrev Xtc:=@Tryz.results70
abbrev Qr79:=@Tryz.results79
abbrev Qr91:=@Tryz.results91
abbrev Qs0:=@Tryz.sizeOf0
abbrev X8t:=@Tryz.sizeOf101
abbrev Xha:=@Tryz.sizeOf104
abbrev Xft:=@Tryz.sizeOf157
abbrev X3j:=@Tryz.sizeOf160
abbrev X15:=@Tryz.sizeOf168
abbrev Xa9:=@Tryz.sizeOf172
abbrev X5z:=@Tryz.sizeOf178
abbrev Qs21:=@Tryz.sizeOf21
abbrev Qs22:=@Tryz.sizeOf22
abbrev X6g:=@Tryz.sizeOf233
abbrev Xam:=@Tryz.sizeOf238
abbrev Xdu:=@Tryz.sizeOf24
abbrev X4x:=@Tryz.sizeOf242
abbrev Xlr:=@Tryz.sizeOf243
abbrev Xl0:=@Tryz.sizeOf253
abbrev Xka:=@Tryz.sizeOf26
abbrev Xns:=@Tryz.sizeOf27
abbrev Xjw:=@Tryz.sizeOf29
abbrev Qs3:=@Tryz.sizeOf3
abbrev X2y:=@Tryz.sizeOf30
abbrev Xb8:=@Tryz.sizeOf31
abbrev Xti:=@Tryz.sizeOf35
abbrev Xfo:=@Tryz.sizeOf39
abbrev Qs4:=@Tryz.sizeOf4
abbrev Qs40:=@Tryz.sizeOf40
abbrev X4n:=@Tryz.sizeOf48
abbrev Qs49:=@Tryz.sizeOf49
abbrev Qs5:=@Tryz.sizeOf5
abbrev Xu:=@Tryz.sizeOf54
abbrev Xk0:=@Tryz.sizeOf57
abbrev X2b:=@Tryz.sizeOf59
abbrev X20:=@Tryz.sizeOf63
abbrev Xdv:=@Tryz.sizeOf81
abbrev Qs9:=@Tryz.sizeOf9
abbrev Xkc:=@Tryz.sizeOf95
abbrev Qu0:=@Tryz.underlying0
abbrev Xa2:=@Tryz.underlying101
abbrev Xay:=@Tryz.underlying104
abbrev Xfe:=@Tryz.underlying111
abbrev X6j:=@Tryz.underlying114
abbrev X81:=@Tryz.underlying157
abbrev Xk9:=@Tryz.underlying160
abbrev Xhf:=@Tryz.underlying162
abbrev X61:=@Tryz.underlying167
abbrev Xd:=@Tryz.underlying168
abbrev X30:=@Tryz.underlying170
abbrev X25:=@Tryz.underlying172
abbrev X2l:=@Tryz.underlying178
abbrev Xss:=@Tryz.underlying193
abbrev Qu21:=@Tryz.underlying21
abbrev X7d:=@Tryz.underlying22
abbrev Xfy:=@Tryz.underlying23
abbrev X84:=@Tryz.underlying233
abbrev Xfz:=@Tryz.underlying235
abbrev X6l:=@Tryz.underlying238
abbrev Xoj:=@Tryz.underlying239
abbrev Xdf:=@Tryz.underlying24
abbrev X29:=@Tryz.underlying242
abbrev Xmk:=@Tryz.underlying243
abbrev X8u:=@Tryz.underlying245
abbrev X7z:=@Tryz.underlying253
abbrev Xq8:=@Tryz.underlying258
abbrev Xca:=@Tryz.underlying26
abbrev X1x:=@Tryz.underlying267
abbrev Qu27:=@Tryz.underlying27
abbrev Xui:=@Tryz.underlying275
abbrev Xe2:=@Tryz.underlying29
abbrev Qu3:=@Tryz.underlying3
abbrev X1p:=@Tryz.underlying30
abbrev Xfn:=@Tryz.underlying31
abbrev Xcn:=@Tryz.underlying35
abbrev Xrh:=@Tryz.underlying36
abbrev Qu37:=@Tryz.underlying37
abbrev Qu4:=@Tryz.underlying4
abbrev X69:=@Tryz.underlying44
abbrev Xdw:=@Tryz.underlying48
abbrev Qu5:=@Tryz.underlying5
abbrev Xr:=@Tryz.underlying54
abbrev X19:=@Tryz.underlying57
abbrev X5r:=@Tryz.underlying59
abbrev X3y:=@Tryz.underlying63
abbrev Qu77:=@Tryz.underlying77
abbrev X4m:=@Tryz.underlying83
abbrev Qu9:=@Tryz.underlying9
abbrev X79:=@Tryz.underlying90
abbrev Xex:=@Tryz.underlying95
abbrev Qz0:=@Tryz.zeroValue0
abbrev Xlx:=@Tryz.zeroValue101
abbrev Xs3:=@Tryz.zeroValue104
abbrev Xit:=@Tryz.zeroValue160
abbrev Xp5:=@Tryz.zeroValue168
abbrev Xru:=@Tryz.zeroValue178
abbrev Qz21:=@Tryz.zeroValue21
abbrev Xq5:=@Tryz.zeroValue238
abbrev Xky:=@Tryz.zeroValue253
abbrev Qz27:=@Tryz.zeroValue27
abbrev Xtf:=@Tryz.zeroValue275
abbrev Qz3:=@Tryz.zeroValue3
abbrev Qz4:=@Tryz.zeroValue4
abbrev Xrl:=@Tryz.zeroValue48
abbrev Qz5:=@Tryz.zeroValue5
abbrev X5t:=@Tryz.zeroValue54
abbrev Qz57:=@Tryz.zeroValue57
abbrev Xj3:=@Tryz.zeroValue59
abbrev Xms:=@Tryz.zeroValue63
abbrev Qz9:=@Tryz.zeroValue9
end
namespace Go.Proofs.YtfibbpgikjggfaaGreatDoor
open Gk Pc
theorem X8l (c:UInt8) (w:World) :
  Cz 185 [U8 c.toNat] w fun v w'=>v=I64 (X3d c)∧w=w':=by
 obtain ⟨w0,hw0⟩:∃ w0,w=w0:=⟨_,rfl⟩
 rw [show (fun (v:Value) (w':World)=>v=I64 (X3d c)∧w=w')=(fun v w'=>v=I64 (X3d c)∧w0=w') by rw [hw0]];refine calls Tryz.func185 rfl Tryz.ntmps185 rfl (.seq (.q 1 rfl (.seq (.q 1 rfl (.seq (.q 1 rfl (.seq (.seq (.q 1 rfl (.block (.loop (σ:=Nat) (fun i=>[(0,U8 c.toNat),(3,S LOW),(4,S HIGH),(5,I64 (i:Nat))]) (fun i w=>i≤16∧(∀ j,j<i→LOW.getD j 0≠c∧HIGH.getD j 0≠c)∧w=w0) (fun i=>16 - i) 0 ⟨rfl,rfl,rfl,rfl,trivial⟩ ⟨by decide,fun _ h=>absurd h (by omega),hw0⟩ ?_)))))))))));rintro i w ⟨hi,hno,hw⟩;have hLW:LOW.length=16:=rfl;have hHI:HIGH.length=16:=rfl;refine .seq (.seq (.q 2 rfl ?_));refine .cond rfl (fun hb7=>?_) fun hb7=>?_
 ·have hc7:=hb7; simp only [Y6] at hc7;refine .skip (.seq (.block (.seq (.t 2 rfl (.val (.index8 (l:=LOW) (i:=(i:Int)) (.of rfl) (.of rfl) (by omega) (by omega) Qu9) rfl (.q 3 rfl (.gm rfl rfl rfl rfl (.gm rfl rfl rfl rfl (.gval rfl rfl (fun hg1=>.index8 (l:=HIGH) (i:=(i:Int)) (.gd hg1 rfl) (.gd hg1 rfl) (by omega) (by omega) Qu9) rfl (.gm rfl rfl rfl rfl (.gval rfl rfl (fun hg1=>(.eql (.gd hg1 rfl) (.gd hg1 rfl))) rfl (.val (.po rfl rfl rfl) rfl (.nil ?_)))))))))))));refine .cond rfl (fun hb21=>?_) fun hb21=>?_
  ·have hc21:=hb21; simp only [Y6] at hc21;refine .seq (.q 2 rfl (.ret (X9 Tryz.results185 rfl ?_)));refine ⟨_,rfl,?_,hw.symm⟩;rw [Xsl (c:=c) (i:=i) (by omega)];simp only [Y1j,beq_iff_eq,at_,Ym] at hb21
   rcases hb21 with h | h
   ·exact .inl (Y19.1 (by omega))
   ·exact .inr (Y19.1 (by omega))
  have hc21:=hb21; simp only [Y6] at hc21;refine .skip (.region (.run 3 rfl ⟨⟨by omega,by omega⟩,trivial⟩ (.nil ?_)));refine ⟨i+1,⟨rfl,rfl,rfl,rfl,trivial⟩,⟨by omega,fun j hj=>?_,hw⟩,by omega⟩;rcases Yr j i with h1 | h1
  ·exact hno j h1
  ·have e:j=i:=by omega
   subst e;simp only [Y15,beq_eq_false_iff_ne,at_,Ym] at hb21
   exact ⟨fun e=>hb21.1 (by rw [e]),fun e=>hb21.2 (by rw [e])⟩
 have hc7:=hb7; simp only [Y6] at hc7;refine .exit (.seq (.q 1 rfl (.ret (X9 Tryz.results185 rfl ?_))));exact ⟨_,rfl,by rw [Xpn (fun j hj=>hno j (by omega))],hw.symm⟩
theorem X8p (c:UInt8) (w:World) :
  Cz 163 [U8 c.toNat] w fun v w'=>v=.bool (plain c)∧w=w':=by
 obtain ⟨w0,hw0⟩:∃ w0,w=w0:=⟨_,rfl⟩
 rw [show (fun (v:Value) (w':World)=>v=.bool (plain c)∧w=w')=(fun v w'=>v=.bool (plain c)∧w0=w') by rw [hw0]];refine calls Tryz.func163 rfl Tryz.ntmps163 rfl (.seq (.q 1 rfl (.seq (.q 1 rfl (.seq (.seq (.q 1 rfl (.block (.loop (σ:=Nat) (fun i=>[(0,U8 c.toNat),(3,S PLAINS),(4,I64 (i:Nat))]) (fun i w=>i≤66∧(∀ j,j<i→PLAINS.getD j 0≠c)∧w=w0) (fun i=>66 - i) 0 ⟨rfl,rfl,rfl,trivial⟩ ⟨by decide,fun _ h=>absurd h (by omega),hw0⟩ ?_)))))))));rintro i w ⟨hi,hno,hw⟩;have hPL:PLAINS.length=66:=rfl;refine .seq (.seq (.t 2 rfl (.val (.len (l:=PLAINS) (.of rfl) Qu9) rfl (.q 1 rfl (.nil ?_)))));refine .cond rfl (fun hb8=>?_) fun hb8=>?_
 ·have hc8:=hb8; simp only [Y6] at hc8;refine .skip (.seq (.block (.seq (.t 2 rfl (.val (.index8 (l:=PLAINS) (i:=(i:Int)) (.of rfl) (.of rfl) (by omega) (by omega) Qu9) rfl (.q 2 rfl (.nil ?_)))))));refine .cond rfl (fun hb15=>?_) fun hb15=>?_
  ·have hc15:=hb15; simp only [Y6] at hc15;refine .seq (.q 1 rfl (.ret (X9 Tryz.results163 rfl ?_)));refine ⟨_,rfl,?_,hw.symm⟩;rw [show plain c=true by
    rw [Xfi,Y2f];simp only [beq_iff_eq,at_,Ym] at hb15
    have e:PLAINS.getD i 0=c:=Y19.1 (by omega);have hm:c∈PLAINS:=by
     rw [← e,Yc,Y4 (by omega)];exact Y2t _
    exact hm]
  have hc15:=hb15; simp only [Y6] at hc15;refine .skip (.region (.run 3 rfl ⟨⟨by omega,by omega⟩,trivial⟩ (.nil ?_)));refine ⟨i+1,⟨rfl,rfl,rfl,trivial⟩,⟨by omega,fun j hj=>?_,hw⟩,by omega⟩;rcases Yr j i with h1 | h1
  ·exact hno j h1
  ·have e:j=i:=by omega
   subst e;simp only [beq_eq_false_iff_ne,at_,Ym] at hb15
   exact fun e=>hb15 (by rw [e])
 have hc8:=hb8; simp only [Y6] at hc8;refine .exit (.seq (.q 1 rfl (.ret (X9 Tryz.results163 rfl ?_))));refine ⟨_,rfl,?_,hw.symm⟩;rw [show plain c=false by
  rw [Xfi,← Y1g,Y2f];intro hm;obtain ⟨j,hj,e⟩:=Y49.1 (show c∈PLAINS from hm);refine hno j (by omega) ?_;rw [Yc,Y4 hj,← e]; rfl]
theorem X67 (c:UInt8) (B w:World) (I:Im) (As:List X7) (hS:Sat B w I As) :
  Cz 164 [U8 c.toNat] w fun v w'=>v=S (Xbf c)∧Sat B w' I As:=by
 refine calls Tryz.func164 rfl Tryz.ntmps164 rfl (.seq (.q 1 rfl (.seq (.q 1 rfl (.seq ?_)))));have hHI:HIGH.length=16:=rfl;have hc:=c.toNat_lt;refine .quiet (by kernel_rfl) (by kernel_rfl) hS (.val (fun w hS=>(.mo rfl)) rfl (.val (fun w hS=>(.mo rfl)) rfl ?_));refine .val (fun w hS=>.quo (.of rfl) (.of rfl) (by omega) (by omega) (by rw [IntKind.wrap_u8]; omega)) rfl (.val (fun w hS=>(.mo rfl)) rfl (.val (fun w hS=>.quo (.of rfl) (.of rfl) (by omega) (by omega) (by rw [IntKind.wrap_u8]; omega)) rfl (.val (fun w hS=>.addx (.of rfl) (.of rfl) (by rw [IntKind.wrap_u8]; omega)) rfl (.val (fun w hS=>.sub3k (l:=HIGH) (.of rfl) (.of rfl) (.of rfl) (by omega) (by omega) (by omega) Qu9) rfl (.val (fun w hS=>.cat (l:=[37]) (.of rfl) (.of rfl) (by simp only [Y0,Yt,Yp,Y8,Yj]; omega)) rfl (.val (fun w hS=>(.mo rfl)) rfl (.val (fun w hS=>(.mo rfl)) rfl (.val (fun w hS=>(.rem (.of rfl) (.of rfl) (by omega) (by omega))) rfl (.val (fun w hS=>(.mo rfl)) rfl (.val (fun w hS=>(.rem (.of rfl) (.of rfl) (by omega) (by omega))) rfl ?_))))))))));refine .val (fun w hS=>.addx (.of rfl) (.of rfl) (by rw [IntKind.wrap_u8]; omega)) rfl (.val (fun w hS=>.sub3k (l:=HIGH) (.of rfl) (.of rfl) (.of rfl) (by omega) (by omega) (by omega) Qu9) rfl (.val (fun w hS=>.cat (.of rfl) (.of rfl) (by simp only [Y0,Yt,Yp,Y8,Yj]; omega)) rfl (.val (fun w hS=>(.ao rfl)) rfl (.nil ?_))));intro w hS;refine .ret (X9 Tryz.results164 rfl ?_);refine ⟨_,rfl,?_,hS⟩;rw [← pct_of c];have e1:((c.toNat:Int) / 16).toNat=c.toNat / 16:=by omega
 have e2:((c.toNat:Int) % 16).toNat=c.toNat % 16:=by omega
 have e3:((c.toNat:Int) / 16+1).toNat - c.toNat / 16=1:=by omega
 have e4:((c.toNat:Int) % 16+1).toNat - c.toNat % 16=1:=by omega
 rw [e1,e2,e3,e4]
theorem Xg9 (s:List UInt8) (i:Int) (h0:0≤i) (h1:i≤9223372036854775800) (w:World) :
  Cz 145 [S s,I64 i] w fun v w'=>v=I64 (if (s.length:Int)≤i+2 then -1 else if X3d (at_ s (i+1))<0∨X3d (at_ s (i+2))<0 then -1 else 16*X3d (at_ s (i+1))+X3d (at_ s (i+2)))∧w=w':=by
 refine calls Tryz.func145 rfl Tryz.ntmps145 rfl (.seq (.q 1 rfl (.seq (.seq (.region (.run 5 rfl ⟨⟨by omega,by omega⟩,Qu9,trivial⟩ (.nil ?_)))))));refine .cond rfl (fun hb11=>?_) fun hb11=>?_
 ·have hc11:=hb11; simp only [Y6] at hc11;refine .seq (.q 1 rfl (.ret (X9 Xsw rfl ?_)));exact ⟨_,rfl,by rw [if_pos hc11],rfl⟩
 have hc11:=hb11; simp only [Y6] at hc11;refine .skip (.seq (.region (.run 4 rfl ⟨⟨by omega,by omega⟩,⟨⟨by omega,by omega⟩,Qu9⟩,trivial⟩ (.call Tryz.func185 rfl (ec9 rfl X0) rfl (X8l _ _) ?_))));rintro _ _ ⟨rfl,rfl⟩;refine .q 1 rfl (.nil (.seq (.region (.run 4 rfl ⟨⟨by omega,by omega⟩,⟨⟨by omega,by omega⟩,Qu9⟩,trivial⟩ (.call Tryz.func185 rfl (ec9 rfl X0) rfl (X8l _ _) ?_)))));rintro _ _ ⟨rfl,rfl⟩;refine .q 1 rfl (.nil (.seq (.seq (.t 3 rfl (.gm rfl rfl rfl rfl (.gval rfl rfl (fun hg1=>(.lss (.gd hg1 rfl) (.of rfl))) rfl (.val (.po rfl rfl rfl) rfl (.nil ?_))))))));refine .cond rfl (fun hb27=>?_) fun hb27=>?_
 ·have hc27:=hb27; simp only [Y6] at hc27;refine .seq (.q 1 rfl (.ret (X9 Xsw rfl ?_)));exact ⟨_,rfl,by rw [if_neg (by omega),if_pos hc27],rfl⟩
 have hc27:=hb27; simp only [Y6] at hc27;refine .skip (.seq ?_);have hr1:=X21 (at_ s (i+1));have hr2:=X21 (at_ s (i+2));refine .region (.run 5 rfl ⟨⟨by omega,by omega⟩,⟨by omega,by omega⟩,trivial⟩ (.nil (.ret (X9 Xsw rfl ?_))));exact ⟨_,rfl,by rw [if_neg (by omega),if_neg (by omega)],rfl⟩
theorem Xs2 (s:List UInt8) (i:Nat):(if (s.length:Int)≤(i:Int)+2 then (-1:Int) else if X3d (at_ s ((i:Int)+1))<0∨X3d (at_ s ((i:Int)+2))<0 then -1 else 16*X3d (at_ s ((i:Int)+1))+X3d (at_ s ((i:Int)+2)))=match told (s.drop (i+1)) with | none=>-1 | some v=>(v.toNat:Int):=by
 by_cases h:s.length≤i+2
 ·rw [if_pos (by omega)]
  have:told (s.drop (i+1))=none:=by
   have hl:(s.drop (i+1)).length≤1:=by rw [Yp]; omega
   match s.drop (i+1),hl with
   | [],_=>rfl
   | [_],_=>rfl
  rw [this]
 ·rw [if_neg (by omega)];have e1:s.drop (i+1)=at_ s ((i:Int)+1)::at_ s ((i:Int)+2)::s.drop (i+3):=by
   rw [X8 s (show i+1<s.length by omega),X8 s (show i+1+1<s.length by omega)];rfl
  rw [e1];simp only [told]
  split
  ·rfl
  ·rename_i hn
   have hn1:=X21 (at_ s ((i:Int)+1));have hn2:=X21 (at_ s ((i:Int)+2));exact (X8m _ _ (by omega) (by omega)).symm
set_option maxHeartbeats 400000 in
theorem Xce (s:List UInt8) (hl:s.length≤1000000) (B w:World) (I:Im) (As:List X7) (hS:Sat B w I As) :
  Cz 120 [S s] w fun v w'=>v=(match X3x s with | none=>.tuple #[S [],I64 11] | some t=>.tuple #[S t,I64 0])∧Sat B w' I As:=by
 refine calls Tryz.func120 rfl Tryz.ntmps120 rfl (.seq (.q 2 rfl (.seq (.q 1 rfl (.seq (.seq (.q 1 rfl (.block (.loop (σ:=List UInt8×Nat) (fun ⟨out,i⟩=>[(0,S s),(4,S out),(5,I64 (i:Nat))]) (fun ⟨out,i⟩ w=>i≤s.length∧out.length+(s.length - i)*3≤s.length*3∧X3x s=(X3x (s.drop i)).map (out ++ ·)∧Sat B w I As) (fun ⟨out,i⟩=>s.length - i) ([],0) ⟨rfl,rfl,rfl,trivial⟩ ⟨Yo _,by simp,by simp,hS⟩ ?_)))))))));rintro ⟨out,i⟩ w ⟨hi,hol,hno,hS⟩;refine .seq (.seq (.region (.run 4 rfl ⟨Qu9,trivial⟩ (.nil ?_))));refine .cond rfl (fun hb11=>?_) fun hb11=>?_
 ·have hc11:=hb11; try simp only [Y6] at hc11
  refine .skip (.seq (.block (.seq (.seq (.region (.run 4 rfl ⟨⟨⟨by omega,by omega⟩,Qu9⟩,trivial⟩ (.nil ?_)))))));refine .cond rfl (fun hb17=>?_) fun hb17=>?_
  ·have hc17:=hb17; try simp only [Y6] at hc17
   refine .seq (.region (.run 5 rfl ⟨⟨by omega,by omega⟩,trivial⟩ (.val (.sub3 (l:=s) (i:=(i:Int)) (j:=(i:Int)+1) (.of rfl) (.of rfl) (.of rfl) (by omega) (by omega) (by omega) Qu9) rfl ?_)));rw [show (s.drop (i:Int).toNat).take (((i:Int)+1).toNat - (i:Int).toNat)=[at_ s (i:Int)] by rw [Ym,show ((i:Int)+1).toNat - i=1 by omega,X8 s (by omega)]; rfl];refine .val (.cat (.of rfl) (.of rfl) (by simp only [Y8,Yj]; omega)) rfl (.q 1 rfl (.nil (.exit (.region (.run 3 rfl ⟨⟨by omega,by omega⟩,trivial⟩ (.nil ?_))))));have e37:at_ s (i:Int)≠37:=fun e=>by rw [e] at hb17; simp at hb17
   refine ⟨(out ++ [at_ s (i:Int)],i+1),⟨rfl,rfl,rfl,trivial⟩,⟨by (try dsimp only); omega,by (try dsimp only); rw [Y0]; simp only [Y8,Yj]; omega,?_,hS⟩,by (try dsimp only); omega⟩;rw [hno,X8 s (by omega),X1n,if_neg e37];cases X3x (s.drop (i+1)) <;> simp
  have hc17:=hb17; try simp only [Y6] at hc17
  refine .skip (.seq (.t 2 rfl (.call Tryz.func145 rfl (ec9 rfl (ec9 rfl X0)) rfl (Xg9 s (i:Int) (by omega) (by omega) _) ?_)));rintro _ _ ⟨rfl,rfl⟩;rw [Xs2];refine .q 1 rfl (.nil (.seq (.seq (.q 2 rfl ?_))));refine .cond rfl (fun hb29=>?_) fun hb29=>?_
  ·have hc29:=hb29; try simp only [Y6] at hc29
   refine .seq (.q 2 rfl (.ret (X1e Tryz.results120 rfl rfl ?_)));refine ⟨_,rfl,?_,hS⟩;have e37:at_ s (i:Int)=37:=Y19.1 (by simp only [bne_eq_false_iff_eq] at hb17; show (at_ s (i:Int)).toNat=37; omega);have ht:told (s.drop (i+1))=none:=by
    cases ht:told (s.drop (i+1)) with
    | none=>rfl
    | some v=>rw [ht] at hc29; simp at hc29; omega
   have:X3x s=none:=by rw [hno,X8 s (by omega),X1n,if_pos e37,ht]; rfl
   rw [this]
  have hc29:=hb29; try simp only [Y6] at hc29
  refine .skip (.seq ?_);have e37:at_ s (i:Int)=37:=Y19.1 (by simp only [bne_eq_false_iff_eq] at hb17; show (at_ s (i:Int)).toNat=37; omega);obtain ⟨v,hv⟩:∃ v,told (s.drop (i+1))=some v:=by
   cases ht:told (s.drop (i+1)) with
   | some v=>exact ⟨v,rfl⟩
   | none=>rw [ht] at hc29; simp at hc29
  rw [hv];try dsimp only
  have hvl:=X3g hv;rw [Yp] at hvl;have hv8:=v.toNat_lt;refine .t 1 rfl (.val (.cvi (.of rfl) Qu3 Qu5 (by rw [IntKind.wrap_u8]; omega)) rfl (.call Tryz.func163 rfl (ec9 rfl X0) rfl (X8p v _) ?_));rintro _ _ ⟨rfl,rfl⟩;refine .q 1 rfl (.nil (.seq (.seq (.q 1 rfl ?_))));refine .cond rfl (fun hb33=>?_) fun hb33=>?_
  ·have hc33:=hb33; try simp only [Y6] at hc33
   have hpl:plain v=true:=hb33;refine .t 2 rfl (.val (.cvi (.of rfl) Qu3 Qu5 (by rw [IntKind.wrap_u8]; omega)) rfl (.buildSlice (cs:=[_]) hS (pc9 rfl X4) X25 Qs5 Qz5 rfl rfl rfl rfl ?_));clear hS; intro b37 w hS;refine .val (.str1 (c:=v) (.of rfl) hS (k:=0) rfl rfl X25 Qu5 Qu9) rfl ?_;replace hS:=hS.drop (k:=0) rfl;refine .val (.cat (.of rfl) (.of rfl) (by simp only [Y8,Yj]; omega)) rfl (.q 1 rfl (.nil (.region (.run 3 rfl ⟨⟨by omega,by omega⟩,trivial⟩ (.nil (.region (.run 3 rfl ⟨⟨by omega,by omega⟩,trivial⟩ (.nil ?_))))))));refine ⟨(out ++ one v,i+3),⟨rfl,by rw [one,if_pos hpl]; rfl,rfl,trivial⟩,⟨by (try dsimp only); omega,by (try dsimp only); rw [Y0]; have:(one v).length≤3:=(by unfold one; split <;> simp [Xbf]); omega,?_,hS⟩,by (try dsimp only); omega⟩;rw [hno,X8 s (by omega),X1n,if_pos e37,hv];simp only [Y1m]
   cases X3x (s.drop (i+3)) <;> simp [Yf,Y3j]
  have hc33:=hb33; try simp only [Y6] at hc33
  have hpl:plain v=false:=hb33;refine .t 2 rfl (.val (.cvi (.of rfl) Qu3 Qu5 (by rw [IntKind.wrap_u8]; omega)) rfl (.call Tryz.func164 rfl (ec9 rfl X0) rfl (X67 v B w I _ hS) ?_));clear hS;rintro _ w ⟨rfl,hS⟩;refine .val (.cat (.of rfl) (.of rfl) (by simp only [Xbf,Y8,Yj]; omega)) rfl (.q 1 rfl (.nil (.region (.run 3 rfl ⟨⟨by omega,by omega⟩,trivial⟩ (.nil (.region (.run 3 rfl ⟨⟨by omega,by omega⟩,trivial⟩ (.nil ?_))))))));refine ⟨(out ++ one v,i+3),⟨rfl,by rw [one,if_neg (by rw [hpl]; simp)]; rfl,rfl,trivial⟩,⟨by (try dsimp only); omega,by (try dsimp only); rw [Y0]; have:(one v).length≤3:=(by unfold one; split <;> simp [Xbf]); omega,?_,hS⟩,by (try dsimp only); omega⟩;rw [hno,X8 s (by omega),X1n,if_pos e37,hv];simp only [Y1m]
  cases X3x (s.drop (i+3)) <;> simp [Yf,Y3j]
 have hc11:=hb11; try simp only [Y6] at hc11
 refine .exit (.seq (.q 3 rfl (.ret (X1e Tryz.results120 rfl rfl ?_))));refine ⟨_,rfl,?_,hS⟩
 have:X3x s=some out:=by rw [hno,Y17 (by omega),X5g]; simp
 rw [this]
end Go.Proofs.YtfibbpgikjggfaaGreatDoor
namespace Go.Proofs.YtfibbpgikjggfaaGreatDoor
open Gk Pc
theorem X98:Tryz.prog.info? 5=some Tryz.t5:=by kernel_rfl
theorem X6o:Tryz.prog.info? 245=some Tryz.t245:=by kernel_rfl
def DigAt (I:Im):Prop:=At I (ad 2 0) (bcs HIGH)
theorem DigAt.mono {I J:Im} (h:DigAt I) (hl:Le I J):DigAt J:=At.mono h hl
theorem Xm0 (c:UInt8):((((((decide (97≤(c.toNat:Int)) && decide ((c.toNat:Int)≤122)) || (decide (65≤(c.toNat:Int)) && decide ((c.toNat:Int)≤90))) || (decide (48≤(c.toNat:Int)) && decide ((c.toNat:Int)≤57))) || ((c.toNat:Int) == 45)) || ((c.toNat:Int) == 46)) || ((c.toNat:Int) == 95) || ((c.toNat:Int) == 126))=plain c :=
 eq_of_beq (Xw (p:=fun c=>((((((decide (97≤(c.toNat:Int)) && decide ((c.toNat:Int)≤122)) || (decide (65≤(c.toNat:Int)) && decide ((c.toNat:Int)≤90))) || (decide (48≤(c.toNat:Int)) && decide ((c.toNat:Int)≤57))) || ((c.toNat:Int) == 45)) || ((c.toNat:Int) == 46)) || ((c.toNat:Int) == 95) || ((c.toNat:Int) == 126)) == plain c) (by decide +kernel) c)
theorem Xl2 {n:Nat} (h:n<16):(bcs HIGH)[n]?=some (U8 (hexd n).toNat):=by
 have:∀ n:Fin 16,HIGH[n.val]?=some (hexd n.val):=by decide +kernel
 rw [Yy,this ⟨n,h⟩]; rfl
theorem shr4 (c:UInt8):((c.toNat:Int) / 2 ^ (4:Int).toNat)=((c.toNat / 16:Nat):Int):=by
 show (c.toNat:Int) / 16=_
 omega
theorem and15 (c:UInt8):bits .and .u8 (c.toNat:Int) 15=((c.toNat % 16:Nat):Int) :=
 eq_of_beq (Xw (p:=fun c=>bits .and .u8 (c.toNat:Int) 15 == ((c.toNat % 16:Nat):Int)) (by decide +kernel) c)
theorem X9z (c:UInt8) (w:World) :
  Cz 138 [U8 c.toNat] w fun v w'=>v=.bool (plain c)∧w=w':=by
 refine calls Xp6 rfl Tryz.ntmps138 rfl (.seq (.q 1 rfl (.seq (.t 3 rfl (.gm rfl rfl rfl rfl (.gval rfl rfl (fun hg1=>(.leq (.gd hg1 rfl) (.of rfl))) rfl (.val (.pa rfl rfl rfl) rfl (.q 1 rfl (.gm rfl rfl rfl rfl (.gval rfl rfl (fun hg1=>(.geq (.gd hg1 rfl) (.of rfl))) rfl (.gval rfl rfl (fun hg1=>(.move (.gd hg1 rfl))) rfl (.gval2 rfl rfl rfl (fun hg1 hg2=>(.mo rfl)) rfl (.gval2 rfl rfl rfl (fun hg1 hg2=>(.leq (.gd2 hg1 hg2 rfl) (.of rfl))) rfl (.gval rfl rfl (fun hg1=>(.pand (.gd hg1 rfl) (.gd hg1 rfl) (.of rfl))) rfl (.val (.po rfl rfl rfl) rfl (.q 1 rfl (.gm rfl rfl rfl rfl (.gval rfl rfl (fun hg1=>(.geq (.gd hg1 rfl) (.of rfl))) rfl (.gval rfl rfl (fun hg1=>(.move (.gd hg1 rfl))) rfl (.gval2 rfl rfl rfl (fun hg1 hg2=>(.mo rfl)) rfl (.gval2 rfl rfl rfl (fun hg1 hg2=>(.leq (.gd2 hg1 hg2 rfl) (.of rfl))) rfl (.gval rfl rfl (fun hg1=>(.pand (.gd hg1 rfl) (.gd hg1 rfl) (.of rfl))) rfl (.val (.po rfl rfl rfl) rfl (.q 1 rfl (.gm rfl rfl rfl rfl (.gval rfl rfl (fun hg1=>(.eql (.gd hg1 rfl) (.of rfl))) rfl (.val (.po rfl rfl rfl) rfl (.q 1 rfl (.gm rfl rfl rfl rfl (.gval rfl rfl (fun hg1=>(.eql (.gd hg1 rfl) (.of rfl))) rfl (.val (.po rfl rfl rfl) rfl (.q 1 rfl (.gm rfl rfl rfl rfl (.gval rfl rfl (fun hg1=>(.eql (.gd hg1 rfl) (.of rfl))) rfl (.val (.po rfl rfl rfl) rfl (.q 1 rfl (.gm rfl rfl rfl rfl (.gval rfl rfl (fun hg1=>(.eql (.gd hg1 rfl) (.of rfl))) rfl (.val (.po rfl rfl rfl) rfl (.q 1 rfl (.nil (.ret (X9 Tryz.results138 rfl ?_)))))))))))))))))))))))))))))))))))))))))));exact ⟨_,rfl,congrArg Value.bool (Xm0 c),rfl⟩
theorem Xa7 (c:UInt8) (B w:World) (I:Im) (hd:DigAt I) (As:List X7) (hS:Sat B w I As) :
  Cz 182 [U8 c.toNat] w fun v w'=>v=S (Xbf c)∧Sat B w' I As:=by
 refine calls Tryz.func182 rfl Tryz.ntmps182 rfl (.seq (.q 1 rfl (.seq ?_)));have h16:c.toNat / 16<16:=by have:=c.toNat_lt; omega
 have h15:c.toNat % 16<16:=by omega
 refine .tail 8 (by kernel_rfl) (by kernel_rfl) ?_;replace hS:=hS.drew; generalize w.drew=w at hS ⊢;refine .vm rfl rfl (.val (.shr (.of rfl) (.of rfl) (by decide) (by decide)) rfl ?_);rw [shr4 c];refine .val (.arrAddrI (i:=((c.toNat / 16:Nat):Int)) (.of rfl) (.of rfl) (by omega) (by omega) Xq8 Qs5) rfl ?_;refine .val (.ldI (.of rfl) hS (hd.add _) Qg5 (by rw [Y1e,Y2c,Y1i,Ym]; exact Xl2 (n:=c.toNat / 16) h16)) rfl ?_;refine .vm rfl rfl (.val (.ibits (.inl rfl) (.of rfl) (.of rfl)) rfl ?_);rw [and15 c];refine .val (.arrAddrI (i:=((c.toNat % 16:Nat):Int)) (.of rfl) (.of rfl) (by omega) (by omega) Xq8 Qs5) rfl ?_;refine .val (.ldI (.of rfl) hS (hd.add _) Qg5 (by rw [Y1e,Y2c,Y1i,Ym]; exact Xl2 (n:=c.toNat % 16) h15)) rfl ?_;refine .nil ?_;show WL _ _ _ _ _ _ _
 refine .buildSlice (cs:=[_,_,_]) hS (pc9 rfl (pc9 rfl (pc9 rfl X4))) X25 Qs5 Qz5 rfl rfl rfl rfl ?_;intro b11 w hS;refine .val (.bytesStr (l:=Xbf c) (b:=b11) (o:=0) (cap:=3) (.of rfl) hS (k:=0) rfl X25 Qu5 Qu9 (fun j hj=>by
  have hj3:j<3:=hj
  match j,hj3 with
  | 0,_=>rfl
  | 1,_=>rfl
  | 2,_=>rfl)) rfl ?_
 refine .q 1 rfl (.nil (.ret (X9 Tryz.results182 rfl ?_)));exact ⟨_,rfl,rfl,hS.drop (k:=0) rfl⟩
def upB (c:UInt8):UInt8:=if 97≤c && c≤102 then c - 32 else c
theorem up_low {c:UInt8} (h:97≤c.toNat∧c.toNat≤102):(c.toNat:Int) - 32=((upB c).toNat:Int):=by
 have:=Xw (p:=fun c=>!(decide (97≤c.toNat∧c.toNat≤102)) || (c.toNat:Int) - 32 == ((upB c).toNat:Int)) (by decide +kernel) c
 simpa [h] using this
theorem up_not {c:UInt8} (h:¬ (97≤c.toNat∧c.toNat≤102)):upB c=c:=by
 have:=Xw (p:=fun c=>decide (97≤c.toNat∧c.toNat≤102) || upB c == c) (by decide +kernel) c
 simpa [h] using this
theorem up_hit {c:UInt8} {i:Nat} (h:i<16) (he:upB c=HIGH.getD i 0):X3d c=(i:Int):=by
 have:=Xw (p:=fun c=>(List.range 16).all fun i=>!(upB c == HIGH.getD i 0) || X3d c == (i:Int)) (by decide +kernel) c
 have:=Y1b.1 this i (Y3m.2 h)
 simpa [he] using this
theorem Xtp {c:UInt8} (h:∀ i,i<16→HIGH.getD i 0≠upB c):X3d c=-1:=by
 have:=Xw (p:=fun c=>(List.range 16).any (fun i=>HIGH.getD i 0 == upB c) || X3d c == -1) (by decide +kernel) c
 simp only [Y1j,beq_iff_eq] at this
 rcases this with h1 | h1
 ·obtain ⟨i,hi,h2⟩:=Y1w.1 h1;simp only [beq_iff_eq] at h2
  exact absurd h2 (h i (Y3m.1 hi))
 ·exact h1
theorem Xer (c:UInt8) (B w:World) (I:Im) (hd:DigAt I) (As:List X7) (hS:Sat B w I As) :
  Cz 236 [U8 c.toNat] w fun v w'=>v=I64 (X3d c)∧Sat B w' I As:=by
 refine calls Tryz.func236 rfl Tryz.ntmps236 rfl (.seq (.q 1 rfl ?_));refine .cutS (σ:=UInt8) (fun u=>[(0,U8 u.toNat)]) (fun u w=>u=upB c∧Sat B w I As) ?_ ?_
 ·refine .seq (.t 3 rfl (.gm rfl rfl rfl rfl (.gval rfl rfl (fun hg1=>(.leq (.gd hg1 rfl) (.of rfl))) rfl (.val (.pa rfl rfl rfl) rfl (.nil ?_)))));refine .cond rfl (fun hb10=>?_) fun hb10=>?_
  ·refine .t 1 rfl ?_;refine .val (.subx (.of rfl) (.of rfl) (by rw [IntKind.wrap_u8]; simp only [Yq,decide_eq_true_eq] at hb10; omega)) rfl ?_;refine .q 1 rfl (.nil ?_);refine ⟨upB c,⟨?_,trivial⟩,rfl,hS⟩;have h97:97≤c.toNat∧c.toNat≤102:=by simp only [Yq,decide_eq_true_eq] at hb10; omega
   show some (Value.int .u8 ((c.toNat:Int) - 32))=some (U8 ((upB c).toNat:Int))
   rw [up_low h97]
  refine .skip (⟨upB c,⟨?_,trivial⟩,rfl,hS⟩);have h97:¬ (97≤c.toNat∧c.toNat≤102):=by simp only [Y2m,decide_eq_false_iff_not] at hb10; omega
  show some (U8 (c.toNat:Int))=some (U8 ((upB c).toNat:Int))
  rw [up_not h97]
 rintro u w ⟨hu,hS⟩;refine .seq (.seq (.region (.val (.ldsI (us:=bcs HIGH) (.of rfl) hS hd Tryz.isAgg258 Tryz.sizeOf258 rfl (fun _ _ h=>h)) rfl (.q 1 rfl (.nil (.block (.loop (σ:=Nat) (fun i=>[(0,U8 u.toNat),(13,.agg (bcs HIGH).toArray),(14,I64 (i:Nat))]) (fun i w=>i≤16∧(∀ j,j<i→HIGH.getD j 0≠u)∧Sat B w I As) (fun i=>16 - i) 0 ⟨rfl,rfl,rfl,trivial⟩ ⟨by decide,fun _ h=>absurd h (by omega),hS⟩ ?_)))))));rintro i w ⟨hi,hno,hS⟩;refine .seq (.q 1 rfl (.seq ?_));refine .cond rfl (fun hb15=>?_) fun hb15=>?_
 ·have hc15:=hb15; simp only [Y6] at hc15;refine .skip (.seq (.block (.seq (.t 1 rfl ?_))));refine .val (.indexArr (vs:=bcs HIGH) (v:=U8 (HIGH.getD i 0).toNat) (.of rfl) (.of rfl) (by omega) (by omega) Xq8 Qs5 Qg5 (by rw [Yy,Ym,Yc,Y4 (show i<HIGH.length by have:HIGH.length=16:=rfl; omega)]; rfl)) rfl ?_;refine .q 2 rfl (.nil (.seq (.q 3 rfl ?_)));refine .cond rfl (fun hb20=>?_) fun hb20=>?_
  ·have hc20:=hb20; simp only [Y6] at hc20;refine .seq (.q 2 rfl (.ret (X9 Tryz.results236 rfl ?_)));refine ⟨_,rfl,?_,hS⟩;simp only [beq_iff_eq] at hb20
   rw [hu] at hb20;rw [up_hit (c:=c) (i:=i) (by omega) (Y19.1 (by omega))]
  have hc20:=hb20; simp only [Y6] at hc20;refine .skip (.region (.run 2 rfl ⟨⟨by omega,by omega⟩,trivial⟩ (.nil ?_)));refine ⟨i+1,⟨rfl,rfl,rfl,trivial⟩,⟨by omega,fun j hj=>?_,hS⟩,by omega⟩;rcases Yr j i with h1 | h1
  ·exact hno j h1
  ·have e:j=i:=by omega
   subst e;simp only [beq_eq_false_iff_ne] at hb20
   exact fun e=>hb20 (by rw [e])
 have hc15:=hb15; simp only [Y6] at hc15;refine .exit (.seq (.q 1 rfl (.ret (X9 Tryz.results236 rfl ?_))));refine ⟨_,rfl,?_,hS⟩;rw [hu] at hno;rw [Xtp (c:=c) (fun j hj=>hno j (by omega))]
def tval (a b:Int):Int:=IntKind.u8.wrap (bits .or .i64 (IntKind.i64.wrap (a*2 ^ (4:Int).toNat)) (bits .and .i64 b 15))
theorem Xkk (a b:UInt8) (ha:0≤X3d a) (hb:0≤X3d b):tval (X3d a) (X3d b)=((Pc.byteOf a b).toNat:Int):=by
 rw [X8m a b ha hb];have h1:=X21 a;have h2:=X21 b;have h:∀ x y:Fin 16,tval (x.val:Int) (y.val:Int)=16*(x.val:Int)+(y.val:Int):=by decide +kernel
 have:=h ⟨(X3d a).toNat,by omega⟩ ⟨(X3d b).toNat,by omega⟩
 simp only [Y4d ha,Y4d hb] at this
 exact this
theorem Xpw (s:List UInt8) (i:Int) (h0:0≤i) (h1:i≤9223372036854775800) (B w:World) (I:Im) (hd:DigAt I) (As:List X7) (hS:Sat B w I As) :
  Cz 214 [S s,I64 i] w fun v w'=>v=(if (s.length:Int)≤i+2 then .tuple #[.int .u8 0,.bool false] else .tuple #[.int .u8 (tval (X3d (at_ s (i+1))) (X3d (at_ s (i+2)))),.bool (decide (0≤X3d (at_ s (i+1))) && decide (0≤X3d (at_ s (i+2))))])∧Sat B w' I As:=by
 refine calls Tryz.func214 rfl Tryz.ntmps214 rfl (.seq (.q 2 rfl (.seq (.seq (.region (.run 5 rfl ⟨⟨by omega,by omega⟩,Qu9,trivial⟩ (.nil ?_)))))));refine .cond rfl (fun hb12=>?_) fun hb12=>?_
 ·have hc12:=hb12; simp only [Y6] at hc12;refine .seq (.q 2 rfl (.ret (X1e Tryz.results214 rfl rfl ?_)));exact ⟨_,rfl,by rw [if_pos hc12],hS⟩
 have hc12:=hb12; simp only [Y6] at hc12;refine .skip (.seq (.quiet (by kernel_rfl) (by kernel_rfl) hS (.val (fun w hS=>(.mo rfl)) rfl (.val (fun w hS=>(.mo rfl)) rfl (.val (fun w hS=>(.add (.of rfl) (.of rfl) ⟨by omega,by omega⟩)) rfl (.val (fun w hS=>(.index (.of rfl) (.of rfl) (by omega) (by omega) Qu9)) rfl (.call Tryz.func236 rfl (ec9 rfl X0) rfl (fun w hS=>Xer (at_ s (i+1)) B w I hd _ hS) (.val (fun w hS=>(.mo rfl)) rfl (.val (fun w hS=>(.mo rfl)) rfl (.val (fun w hS=>(.add (.of rfl) (.of rfl) ⟨by omega,by omega⟩)) rfl (.val (fun w hS=>(.index (.of rfl) (.of rfl) (by omega) (by omega) Qu9)) rfl (.call Tryz.func236 rfl (ec9 rfl X0) rfl (fun w hS=>Xer (at_ s (i+2)) B w I hd _ hS) (.val (fun w hS=>(.ao rfl)) rfl (.val (fun w hS=>(.ao rfl)) rfl (.nil ?_)))))))))))))));intro w hS;refine .seq (.t 1 rfl (.val (.shl (.of rfl) (.of rfl) (by decide) (by decide)) rfl (.q 1 rfl (.val (.ibits (.inl rfl) (.of rfl) (.of rfl)) rfl (.val (.ibits (.inr (.inl rfl)) (.of rfl) (.of rfl)) rfl (.val (.cvw (.of rfl) Qu3 Qu5) rfl (.q 3 rfl (.gm rfl rfl rfl rfl (.gval rfl rfl (fun hg1=>(.geq (.gd hg1 rfl) (.of rfl))) rfl (.val (.pa rfl rfl rfl) rfl (.q 2 rfl (.nil (.ret (X1e Tryz.results214 rfl rfl ?_))))))))))))));exact ⟨_,rfl,by rw [if_neg (by omega)]; rfl,hS⟩
theorem Xaf (c:UInt8) (b:Bool) (B w:World) (I:Im) (hd:DigAt I) (As:List X7) (hS:Sat B w I As) :
  Cz 181 [U8 c.toNat,.bool b] w fun v w'=>v=S (if (b && !plain c)=true then Xbf c else [c])∧Sat B w' I As:=by
 refine calls Tryz.func181 rfl Tryz.ntmps181 rfl (.seq (.q 1 rfl (.seq (.seq (.t 2 rfl (.gm rfl rfl rfl rfl (.gcall (T:=fun w=>Sat B w I As) rfl rfl rfl Xp6 rfl (fun hg1=>(X6 (.gd hg1 rfl) X0)) rfl (fun hg1=>X1q (X9z c w) hS) hS ?_)))))));rintro w hS;refine .gval rfl rfl (fun hg1=>(.not (.gd hg1 rfl))) rfl (.val (.pa rfl rfl rfl) rfl (.nil ?_));refine .cond rfl (fun hb10=>?_) fun hb10=>?_
 ·refine .seq (.t 1 rfl (.call Tryz.func182 rfl (ec9 rfl X0) rfl (Xa7 c B w I hd _ hS) ?_));rintro _ w ⟨rfl,hS⟩;refine .q 1 rfl (.nil (.ret (X9 Tryz.results181 rfl ?_)));exact ⟨_,rfl,by rw [if_pos hb10],hS⟩
 refine .skip (.seq (.t 1 rfl (.buildSlice (cs:=[_]) hS (pc9 rfl X4) X25 Qs5 Qz5 rfl rfl rfl rfl ?_)));intro b14 w hS;refine .val (.str1 (c:=c) (.of rfl) hS (k:=0) rfl rfl X25 Qu5 Qu9) rfl (.q 1 rfl (.nil (.ret (X9 Tryz.results181 rfl ?_))));exact ⟨_,rfl,by rw [if_neg (by rw [hb10]; simp)],hS.drop (k:=0) rfl⟩
theorem X7i (bb:Nat) (p v:Value) (hp:p=.pointer none∨p=ptr bb 0) (B w:World) (I:Im) (F:List X7) (hS:Sat B w I (blk bb [p,v] 245::F)) :
  Calls Tryz.prog 232 [ptr bb 0].toArray w (Ret fun u w'=>u=.tuple #[]∧Sat B w' I (blk bb [ptr bb 0,v] 245::F)):=by
 rcases hp with rfl | rfl
 ·refine calls Xoe rfl Tryz.ntmps232 rfl (.seq (.t 2 rfl (.val (.fo 0 rfl X8u rfl rfl Xlr rfl) rfl (.val (.lo rfl hS (k:=0) rfl Tryz.isAgg243 rfl) rfl (.val (.eqp (.of rfl) (.of rfl) Xmk) rfl (.nil (.condT (rfl) (.t 2 rfl (.val (.toUnsafe (.of rfl) hS (k:=0) rfl Xmk Tryz.underlying286 X6o (by decide) (by simp)) rfl (.val (.extern Tryz.func247 (by kernel_rfl) (by kernel_rfl) (by kernel_rfl) (e:=Extern.AbiNoEscape.same) (by kernel_rfl) (ec9 rfl X0) (Go.Lib.run_noEscape w _)) rfl (.val (.fromUnsafe (.of rfl) hS (k:=0) rfl Tryz.underlying286 Xmk X6o (by kernel_rfl)) rfl (.q 1 rfl (.val (.fo 0 rfl X8u rfl rfl Xlr rfl) rfl (.s1 hS (k:=0) rfl rfl rfl rfl Xlr (by simp) ?_))))))))))))));intro w hS;refine .nil (X7n Tryz.results232 ?_);exact ⟨_,rfl,rfl,hS⟩
 ·refine calls Xoe rfl Tryz.ntmps232 rfl (.seq (.t 2 rfl (.val (.fo 0 rfl X8u rfl rfl Xlr rfl) rfl (.val (.lo rfl hS (k:=0) rfl Tryz.isAgg243 rfl) rfl (.val (.eqp (.of rfl) (.of rfl) Xmk) rfl (.nil (.condF (rfl) (.seq (.t 2 rfl (.val (.fo 0 rfl X8u rfl rfl Xlr rfl) rfl (.val (.lo rfl hS (k:=0) rfl Tryz.isAgg243 rfl) rfl (.q 1 rfl (.val (.nepSame (.of rfl) (.of rfl) Xmk X6o trivial) rfl (.nil (.condF (rfl) (.skip (X7n Tryz.results232 ?_)))))))))))))))));exact ⟨_,rfl,rfl,hS⟩
theorem Xd7 (bb:Nat) (p v:Value) (l:List UInt8) (c:UInt8) (hp:p=.pointer none∨p=ptr bb 0) (B w:World) (I:Im) (F:List X7) (hS:Sat B w I (blk bb [p,v] 245::Vec 5 1 v l.length (bcs l)::F)) (hl:l.length≤140737488000000) :
  Calls Tryz.prog 205 [ptr bb 0,U8 c.toNat].toArray w (Ret fun u w'=>u=.nilIface∧∃ v',Sat B w' I (blk bb [ptr bb 0,v'] 245::Vec 5 1 v' (l ++ [c]).length (bcs (l ++ [c]))::F)):=by
 refine calls Tryz.func205 rfl Tryz.ntmps205 rfl (.seq (.q 1 rfl (.seq (.t 1 rfl (.call Xoe rfl (ec9 rfl X0) rfl (X7i bb p v hp B w I _ hS) ?_)))));rintro _ w ⟨rfl,hS⟩;refine .nil (.seq ?_);obtain ⟨va,vc,rfl,hvc,_⟩:=hS.vecSlice (k:=1) rfl;refine .t 3 rfl (.val (.fo 1 rfl X8u rfl rfl Xa9 rfl) rfl (.val (.lo rfl hS (k:=0) rfl Xgk rfl) rfl (.q 1 rfl (.buildSlice (cs:=[_]) hS (pc9 rfl X4) X25 Qs5 Qz5 rfl rfl rfl rfl ?_))));intro b13 w hS;refine .append (size:=1) (bytes:=1) hS (.of rfl) (.of rfl) (k:=1) rfl X25 X98 rfl rfl rfl rfl rfl rfl rfl ⟨by omega,by unfold maxLen; omega⟩ rfl ?_;intro v14 w hS;obtain ⟨a14,c14,rfl,hcap14,_⟩:=hS.vecSlice (k:=1) (v:=v14) rfl;refine .q 1 rfl (.val (.fo 1 rfl X8u rfl rfl Xa9 rfl) rfl (.s1 hS (k:=0) rfl rfl rfl rfl Xa9 (by simp) ?_));intro w hS;refine .nil (.seq (.q 1 rfl (.ret (X9 Tryz.results205 rfl ?_))));exact ⟨_,rfl,rfl,_,by simpa using hS⟩
theorem X34 (bb:Nat) (p v:Value) (l s:List UInt8) (hp:p=.pointer none∨p=ptr bb 0) (B w:World) (I:Im) (F:List X7) (hS:Sat B w I (blk bb [p,v] 245::Vec 5 1 v l.length (bcs l)::F)) (hl:l.length+s.length≤140737488000000) :
  Calls Tryz.prog 206 [ptr bb 0,S s].toArray w (Ret fun u w'=>u=.tuple #[I64 s.length,.nilIface]∧∃ v',Sat B w' I (blk bb [ptr bb 0,v'] 245::Vec 5 1 v' (l ++ s).length (bcs (l ++ s))::F)):=by
 refine calls Xqr rfl Tryz.ntmps206 rfl (.seq (.q 2 rfl (.seq (.t 1 rfl (.call Xoe rfl (ec9 rfl X0) rfl (X7i bb p v hp B w I _ hS) ?_)))));rintro _ w ⟨rfl,hS⟩;refine .nil (.seq ?_);obtain ⟨va,vc,rfl,hvc,_⟩:=hS.vecSlice (k:=1) rfl;refine .t 3 rfl (.val (.fo 1 rfl X8u rfl rfl Xa9 rfl) rfl (.val (.lo rfl hS (k:=0) rfl Xgk rfl) rfl (.q 1 rfl (.appendStr hS (.of rfl) (.of rfl) (k:=1) rfl X25 Qu9 X98 rfl rfl rfl (by omega) rfl ?_))));intro v14 w hS; dsimp only [List.set] at hS;obtain ⟨a14,c14,rfl,hcap14,_⟩:=hS.vecSlice (k:=1) (v:=v14) rfl;refine .q 1 rfl (.val (.fo 1 rfl X8u rfl rfl Xa9 rfl) rfl (.s1 hS (k:=0) rfl rfl rfl rfl Xa9 (by simp) ?_));intro w hS;refine .nil (.seq (.region (.run 4 rfl ⟨Qu9,trivial⟩ (.nil (.ret (X1e Tryz.results206 rfl rfl ?_))))));exact ⟨_,rfl,rfl,_,by simpa using hS⟩
set_option maxRecDepth 8000 in
theorem Xc5 (bb:Nat) (p v:Value) (l:List UInt8) (hv:l=[]→v=.slice none 0 0) (B w:World) (I:Im) (F:List X7) (hS:Sat B w I (blk bb [p,v] 245::Vec 5 1 v l.length (bcs l)::F)) :
  Calls Tryz.prog 207 [ptr bb 0].toArray w (Ret fun u w'=>u=S l∧Sat B w' I F):=by
 by_cases h0:l=[]
 ·obtain rfl:=hv h0;subst h0;refine calls Xqd rfl Tryz.ntmps207 rfl (.seq (.q 1 rfl (.seq (.tail 10 (by kernel_rfl) (by kernel_rfl) ?_))));replace hS:=hS.drew; generalize w.drew=w at hS ⊢;refine .vm rfl rfl (.val (.no rfl) rfl (.val (.fo 1 rfl X8u rfl rfl Xa9 rfl) rfl (.val (.lo rfl hS (k:=0) rfl Xgk rfl) rfl (.val (.sliceDataNil (.of rfl)) rfl (.vm rfl rfl (.val (.no rfl) rfl (.val (.fo 1 rfl X8u rfl rfl Xa9 rfl) rfl (.val (.lo rfl hS (k:=0) rfl Xgk rfl) rfl (.val (.lenSlice (.of rfl) X25) rfl (.nil ?_))))))))));show WL _ _ _ _ _ _ _
  refine .val (.unsafeStringNone (.of rfl) (.of rfl)) rfl (.q 1 rfl (.nil (.ret (X9 Tryz.results207 rfl ?_))));exact ⟨_,rfl,rfl,(hS.drop (k:=0) rfl).drop (k:=0) rfl⟩
 ·have h1:0<l.length:=Y29.2 h0;obtain ⟨vb,vc,r,rfl,hv1,hv2,hv3,hv4,hT⟩:=hS.vecOpen (k:=1) rfl h1;have hS:=hT; clear hT;have h63:l.length≤9223372036854775807:=by unfold maxLen at hv2; omega
  refine calls Xqd rfl Tryz.ntmps207 rfl (.seq (.q 1 rfl (.seq (.tail 10 (by kernel_rfl) (by kernel_rfl) ?_))));replace hS:=hS.drew; generalize w.drew=w at hS ⊢;refine .vm rfl rfl (.val (.no rfl) rfl (.val (.fo 1 rfl X8u rfl rfl Xa9 rfl) rfl (.val (.lo rfl hS (k:=0) rfl Xgk rfl) rfl (.val (.sliceData (.of rfl) (by omega)) rfl (.vm rfl rfl (.val (.no rfl) rfl (.val (.fo 1 rfl X8u rfl rfl Xa9 rfl) rfl (.val (.lo rfl hS (k:=0) rfl Xgk rfl) rfl (.val (.lenSlice (.of rfl) X25) rfl (.nil ?_))))))))));show WL _ _ _ _ _ _ _
  refine .unsafeString hS (k:=1) rfl (.of rfl) (.of rfl) h0 Tryz.underlying274 (by kernel_rfl) (by omega) rfl ?_;intro w hS;refine .q 1 rfl (.nil (.ret (X9 Tryz.results207 rfl ?_)));exact ⟨_,rfl,rfl,hS.drop (k:=0) rfl⟩
theorem Xku (c:UInt8) (B w:World) (I:Im) (hd:DigAt I) (As:List X7) (hS:Sat B w I As):Calls Tryz.prog 181 [U8 c.toNat,.bool false].toArray w (Ret fun v w'=>v=S [c]∧Sat B w' I As) :=
 (Xaf c false B w I hd As hS).mono fun e w' he=>by
  obtain ⟨v,rfl,rfl,h⟩:=he;exact ⟨_,rfl,by simp,h⟩
theorem Xmo (c:UInt8) (B w:World) (I:Im) (hd:DigAt I) (As:List X7) (hS:Sat B w I As):Calls Tryz.prog 181 [U8 c.toNat,.bool true].toArray w (Ret fun v w'=>v=S (one c)∧Sat B w' I As) :=
 (Xaf c true B w I hd As hS).mono fun e w' he=>by
  obtain ⟨v,rfl,rfl,h⟩:=he;refine ⟨_,rfl,?_,h⟩;unfold one;cases plain c <;> rfl
theorem told_e (s:List UInt8) (i:Nat) (h1:i≤9223372036854775800) (B w:World) (I:Im) (hd:DigAt I) (As:List X7) (hS:Sat B w I As):Calls Tryz.prog 214 [S s,I64 (i:Nat)].toArray w (Ret fun v w'=>∃ tv ok,v=.tuple #[.int .u8 tv,.bool ok]∧(match Pc.told (s.drop (i+1)) with | none=>ok=false | some b=>ok=true∧tv=(b.toNat:Int))∧Sat B w' I As) :=
 (Xpw s (i:Int) (by omega) (by omega) B w I hd As hS).mono fun e w' he=>by
  obtain ⟨v,rfl,rfl,h⟩:=he
  by_cases hl:s.length≤i+2
  ·have:Pc.told (s.drop (i+1))=none:=by
    have hl:(s.drop (i+1)).length≤1:=by rw [Yp]; omega
    match s.drop (i+1),hl with
    | [],_=>rfl
    | [_],_=>rfl
   rw [if_pos (by omega),this];exact ⟨_,rfl,0,false,rfl,rfl,h⟩
  ·have e1:s.drop (i+1)=at_ s ((i:Int)+1)::at_ s ((i:Int)+2)::s.drop (i+3):=by
    rw [X8 s (show i+1<s.length by omega),X8 s (show i+1+1<s.length by omega)];rfl
   rw [if_neg (by omega),e1];refine ⟨_,rfl,_,_,rfl,?_,h⟩;simp only [Pc.told]
   by_cases hn:X3d (at_ s ((i:Int)+1))<0∨X3d (at_ s ((i:Int)+2))<0
   ·rw [if_pos hn];simp only [Y2m,decide_eq_false_iff_not]
    omega
   ·rw [if_neg hn];refine ⟨?_,Xkk _ _ (by omega) (by omega)⟩;simp only [Yq,decide_eq_true_eq]
    omega
set_option maxHeartbeats 400000 in
set_option maxRecDepth 4000 in
theorem Xoi (s:List UInt8) (hl:s.length≤1000000) (B w:World) (I:Im) (hd:DigAt I) (As:List X7) (hS:Sat B w I As) :
  Cz 180 [S s,.func (.func 181) #[] #[]] w fun v w'=>v=(match X3x s with | none=>.tuple #[S [],I64 11] | some t=>.tuple #[S t,I64 0])∧Sat B w' I As:=by
 refine calls Tryz.func180 rfl Tryz.ntmps180 rfl (.seq (.q 2 rfl (.seq (.region (.allocA (cs:=[_,_]) hS Tryz.zeroValue245 rfl ?_)))));intro b6 w hS;refine .nil (.seq (.seq (.q 1 rfl (.block ?_))));replace hS:=(hS.vecNil 5 1).pick 1 rfl;refine .loop (σ:=List UInt8×Value×Value×Nat) (fun ⟨out,p,v,i⟩=>[(0,S s),(1,.func (.func 181) #[] #[]),(6,ptr b6 0),(7,I64 (i:Nat))]) (fun ⟨out,p,v,i⟩ w=>i≤s.length∧out.length+(s.length - i)*3≤s.length*3∧X3x s=(X3x (s.drop i)).map (out ++ ·)∧(p=.pointer none∨p=ptr b6 0)∧(out=[]→v=.slice none 0 0)∧Sat B w I (blk b6 [p,v] 245::Vec 5 1 v (out).length (bcs (out))::As)) (fun ⟨out,p,v,i⟩=>s.length - i) ([],.pointer none,.slice none 0 0,0) ⟨rfl,rfl,rfl,rfl,trivial⟩ ⟨Yo _,by simp,by simp,.inl rfl,fun _=>rfl,hS⟩ ?_;rintro ⟨out,p,v,i⟩ w ⟨hi,hol,hno,hp,hpv,hS⟩;refine .seq (.seq (.region (.run 4 rfl ⟨Qu9,trivial⟩ (.nil ?_))));refine .cond rfl (fun hb13=>?_) fun hb13=>?_
 ·have hc13:=hb13; simp only [Y6] at hc13;refine .skip (.seq (.block (.seq (.seq (.region (.run 4 rfl ⟨⟨⟨by omega,by omega⟩,Qu9⟩,trivial⟩ (.nil ?_)))))));refine .cond rfl (fun hb19=>?_) fun hb19=>?_
  ·have hc19:=hb19; simp only [Y6] at hc19;refine .seq (.region (.run 4 rfl ⟨⟨⟨by omega,by omega⟩,Qu9⟩,trivial⟩ (.vcall (cap:=[]) Tryz.func181 rfl (.of rfl) (ec9 rfl (ec9 rfl X0)) rfl (Xku (at_ s (i:Int)) B w I hd _ hS) ?_)));rintro _ w ⟨rfl,hS⟩;refine .call Xqr rfl (ec9 rfl (ec9 rfl X0)) rfl (X34 b6 p v out ([at_ s (i:Int)]) hp B w I _ hS (by simp only [Y8,Yj]; omega)) ?_;rintro _ w ⟨rfl,v2,hS⟩;refine .nil (.exit (.region (.run 3 rfl ⟨⟨by omega,by omega⟩,trivial⟩ (.nil ?_))));have e37:at_ s (i:Int)≠37:=fun e=>by rw [e] at hb19; simp at hb19
   refine ⟨(out ++ [at_ s (i:Int)],ptr b6 0,v2,i+1),⟨rfl,rfl,rfl,rfl,trivial⟩,⟨by (try dsimp only); omega,by (try dsimp only); rw [Y0]; simp only [Y8,Yj]; omega,?_,.inr rfl,fun h=>absurd h (by simp),hS⟩,by (try dsimp only); omega⟩;rw [hno,X8 s (by omega),X1n,if_neg e37];cases X3x (s.drop (i+1)) <;> simp
  have hc19:=hb19; simp only [Y6] at hc19;refine .skip (.seq (.t 2 rfl (.call Tryz.func214 rfl (ec9 rfl (ec9 rfl X0)) rfl (told_e s i (by omega) B w I hd _ hS) ?_)));rintro _ w ⟨tv,ok,rfl,htv,hS⟩;refine .q 5 rfl (.nil (.seq (.seq (.q 2 rfl ?_))));refine .cond rfl (fun hb33=>?_) fun hb33=>?_
  ·have hc33:=hb33; simp only [Y6] at hc33;refine .seq (.q 2 rfl (.ret (X1e Tryz.results180 rfl rfl ?_)));refine ⟨_,rfl,?_,(hS.drop (k:=0) rfl).drop (k:=0) rfl⟩;have e37:at_ s (i:Int)=37:=Y19.1 (by simp only [bne_eq_false_iff_eq] at hb19; show (at_ s (i:Int)).toNat=37; omega);have ht:Pc.told (s.drop (i+1))=none:=by
    cases ht:Pc.told (s.drop (i+1)) with
    | none=>rfl
    | some v=>rw [ht] at htv; rw [htv.1] at hb33; simp at hb33
   have:X3x s=none:=by rw [hno,X8 s (by omega),X1n,if_pos e37,ht]; rfl
   rw [this]
  refine .skip (.seq ?_);have e37:at_ s (i:Int)=37:=Y19.1 (by simp only [bne_eq_false_iff_eq] at hb19; show (at_ s (i:Int)).toNat=37; omega);obtain ⟨vb,hv⟩:∃ v,Pc.told (s.drop (i+1))=some v:=by
   cases ht:Pc.told (s.drop (i+1)) with
   | some v=>exact ⟨v,rfl⟩
   | none=>rw [ht] at htv; simp only at htv; rw [htv] at hb33; simp at hb33
  rw [hv] at htv;obtain ⟨_,rfl⟩:=htv;have hvl:=X3g hv;rw [Yp] at hvl;have hone3:(one vb).length≤3:=by unfold one; split <;> simp [Xbf]
  have hone0:out ++ one vb≠[]:=fun e=>by
   have:=(Y53.1 e).2
   unfold one at this; split at this <;> simp [Xbf] at this
  refine .t 2 rfl (.vcall (cap:=[]) Tryz.func181 rfl (.of rfl) (ec9 rfl (ec9 rfl X0)) rfl (Xmo vb B w I hd _ hS) ?_);rintro _ w ⟨rfl,hS⟩;refine .call Xqr rfl (ec9 rfl (ec9 rfl X0)) rfl (X34 b6 p v out (one vb) hp B w I _ hS (by omega)) ?_;rintro _ w ⟨rfl,v2,hS⟩;refine .nil (.region (.run 3 rfl ⟨⟨by omega,by omega⟩,trivial⟩ (.nil (.region (.run 3 rfl ⟨⟨by omega,by omega⟩,trivial⟩ (.nil ?_))))));refine ⟨(out ++ one vb,ptr b6 0,v2,i+3),⟨rfl,rfl,rfl,rfl,trivial⟩,⟨by (try dsimp only); omega,by (try dsimp only); rw [Y0]; omega,?_,.inr rfl,fun h=>absurd h hone0,hS⟩,by (try dsimp only); omega⟩;rw [hno,X8 s (by omega),X1n,if_pos e37,hv];simp only [Y1m]
  cases X3x (s.drop (i+3)) <;> simp [Yf,Y3j]
 have hc13:=hb13; simp only [Y6] at hc13;refine .exit (.seq (.region (.call Xqd rfl (ec9 rfl X0) rfl (Xc5 b6 p v out hpv B w I _ hS) ?_)));rintro _ w ⟨rfl,hS⟩;refine .q 2 rfl (.nil (.ret (X1e Tryz.results180 rfl rfl ?_)));refine ⟨_,rfl,?_,hS⟩
 have:X3x s=some out:=by rw [hno,Y17 (by omega),X5g]; simp
 rw [this]
theorem each_e (s:List UInt8) (hl:s.length≤1000000) (B w:World) (I:Im) (hd:DigAt I) (As:List X7) (hS:Sat B w I As):Calls Tryz.prog 180 [S s,.func (.func 181) #[] #[]].toArray w (Ret fun v w'=>∃ n1 n2,v=.tuple #[n1,n2]∧.tuple #[n1,n2]=(match X3x s with | none=>Value.tuple #[S [],I64 11] | some t=>.tuple #[S t,I64 0])∧Sat B w' I As) :=
 (Xoi s hl B w I hd As hS).mono fun e w' he=>by
  obtain ⟨v,rfl,rfl,h⟩:=he;cases X3x s with
  | none=>exact ⟨_,rfl,_,_,rfl,rfl,h⟩
  | some t=>exact ⟨_,rfl,_,_,rfl,rfl,h⟩
theorem Xgd (s:List UInt8) (hl:s.length≤1000000) (B w:World) (I:Im) (hd:DigAt I) (As:List X7) (hS:Sat B w I As) :
  Cz 142 [S s] w fun v w'=>v=(match X3x s with | none=>.tuple #[S [],I64 11] | some t=>.tuple #[S t,I64 0])∧Sat B w' I As:=by
 refine calls Tryz.func142 rfl Tryz.ntmps142 rfl (.seq (.q 2 rfl (.seq (.t 1 rfl (.call Tryz.func180 rfl (ec9 rfl (ec9 rfl X0)) rfl (each_e s hl B w I hd _ hS) ?_)))));rintro _ w ⟨n1,n2,rfl,hn,hS⟩;refine .q 4 rfl (.nil (.ret (X1e Tryz.results142 rfl rfl ?_)));exact ⟨_,rfl,hn,hS⟩
end Go.Proofs.YtfibbpgikjggfaaGreatDoor
namespace Go.Proofs
open Go.Shelf
open Go.RowKit in
open Go.RowKit in
open Go.RowKit in
open Go.RowKit in
open Go.RowKit in
def Tryz.lays119_ren:Go.Shelf.Ren:=⟨fun | 119=>213 | n=>n,fun | 21=>21 | 4=>4 | n=>n,fun | n=>n⟩
theorem Tryz.lays119:Go.Proofs.Lays.n119 Tryz.prog Tryz.lays119_ren:={
 mixed:=by kernel_rfl
 f119:=Qf213.trans (congrArg some (by kernel_rfl))
 t4:=Qu4
 a4:=Qg4
 z4:=Qs4
 v4:=Qz4
 t21:=Qu21
 a21:=Qg21
 z21:=Qs21
 v21:=Qz21 }
theorem Tryz.utf8_ValidRune (r:Int) (w:World) :
  Calls Tryz.prog 213 #[.int .i32 r] w fun e w'=>e=.returned (.bool (Lib.validRune r))∧w'=w:=Any.utf8_ValidRune Tryz.lays119 r w
def Tryz.lays137_ren:Go.Shelf.Ren:=⟨fun | 137=>179 | 217=>209 | 266=>234 | n=>n,fun | 9=>9 | 5=>5 | 3=>3 | n=>n,fun | n=>n⟩
theorem Tryz.lays137:Go.Proofs.Lays.n137 Tryz.prog Tryz.lays137_ren:={
 mixed:=by kernel_rfl
 f137:=Qf179.trans (congrArg some (by kernel_rfl))
 f217:=Qf209.trans (congrArg some (by kernel_rfl))
 f266:=Qf234.trans (congrArg some (by kernel_rfl))
 t3:=Qu3
 a3:=Qg3
 z3:=Qs3
 v3:=Qz3
 t5:=Qu5
 a5:=Qg5
 z5:=Qs5
 v5:=Qz5
 t9:=Qu9
 a9:=Qg9
 z9:=Qs9
 v9:=Qz9 }
open Go.RowKit in
theorem Tryz.strings_IndexByte (s:ByteArray) (c:Int) (w:World) :
  Calls Tryz.prog 179 #[.string s,.int .u8 c] w fun e w'=>e=.returned (.int .i64 (Lib.indexByte s.data.toList c.toNat.toUInt8))∧w'=w:=Any.strings_IndexByte Tryz.lays137 s c w
open Go.RowKit in
open Go.Lib in
open Go.Lib in
open Go.Lib in
open Go.Lib in
open Go.RowKit Go.Sort Go.Lib in
open Go.RowKit Go.Sort Go.Lib in
open Go.RowKit Go.Sort Go.Lib in
open Go.RowKit Go.Sort Go.Lib in
open Go.RowKit Go.Sort Go.Lib in
def Tryz.laysM171_ren:Go.Shelf.Ren:=⟨fun | 171=>94 | 243=>144 | 246=>184 | 283=>218 | 284=>219 | 285=>220 | 286=>221 | 129=>241 | 317=>240 | 318=>242 | 319=>243 | 320=>244 | 337=>250 | 338=>251 | n=>n,fun | 3=>3 | 9=>9 | 2=>2 | 4=>4 | 171=>260 | 0=>0 | 53=>104 | 37=>172 | 5=>5 | 173=>263 | 212=>281 | 51=>275 | 20=>20 | 213=>282 | 46=>253 | 232=>294 | 233=>295 | n=>n,fun | 17=>3 | 18=>7 | 19=>8 | n=>n⟩
theorem Tryz.laysM171:Go.Proofs.LaysM.n171 Tryz.prog Tryz.laysM171_ren:={
 mixed:=by kernel_rfl
 f129:=Tryz.func241.trans (congrArg some (by kernel_rfl))
 f171:=Tryz.func94.trans (congrArg some (by kernel_rfl))
 f243:=Tryz.func144.trans (congrArg some (by kernel_rfl))
 f246:=Tryz.func184.trans (congrArg some (by kernel_rfl))
 f283:=Tryz.func218.trans (congrArg some (by kernel_rfl))
 f284:=Tryz.func219.trans (congrArg some (by kernel_rfl))
 f285:=Tryz.func220.trans (congrArg some (by kernel_rfl))
 f286:=Tryz.func221.trans (congrArg some (by kernel_rfl))
 f317:=Tryz.func240.trans (congrArg some (by kernel_rfl))
 f318:=Tryz.func242.trans (congrArg some (by kernel_rfl))
 f319:=Tryz.func243.trans (congrArg some (by kernel_rfl))
 f320:=Tryz.func244.trans (congrArg some (by kernel_rfl))
 f337:=Tryz.func250.trans (congrArg some (by kernel_rfl))
 f338:=Tryz.func251.trans (congrArg some (by kernel_rfl))
 t0:=Qu0
 a0:=Qg0
 z0:=Qs0
 v0:=Qz0
 t2:=Tryz.underlying2
 a2:=Tryz.isAgg2
 z2:=Tryz.sizeOf2
 v2:=Tryz.zeroValue2
 t3:=Qu3
 a3:=Qg3
 z3:=Qs3
 v3:=Qz3
 t4:=Qu4
 a4:=Qg4
 z4:=Qs4
 v4:=Qz4
 t5:=Qu5
 a5:=Qg5
 z5:=Qs5
 v5:=Qz5
 t9:=Qu9
 a9:=Qg9
 z9:=Qs9
 v9:=Qz9
 t20:=Tryz.underlying20
 a20:=Tryz.isAgg20
 z20:=Tryz.sizeOf20
 v20:=Tryz.zeroValue20
 t37:=X25
 a37:=Xgk
 z37:=Xa9
 v37:=Tryz.zeroValue172
 t46:=X7z
 a46:=Xmb
 z46:=Xl0
 v46:=Xky
 t51:=Xui
 a51:=Tryz.isAgg275
 z51:=Tryz.sizeOf275
 v51:=Xtf
 t53:=Xay
 a53:=Tryz.isAgg104
 z53:=Xha
 v53:=Xs3
 t171:=Tryz.underlying260
 a171:=Tryz.isAgg260
 z171:=Tryz.sizeOf260
 v171:=Tryz.zeroValue260
 t173:=Tryz.underlying263
 a173:=Tryz.isAgg263
 z173:=Tryz.sizeOf263
 v173:=Tryz.zeroValue263
 t212:=Tryz.underlying281
 a212:=Tryz.isAgg281
 z212:=Tryz.sizeOf281
 v212:=Tryz.zeroValue281
 t213:=Tryz.underlying282
 a213:=Tryz.isAgg282
 z213:=Tryz.sizeOf282
 t232:=Tryz.underlying294
 a232:=Tryz.isAgg294
 z232:=Tryz.sizeOf294
 v232:=Tryz.zeroValue294
 t233:=Tryz.underlying295
 a233:=Tryz.isAgg295
 z233:=Tryz.sizeOf295
 v233:=Tryz.zeroValue295
 g17:=by kernel_rfl
 g18:=by kernel_rfl
 g19:=by kernel_rfl
 i0:=by kernel_rfl
 i2:=by kernel_rfl
 i3:=by kernel_rfl
 i4:=by kernel_rfl
 i5:=by kernel_rfl
 i9:=by kernel_rfl
 i20:=by kernel_rfl
 i37:=by kernel_rfl
 i46:=by kernel_rfl
 i51:=by kernel_rfl
 i53:=by kernel_rfl
 i171:=by kernel_rfl
 i173:=by kernel_rfl
 i212:=by kernel_rfl
 i232:=by kernel_rfl
 i233:=by kernel_rfl
 m17:=by kernel_rfl
 m18:=by kernel_rfl
 m19:=by kernel_rfl }
open Go.RowKit Go.Sort Go.Lib in
theorem Tryz.strconv_Itoa (n : Int) (h0 : -9223372036854775808 ≤ n) (h1 : n ≤ 9223372036854775807) (w : World) (htab : Lib.TabIs Tryz.prog w "internal/strconv.uint64pow10" .u64 Lib.pow10Tab) :
  Calls Tryz.prog 94 #[.int .i64 n] w fun e w'=>e=.returned (.string ⟨(Lib.itoa n).toArray⟩)∧∃ k os,w'=grow (w.drewN k) os:=Any.strconv_Itoa Tryz.laysM171 n h0 h1 w htab
open Go.RowKit Go.Sort Go.Lib in
open Go.RowKit Go.Lib in
open Go.RowKit Go.Lib in
open Go.RowKit Go.Lib in
open Go.RowKit Go.Lib in
open Go.RowKit Go.Lib in
open Go.RowKit Go.Lib in
open Go.RowKit Go.Lib in
open Go.RowKit Go.Lib in
open Go.RowKit Go.Lib in
def Tryz.lays145_ren:Go.Shelf.Ren:=⟨fun | 145=>86 | 220=>136 | 219=>174 | 217=>209 | 225=>210 | 224=>211 | 267=>212 | 266=>234 | 314=>235 | n=>n,fun | 9=>9 | 4=>4 | 59=>137 | 3=>3 | 5=>5 | 46=>253 | 146=>276 | 51=>275 | n=>n,fun | 1=>1 | n=>n⟩
theorem Tryz.lays145:Go.Proofs.Lays.n145 Tryz.prog Tryz.lays145_ren:={
 mixed:=by kernel_rfl
 f145:=Qf86.trans (congrArg some (by kernel_rfl))
 f217:=Qf209.trans (congrArg some (by kernel_rfl))
 f219:=Tryz.func174.trans (congrArg some (by kernel_rfl))
 f220:=Tryz.func136.trans (congrArg some (by kernel_rfl))
 f224:=Qf211.trans (congrArg some (by kernel_rfl))
 f225:=Qf210.trans (congrArg some (by kernel_rfl))
 f266:=Qf234.trans (congrArg some (by kernel_rfl))
 f267:=Tryz.func212.trans (congrArg some (by kernel_rfl))
 f314:=Tryz.func235.trans (congrArg some (by kernel_rfl))
 t3:=Qu3
 a3:=Qg3
 z3:=Qs3
 v3:=Qz3
 t4:=Qu4
 a4:=Qg4
 z4:=Qs4
 v4:=Qz4
 t5:=Qu5
 a5:=Qg5
 z5:=Qs5
 v5:=Qz5
 t9:=Qu9
 a9:=Qg9
 z9:=Qs9
 v9:=Qz9
 t46:=X7z
 a46:=Xmb
 z46:=Xl0
 v46:=Xky
 t51:=Xui
 a51:=Tryz.isAgg275
 z51:=Tryz.sizeOf275
 v51:=Xtf
 t59:=Tryz.underlying137
 a59:=Tryz.isAgg137
 z59:=Tryz.sizeOf137
 v59:=Tryz.zeroValue137
 t146:=Tryz.underlying276
 a146:=Tryz.isAgg276
 z146:=Tryz.sizeOf276
 v146:=Tryz.zeroValue276
 g1:=by kernel_rfl }
open Go.RowKit Go.Lib in
theorem Tryz.strings_Cut (s sep:ByteArray) (m:Int) (w:World) (hs:s.size<4294967281) (hm:w.cell? ⟨1,0,none⟩=some (.int .i64 m)) :
  Calls Tryz.prog 86 #[.string s,.string sep] w fun e w'=>e=.returned (.tuple #[.string ⟨(Lib.cut s.data.toList sep.data.toList).1.toArray⟩,.string ⟨(Lib.cut s.data.toList sep.data.toList).2.1.toArray⟩,.bool (Lib.cut s.data.toList sep.data.toList).2.2])∧∃ n,w'=w.drewN n:=Any.strings_Cut Tryz.lays145 s sep m w hs hm
open Go.RowKit Go.Lib in
open Go.RowKit Go.Lib in
open Go.RowKit Go.Lib in
open Go.RowKit Go.Lib in
open Go.RowKit Go.Lib in
open Go.RowKit Go.Lib in
open Go.RowKit Go.Lib in
open Go.RowKit Go.Lib in
open Go.RowKit Go.Lib in
open Go.RowKit Go.Lib in
open Go.RowKit Go.Lib in
def Tryz.lays146_ren:Go.Shelf.Ren:=⟨fun | 146=>143 | 221=>183 | 268=>215 | 138=>216 | 143=>217 | 195=>237 | 197=>238 | 218=>239 | 219=>174 | 260=>249 | 217=>209 | 225=>210 | 224=>211 | 267=>212 | 266=>234 | 314=>235 | n=>n,fun | 9=>9 | 31=>57 | 3=>3 | 4=>4 | 0=>0 | 105=>278 | 21=>21 | 5=>5 | 46=>253 | 119=>290 | 139=>293 | 138=>292 | 146=>276 | 51=>275 | n=>n,fun | 1=>1 | 3=>5 | 4=>6 | n=>n⟩
theorem Tryz.lays146:Go.Proofs.Lays.n146 Tryz.prog Tryz.lays146_ren:={
 mixed:=by kernel_rfl
 f138:=Tryz.func216.trans (congrArg some (by kernel_rfl))
 f143:=Tryz.func217.trans (congrArg some (by kernel_rfl))
 f146:=Tryz.func143.trans (congrArg some (by kernel_rfl))
 f195:=Tryz.func237.trans (congrArg some (by kernel_rfl))
 f197:=Tryz.func238.trans (congrArg some (by kernel_rfl))
 f217:=Qf209.trans (congrArg some (by kernel_rfl))
 f218:=Tryz.func239.trans (congrArg some (by kernel_rfl))
 f219:=Tryz.func174.trans (congrArg some (by kernel_rfl))
 f221:=Tryz.func183.trans (congrArg some (by kernel_rfl))
 f224:=Qf211.trans (congrArg some (by kernel_rfl))
 f225:=Qf210.trans (congrArg some (by kernel_rfl))
 f260:=Tryz.func249.trans (congrArg some (by kernel_rfl))
 f266:=Qf234.trans (congrArg some (by kernel_rfl))
 f267:=Tryz.func212.trans (congrArg some (by kernel_rfl))
 f268:=Tryz.func215.trans (congrArg some (by kernel_rfl))
 f314:=Tryz.func235.trans (congrArg some (by kernel_rfl))
 t0:=Qu0
 a0:=Qg0
 z0:=Qs0
 v0:=Qz0
 t3:=Qu3
 a3:=Qg3
 z3:=Qs3
 v3:=Qz3
 t4:=Qu4
 a4:=Qg4
 z4:=Qs4
 v4:=Qz4
 t5:=Qu5
 a5:=Qg5
 z5:=Qs5
 v5:=Qz5
 t9:=Qu9
 a9:=Qg9
 z9:=Qs9
 v9:=Qz9
 t21:=Qu21
 a21:=Qg21
 z21:=Qs21
 v21:=Qz21
 t31:=X19
 a31:=Xkb
 z31:=Xk0
 v31:=Qz57
 t46:=X7z
 a46:=Xmb
 z46:=Xl0
 v46:=Xky
 t51:=Xui
 a51:=Tryz.isAgg275
 z51:=Tryz.sizeOf275
 v51:=Xtf
 t105:=Tryz.underlying278
 a105:=Tryz.isAgg278
 z105:=Tryz.sizeOf278
 v105:=Tryz.zeroValue278
 t119:=Tryz.underlying290
 a119:=Tryz.isAgg290
 z119:=Tryz.sizeOf290
 t138:=Tryz.underlying292
 a138:=Tryz.isAgg292
 z138:=Tryz.sizeOf292
 v138:=Tryz.zeroValue292
 t139:=Tryz.underlying293
 a139:=Tryz.isAgg293
 z139:=Tryz.sizeOf293
 v139:=Tryz.zeroValue293
 t146:=Tryz.underlying276
 a146:=Tryz.isAgg276
 z146:=Tryz.sizeOf276
 v146:=Tryz.zeroValue276
 g1:=by kernel_rfl
 g3:=by kernel_rfl
 g4:=by kernel_rfl }
open Go.RowKit Go.Lib in
theorem Tryz.strings_Split (s sep:ByteArray) (m:Int) (w:World) (hs:s.size<4294967281) (hm:w.cell? ⟨1,0,none⟩=some (.int .i64 m)) (h1:1≤sep.size) :
  Calls Tryz.prog 143 #[.string s,.string sep] w fun e w' =>
   e=.returned (.slice (some ⟨w.heap.size,0,none⟩) (Lib.countB s sep+1) (Lib.countB s sep+1))∧w'=w.alloc (.cells ((Lib.splitB sep 0 (Lib.countB s sep) s).map Value.string).toArray 9):=Any.strings_Split Tryz.lays146 (by kernel_rfl) s sep m w hs hm h1
open Go.RowKit Go.Lib in
open Go.RowKit Go.Lib in
def Tryz.lays152_ren:Go.Shelf.Ren:=⟨fun | 152=>175 | 137=>179 | 119=>213 | 224=>211 | 225=>210 | 217=>209 | 266=>234 | n=>n,fun | 9=>9 | 21=>21 | 3=>3 | 4=>4 | 5=>5 | 0=>0 | 46=>253 | n=>n,fun | n=>n⟩
theorem Tryz.lays152:Go.Proofs.Lays.n152 Tryz.prog Tryz.lays152_ren:={
 mixed:=by kernel_rfl
 f119:=Qf213.trans (congrArg some (by kernel_rfl))
 f137:=Qf179.trans (congrArg some (by kernel_rfl))
 f152:=Qf175.trans (congrArg some (by kernel_rfl))
 f217:=Qf209.trans (congrArg some (by kernel_rfl))
 f224:=Qf211.trans (congrArg some (by kernel_rfl))
 f225:=Qf210.trans (congrArg some (by kernel_rfl))
 f266:=Qf234.trans (congrArg some (by kernel_rfl))
 t0:=Qu0
 a0:=Qg0
 z0:=Qs0
 v0:=Qz0
 t3:=Qu3
 a3:=Qg3
 z3:=Qs3
 v3:=Qz3
 t4:=Qu4
 a4:=Qg4
 z4:=Qs4
 v4:=Qz4
 t5:=Qu5
 a5:=Qg5
 z5:=Qs5
 v5:=Qz5
 t9:=Qu9
 a9:=Qg9
 z9:=Qs9
 v9:=Qz9
 t21:=Qu21
 a21:=Qg21
 z21:=Qs21
 v21:=Qz21
 t46:=X7z
 a46:=Xmb
 z46:=Xl0
 v46:=Xky }
open Go.RowKit Go.Lib in
theorem Tryz.strings_IndexRune_ascii (s:ByteArray) (r:Int) (w:World) (h0:0≤r) (h1:r<128) :
  Calls Tryz.prog 175 #[.string s,.int .i32 r] w fun e w'=>e=.returned (.int .i64 (Lib.indexByte s.data.toList r.toNat.toUInt8))∧w'=w:=Any.strings_IndexRune_ascii Tryz.lays152 s r w h0 h1
open Go.RowKit Go.Lib in
open Go.RowKit Go.Lib in
def Tryz.lays153_ren:Go.Shelf.Ren:=⟨fun | 153=>137 | 152=>175 | 226=>176 | 227=>177 | 228=>178 | 137=>179 | 119=>213 | 224=>211 | 225=>210 | 217=>209 | 266=>234 | n=>n,fun | 9=>9 | 3=>3 | 4=>4 | 5=>5 | 21=>21 | 117=>215 | 116=>214 | 0=>0 | 46=>253 | 124=>255 | n=>n,fun | n=>n⟩
theorem Tryz.lays153:Go.Proofs.Lays.n153 Tryz.prog Tryz.lays153_ren:={
 mixed:=by kernel_rfl
 f119:=Qf213.trans (congrArg some (by kernel_rfl))
 f137:=Qf179.trans (congrArg some (by kernel_rfl))
 f152:=Qf175.trans (congrArg some (by kernel_rfl))
 f153:=Tryz.func137.trans (congrArg some (by kernel_rfl))
 f217:=Qf209.trans (congrArg some (by kernel_rfl))
 f224:=Qf211.trans (congrArg some (by kernel_rfl))
 f225:=Qf210.trans (congrArg some (by kernel_rfl))
 f226:=Tryz.func176.trans (congrArg some (by kernel_rfl))
 f227:=Tryz.func177.trans (congrArg some (by kernel_rfl))
 f228:=Tryz.func178.trans (congrArg some (by kernel_rfl))
 f266:=Qf234.trans (congrArg some (by kernel_rfl))
 t0:=Qu0
 a0:=Qg0
 z0:=Qs0
 v0:=Qz0
 t3:=Qu3
 a3:=Qg3
 z3:=Qs3
 v3:=Qz3
 t4:=Qu4
 a4:=Qg4
 z4:=Qs4
 v4:=Qz4
 t5:=Qu5
 a5:=Qg5
 z5:=Qs5
 v5:=Qz5
 t9:=Qu9
 a9:=Qg9
 z9:=Qs9
 v9:=Qz9
 t21:=Qu21
 a21:=Qg21
 z21:=Qs21
 v21:=Qz21
 t46:=X7z
 a46:=Xmb
 z46:=Xl0
 v46:=Xky
 t116:=Tryz.underlying214
 a116:=Tryz.isAgg214
 z116:=Tryz.sizeOf214
 t117:=Tryz.underlying215
 a117:=Tryz.isAgg215
 z117:=Tryz.sizeOf215
 v117:=Tryz.zeroValue215
 t124:=Tryz.underlying255
 a124:=Tryz.isAgg255
 z124:=Tryz.sizeOf255
 v124:=Tryz.zeroValue255 }
open Go.RowKit Go.Lib in
open Go.RowKit Go.Lib in
open Go.RowKit Go.Lib in
open Go.RowKit Go.Lib in
open Go.RowKit Go.Lib in
open Go.RowKit Go.Lib in
theorem Tryz.strings_IndexAny_long (hv116:∀ w,(zeroValue 214).run Tryz.prog w=.ok (.agg (Array.replicate 256 (.bool false))) w) (s chars:ByteArray) (w:World) (h2:2≤chars.size) (h8:8<s.size) (hs:s.size<4294967281) (hcs:chars.size<4294967281) (hascii:∀ (j:Nat) b,chars.data.toList[j]?=some b→b.toNat<128) :
  Calls Tryz.prog 137 #[.string s,.string chars] w fun e w'=>e=.returned (.int .i64 (Lib.indexAny s.data.toList chars.data.toList))∧w'=((w.alloc (.cells (Lib.setCells chars.data.toList) 214)).alloc (.cells (Lib.setCells chars.data.toList) 214)):=Any.strings_IndexAny_long Tryz.lays153 hv116 (by kernel_rfl) s chars w h2 h8 hs hcs hascii
open Go.RowKit Go.Lib in
open Go.RowKit Go.Lib in
open Go.RowKit Go.Lib in
open Go.RowKit Go.Lib in
def Tryz.laysNm216_ren:Go.Shelf.Ren:=⟨fun | 16=>157 | n=>n,fun | 24=>57 | 9=>9 | 4=>4 | n=>n,fun | n=>n⟩
theorem Tryz.laysNm216:Go.Proofs.Lays2.n16 Tryz.prog Tryz.laysNm216_ren:={
 mixed:=by kernel_rfl
 f16:=Tryz.func157.trans (congrArg some (by kernel_rfl))
 t4:=Qu4
 a4:=Qg4
 z4:=Qs4
 v4:=Qz4
 t9:=Qu9
 a9:=Qg9
 z9:=Qs9
 v9:=Qz9
 t24:=X19
 a24:=Xkb
 z24:=Xk0
 v24:=Qz57
 i9:=by kernel_rfl }
open Go.RowKit Go.Lib in
theorem Tryz.slices_Clone_string (b off n c:Nat) (zs:List ByteArray) (w:World) (hz:n≤zs.length) (hbig:n*16≤140737488355328) (hc:∀ j,j<zs.length→w.cell? ⟨b,off+j,none⟩=some (.string (zs.getD j ByteArray.empty))) :
  Calls Tryz.prog 157 #[.slice (some ⟨b,off,none⟩) n c] w fun e w'=>∃ v',e=.returned v'∧w'.ownsRow w.heap.size 9 1 v' n ((zs.take n).map (Value.string))∧v'≠.slice none 0 0∧Below w.heap.size w w':=Any.slices_Clone_string Tryz.laysNm216 b off n c zs w hz hbig hc
open Go.RowKit Go.Lib in
theorem Tryz.slices_Clone_string_nil (n c:Nat) (w:World) :
  Calls Tryz.prog 157 #[.slice none n c] w fun e w'=>e=.returned (.slice none 0 0)∧w'=w:=Any.slices_Clone_string_nil Tryz.laysNm216 n c w
open Go.RowKit Go.Lib in
theorem Tryz.slices_Clone_string_zero (a:Addr) (c:Nat) (w:World) :
  Calls Tryz.prog 157 #[.slice (some a) 0 c] w fun e w'=>∃ v',e=.returned v'∧w'.ownsRow w.heap.size 9 1 v' 0 []∧v'≠.slice none 0 0∧Below w.heap.size w w':=Any.slices_Clone_string_zero Tryz.laysNm216 a c w
end Go.Proofs
namespace Go.Proofs.YtfibbpgikjggfaaGreatDoor
open Gk Pc Ul
theorem X4c (s:List UInt8) (c:UInt8) (w:World):Calls Tryz.prog 179 [S s,U8 c.toNat].toArray w (Ret fun v w'=>v=I64 (Go.Lib.indexByte s c)∧w=w') :=
 (Tryz.strings_IndexByte ⟨s.toArray⟩ c.toNat w).mono fun e w' he=>by
  obtain ⟨rfl,rfl⟩:=he;refine ⟨_,rfl,?_,rfl⟩
  congr 2
  simp
theorem Xrs (s:List UInt8) (w:World) :
  Cz 140 [S s] w fun v w'=>v=I64 (Xts s:Nat)∧w=w':=by
 refine calls Tryz.func140 rfl Tryz.ntmps140 rfl (.seq (.q 1 rfl (.seq (.seq (.q 2 rfl ?_)))));refine .cond rfl (fun hb4=>?_) fun hb4=>?_
 ·have hc4:=hb4; simp only [Y6] at hc4;refine .seq (.q 1 rfl (.ret (X9 Tryz.results140 rfl ?_)));exact ⟨_,rfl,by rw [Xts,if_pos (show s=https from hc4)]; rfl,rfl⟩
 have hc4:=hb4; simp only [Y6] at hc4;refine .skip (.seq (.q 1 rfl (.ret (X9 Tryz.results140 rfl ?_))));exact ⟨_,rfl,by rw [Xts,if_neg (show ¬ s=https from hc4)]; rfl,rfl⟩
theorem Xej (s:List UInt8) (hl:s.length≤1000000) (B w:World) (I:Im) (As:List X7) (hS:Sat B w I As) :
  Cz 87 [S s] w fun v w'=>v=S (low s)∧Sat B w' I As:=by
 refine calls Tryz.func87 rfl Tryz.ntmps87 rfl (.seq (.q 1 rfl (.seq (.t 1 rfl (.strBytes (s:=s) hS (.of rfl) Qu9 X25 Qu5 rfl ?_)))));intro m7 cap7 r7 w hS;refine .q 1 rfl (.nil (.seq (.seq (.region (.run 3 rfl ⟨⟨_,X25⟩,trivial⟩ (.nil (.block ?_)))))));refine .loop (σ:=Nat) (fun i=>[(3,.slice (some (ad m7 0)) s.length cap7),(8,.slice (some (ad m7 0)) s.length cap7),(9,I64 (s.length:Nat)),(10,I64 (i:Nat))]) (fun i w=>i≤s.length∧Sat B w I (blkM m7 (bcs (mid s i) ++ List.replicate r7 (Value.int .u8 0)) 5::As)) (fun i=>s.length - i) 0 ⟨rfl,rfl,rfl,rfl,trivial⟩ ⟨Yo _,by rw [Xqx]; exact hS⟩ ?_;rintro i w ⟨hi,hS⟩;refine .seq (.q 1 rfl (.seq ?_));refine .cond rfl (fun hb11=>?_) fun hb11=>?_
 ·have hc11:=hb11; simp only [Y6] at hc11;refine .skip (.seq (.block (.seq ?_)));have hl1:(bcs (mid s i)).length=s.length:=by rw [Y10,Xkx]
  have hld:(bcs (mid s i) ++ List.replicate r7 (Value.int .u8 0))[i]?=some (U8 (at_ s i).toNat):=by
   rw [Yk (by omega),Yy,Xrg s i (by omega)]; rfl
  refine .t 1 rfl (.val (.io rfl rfl (by omega) (by omega) X25 Qs5) rfl ?_);refine .val (.ldM (.of rfl) hS (k:=0) rfl Qg5 (by rw [Yd,Ym,Y1i]; exact hld)) rfl ?_;refine .q 2 rfl (.nil (.seq (.t 3 rfl (.gm rfl rfl rfl rfl (.gval rfl rfl (fun hg1=>(.leq (.gd hg1 rfl) (.of rfl))) rfl (.val (.pa rfl rfl rfl) rfl (.nil ?_)))))));refine .cond rfl (fun hb20=>?_) fun hb20=>?_
  ·have hc20:=hb20; simp only [Y6] at hc20;refine .t 3 rfl (.val (.addw (.of rfl) (.of rfl)) rfl (.val (.subw (.of rfl) (.of rfl)) rfl (.val (.io rfl rfl (by omega) (by omega) X25 Qs5) rfl ?_)));refine .st1M hS (k:=0) rfl (.of rfl) (.of rfl) rfl Qs5 (by rw [Y0,hl1,Y1z]; omega) ?_;intro w hS;refine .nil (.region (.run 2 rfl ⟨⟨by omega,by omega⟩,trivial⟩ (.nil ?_)));refine ⟨i+1,⟨rfl,rfl,rfl,rfl,trivial⟩,⟨by omega,?_⟩,by omega⟩;have e:=Xin s i (by omega);rw [Yd,Ym,Y1i] at hS;rw [Y47 _ _ (by omega),show Value.int .u8 (IntKind.u8.wrap ((IntKind.u8.wrap (((at_ s (i:Int)).toNat:Int)+97)) - 65))=U8 (lo (at_ s (i:Int))).toNat by
    have:=lo_up (c:=at_ s (i:Int)) (by simpa only [Yq,decide_eq_true_eq] using hb20)
    rw [this,IntKind.wrap_u8,IntKind.wrap_u8]; congr 1; omega,← List.map_set,e] at hS
   exact hS
  have hc20:=hb20; simp only [Y6] at hc20;refine .skip (.region (.run 2 rfl ⟨⟨by omega,by omega⟩,trivial⟩ (.nil ?_)));refine ⟨i+1,⟨rfl,rfl,rfl,rfl,trivial⟩,⟨by omega,?_⟩,by omega⟩;rw [← Xqb s i (by omega) (lo_no (fun hh=>by
   have:(decide (65≤((at_ s (i:Int)).toNat:Int)) && decide (((at_ s (i:Int)).toNat:Int)≤90))=true:=by simp only [Yq,decide_eq_true_eq]; exact hh
   rw [this] at hb20; cases hb20))]
  exact hS
 have hc11:=hb11; simp only [Y6] at hc11;refine .exit (.seq (.t 1 rfl ?_));refine .val (.bytesStrM (l:=low s) (b:=m7) (o:=0) (cap:=cap7) (.of (by rw [X27]; rfl)) hS (k:=0) rfl X25 Qu5 Qu9 (fun j hj=>by
  rw [X27] at hj;rw [Yd,Yk (by rw [Y10,Xkx]; omega),Yy,Xst s i (by omega),Y4 (by rw [X27]; omega)];rfl)) rfl ?_
 refine .q 1 rfl (.nil (.ret (X9 Tryz.results87 rfl ?_)));exact ⟨_,rfl,rfl,hS.drop (k:=0) rfl⟩
theorem Xpk (s:List UInt8) (w:World) :
  Cz 89 [S s] w fun v w'=>v=.bool (hostOk s)∧w=w':=by
 obtain ⟨w0,hw0⟩:∃ w0,w=w0:=⟨_,rfl⟩
 rw [show (fun (v:Value) (w':World)=>v=.bool (hostOk s)∧w=w')=(fun v w'=>v=.bool (hostOk s)∧w0=w') by rw [hw0]];refine calls Tryz.func89 rfl Tryz.ntmps89 rfl (.seq (.q 1 rfl (.seq (.seq (.t 3 rfl (.gm rfl rfl rfl rfl (.gval rfl rfl (fun hg1=>(.len (.gd hg1 rfl) Qu9)) rfl (.gval rfl rfl (fun hg1=>(.gtr (.gd hg1 rfl) (.of rfl))) rfl (.val (.po rfl rfl rfl) rfl (.nil ?_))))))))));refine .cond rfl (fun hb11=>?_) fun hb11=>?_
 ·refine .seq (.q 1 rfl (.ret (X9 Tryz.results89 rfl ?_)));refine ⟨_,rfl,?_,hw0.symm⟩
  congr 1
  rw [hostOk];rcases Y23.1 hb11 with h | h
  ·rw [show s=[] by simpa using h]; rfl
  ·simp only [decide_eq_true_eq] at h
   rw [show decide (64<s.length)=true from decide_eq_true (by omega)]; simp
 have hc11:=hb11; simp only [Y6] at hc11;refine .skip (.seq (.seq (.region (.run 3 rfl ⟨Qu9,trivial⟩ (.nil (.block (.loop (σ:=Nat) (fun i=>[(0,S s),(13,I64 (s.length:Nat)),(14,I64 (i:Nat))]) (fun i w=>i≤s.length∧(∀ j,j<i→j<s.length→Xdm (at_ s (j:Int))=true)∧w=w0) (fun i=>s.length - i) 0 ⟨rfl,rfl,rfl,trivial⟩ ⟨Yo _,fun _ h=>absurd h (by omega),hw0⟩ ?_)))))));rintro i w ⟨hi,hok,hw⟩;refine .seq (.q 1 rfl (.seq ?_));refine .cond rfl (fun hb15=>?_) fun hb15=>?_
 ·have hc15:=hb15; simp only [Y6] at hc15;refine .skip (.seq (.block (.seq (.q 2 rfl (.seq (.region (.run 4 rfl ⟨⟨⟨by omega,by omega⟩,Qu9⟩,trivial⟩ (.nil (.seq (.t 1 rfl (.call Xp6 rfl (ec9 rfl X0) rfl (X9z _ _) ?_)))))))))));rintro _ _ ⟨rfl,rfl⟩;refine .q 2 rfl (.gm rfl rfl rfl rfl (.gval rfl rfl (fun hg1=>(.eql (.gd hg1 rfl) (.of rfl))) rfl (.val (.po rfl rfl rfl) rfl (.q 1 rfl (.gm rfl rfl rfl rfl (.gval rfl rfl (fun hg1=>(.eql (.gd hg1 rfl) (.of rfl))) rfl (.val (.po rfl rfl rfl) rfl (.nil ?_))))))));refine .cond rfl (fun hb30=>?_) fun hb30=>?_
  ·have hc30:=hb30; simp only [Y6] at hc30;refine .seq (.q 1 rfl (.ret (X9 Tryz.results89 rfl ?_)));refine ⟨_,rfl,?_,hw.symm⟩;rw [Xfg] at hb30;rw [hostOk,X7o (p:=Xdm) (i:=i) (by omega) (by simpa using hb30),Y3n]
  have hc30:=hb30; simp only [Y6] at hc30;refine .skip (.region (.run 2 rfl ⟨⟨by omega,by omega⟩,trivial⟩ (.nil ?_)));refine ⟨i+1,⟨rfl,rfl,rfl,trivial⟩,⟨by omega,fun j hj hjl=>?_,hw⟩,by omega⟩;rcases Yr j i with h1 | h1
  ·exact hok j h1 hjl
  ·have e:j=i:=by omega
   subst e;rw [Xfg] at hb30;simpa using hb30
 have hc15:=hb15; simp only [Y6] at hc15;refine .exit (.seq (.q 1 rfl (.ret (X9 Tryz.results89 rfl ?_))));refine ⟨_,rfl,?_,hw.symm⟩;rw [hostOk,X8r hok (by omega),Y4z];obtain ⟨h1,h2⟩:=(Y15).1 hb11;rw [show decide (64<s.length)=false from decide_eq_false (by simp only [decide_eq_false_iff_not] at h2; omega),show s.isEmpty=false by cases s with | nil=>simp at h1 | cons a b=>rfl];rfl
theorem Xj2 (s:List UInt8) (hl:s.length≤1000000) (w:World) :
  Cz 141 [S s] w fun v w'=>v=.bool (s.all X2x)∧w=w':=by
 obtain ⟨w0,hw0⟩:∃ w0,w=w0:=⟨_,rfl⟩
 rw [show (fun (v:Value) (w':World)=>v=.bool (s.all X2x)∧w=w')=(fun v w'=>v=.bool (s.all X2x)∧w0=w') by rw [hw0]];refine calls Tryz.func141 rfl Tryz.ntmps141 rfl (.seq (.q 1 rfl (.seq (.seq (.region (.run 3 rfl ⟨Qu9,trivial⟩ (.nil (.block (.loop (σ:=Nat) (fun i=>[(0,S s),(6,I64 (s.length:Nat)),(7,I64 (i:Nat))]) (fun i w=>i≤s.length∧(∀ j,j<i→j<s.length→X2x (at_ s (j:Int))=true)∧w=w0) (fun i=>s.length - i) 0 ⟨rfl,rfl,rfl,trivial⟩ ⟨Yo _,fun _ h=>absurd h (by omega),hw0⟩ ?_)))))))));rintro i w ⟨hi,hok,hw⟩;refine .seq (.q 1 rfl (.seq ?_));refine .cond rfl (fun hb8=>?_) fun hb8=>?_
 ·have hc8:=hb8; simp only [Y6] at hc8;refine .skip (.seq (.block (.seq (.q 2 rfl (.seq (.region (.run 4 rfl ⟨⟨⟨by omega,by omega⟩,Qu9⟩,trivial⟩ (.nil (.seq (.t 3 rfl (.gm rfl rfl rfl rfl (.gval rfl rfl (fun hg1=>(.gtr (.gd hg1 rfl) (.of rfl))) rfl (.val (.po rfl rfl rfl) rfl (.q 1 rfl (.gm rfl rfl rfl rfl ?_)))))))))))))));refine .gcall (T:=fun w=>w=w0) rfl rfl rfl Qf179 rfl (fun hg1=>(ec9 rfl (X6 (.gd hg1 rfl) X0))) rfl (fun hg1=>(X4c BAD (at_ s (i:Int)) _).mono (fun e w2 he=>by obtain ⟨v,a,b,c⟩:=he; exact ⟨v,a,b,by rw [← c]; exact hw⟩)) hw ?_;rintro w hw;refine .gval rfl rfl (fun hg1=>(.geq (.gd hg1 rfl) (.of rfl))) rfl (.val (.po rfl rfl rfl) rfl (.nil ?_));refine .cond rfl (fun hb23=>?_) fun hb23=>?_
  ·have hc23:=hb23; simp only [Y6] at hc23;refine .seq (.q 1 rfl (.ret (X9 Tryz.results141 rfl ?_)));refine ⟨_,rfl,?_,hw.symm⟩;rw [Xbd] at hb23;rw [X7o (p:=X2x) (i:=i) (by omega) (by simpa using hb23)]
  have hc23:=hb23; simp only [Y6] at hc23;refine .skip (.region (.run 2 rfl ⟨⟨by omega,by omega⟩,trivial⟩ (.nil ?_)));refine ⟨i+1,⟨rfl,rfl,rfl,trivial⟩,⟨by omega,fun j hj hjl=>?_,hw⟩,by omega⟩;rcases Yr j i with h1 | h1
  ·exact hok j h1 hjl
  ·have e:j=i:=by omega
   subst e;rw [Xbd] at hb23;simpa using hb23
 have hc8:=hb8; simp only [Y6] at hc8;refine .exit (.seq (.q 1 rfl (.ret (X9 Tryz.results141 rfl ?_))));refine ⟨_,rfl,?_,hw.symm⟩;rw [X8r hok (by omega)]
theorem Xm3 (s:List UInt8) (i:Nat) (h4:i≤4) (h:∀ j,j<i→j<s.length→Xdx (at_ s (j:Int))=true):val (s.take i)≤9999:=by
 have step:∀ k,k≤i→val (s.take k)+1≤10 ^ k:=by
  intro k
  induction k with
  | zero=>intro _; simp [val]
  | succ k ih =>
   intro hk
   have:=ih (by omega)
   rcases Yr k s.length with hl | hl
   ·rw [X4b s k hl,Y2g];have hd:=h k (by omega) hl;simp only [Xdx,Yq,decide_eq_true_eq,Y1q] at hd
    have e1:(48:UInt8).toNat=48:=rfl;have e2:(57:UInt8).toNat=57:=rfl;rw [e1,e2] at hd;omega
   ·rw [show s.take (k+1)=s.take k by rw [Yz (by omega),Yz (by omega)],Y2g];omega
 have h1:=step i (Yu _);have h2:10 ^ i≤10 ^ 4:=Y3l (by decide) h4;have h3:10 ^ 4=10000:=by decide
 omega
theorem Xoq (s sch:List UInt8) (hl:s.length≤1000000) (w:World) :
  Cz 91 [S s,S sch] w fun v w'=>v=(if X1d s then Value.tuple #[I64 (X62 s sch:Nat),.bool true] else .tuple #[I64 0,.bool false])∧w=w':=by
 obtain ⟨w0,hw0⟩:∃ w0,w=w0:=⟨_,rfl⟩
 rw [show (fun (v:Value) (w':World)=>v=(if X1d s then Value.tuple #[I64 (X62 s sch:Nat),.bool true] else .tuple #[I64 0,.bool false])∧w=w')=(fun v w'=>v=(if X1d s then Value.tuple #[I64 (X62 s sch:Nat),.bool true] else .tuple #[I64 0,.bool false])∧w0=w') by rw [hw0]];refine calls Tryz.func91 rfl Tryz.ntmps91 rfl (.seq (.q 2 rfl (.seq (.q 1 rfl (.seq (.seq (.region (.run 3 rfl ⟨Qu9,trivial⟩ (.nil (.block (.loop (σ:=Nat) (fun i=>[(0,S s),(1,S sch),(6,I64 (val (s.take i):Nat)),(10,I64 (s.length:Nat)),(11,I64 (i:Nat))]) (fun i w=>i≤s.length∧i≤5∧(∀ j,j<i→j<s.length→Xdx (at_ s (j:Int))=true)∧(0<i→at_ s 0≠48)∧w=w0) (fun i=>s.length - i) 0 ⟨rfl,rfl,rfl,rfl,rfl,trivial⟩ ⟨Yo _,by decide,fun _ h=>absurd h (by omega),fun h=>absurd h (by omega),hw0⟩ ?_)))))))))));rintro i w ⟨hi,hi5,hok,h0,hw⟩;refine .seq (.q 1 rfl (.seq ?_));refine .cond rfl (fun hb12=>?_) fun hb12=>?_
 ·have hc12:=hb12; simp only [Y6] at hc12;refine .skip (.seq (.block (.seq (.q 2 rfl (.seq (.region (.run 4 rfl ⟨⟨⟨by omega,by omega⟩,Qu9⟩,trivial⟩ (.nil (.seq (.seq (.t 3 rfl (.gm rfl rfl rfl rfl (.gval rfl rfl (fun hg1=>(.gtr (.gd hg1 rfl) (.of rfl))) rfl (.val (.po rfl rfl rfl) rfl (.q 1 rfl (.gm rfl rfl rfl rfl (.gval rfl rfl (fun hg1=>(.eql (.gd hg1 rfl) (.of rfl))) rfl (.gval rfl rfl (fun hg1=>(.move (.gd hg1 rfl))) rfl (.gval2 rfl rfl rfl (fun hg1 hg2=>(.mo rfl)) rfl (.gval2 rfl rfl rfl (fun hg1 hg2=>(.eql (.gd2 hg1 hg2 rfl) (.of rfl))) rfl (.gval rfl rfl (fun hg1=>(.pand (.gd hg1 rfl) (.gd hg1 rfl) (.of rfl))) rfl (.val (.po rfl rfl rfl) rfl (.q 1 rfl (.gm rfl rfl rfl rfl (.gval rfl rfl (fun hg1=>(.gtr (.gd hg1 rfl) (.of rfl))) rfl (.val (.po rfl rfl rfl) rfl (.nil ?_)))))))))))))))))))))))))));refine .cond rfl (fun hb34=>?_) fun hb34=>?_
  ·have hc34:=hb34; simp only [Y6] at hc34;refine .seq (.q 2 rfl (.ret (X1e Qr91 rfl rfl ?_)));have hbad:X1d s=false:=by
    have h:=hb34;rcases Y23.1 h with h | h
    ·rcases Y23.1 h with h | h
     ·rw [X8y] at h;unfold X1d;rw [X7o (p:=Xdx) (i:=i) (by omega) (by simpa using h)];rfl
     ·simp only [Yq,beq_iff_eq] at h
      have e0:i=0:=by omega
      subst e0;unfold X1d
      have:s.headD 0=48:=by
       have h2:(at_ s ((0:Nat):Int)).toNat=48:=by omega
       have h3:at_ s ((0:Nat):Int)=48:=Y19.1 h2;cases s with
       | nil=>simp at hc12
       | cons a b=>exact h3
      rw [this]
      simp
    ·simp only [decide_eq_true_eq] at h
     have e5:i=5:=by omega
     have hd0:=hok 0 (by omega) (by omega);unfold X1d;rw [decide_eq_false (show ¬ val s≤65535 from fun hh=>by have:=Xsu s (by omega) hd0 (h0 (by omega)); omega)]
     simp
   refine ⟨_,rfl,?_,hw.symm⟩;rw [if_neg (by rw [Y1g]; exact hbad)]
  have hc34:=hb34; simp only [Y6] at hc34;refine .skip ?_;have hbyte:=(at_ s (i:Int)).toNat_lt;have hnb:¬ (((decide (((at_ s (i:Int)).toNat:Int)<48) || decide (57<((at_ s (i:Int)).toNat:Int))) || ((i:Int) == 0) && (((at_ s (i:Int)).toNat:Int) == 48)) || decide (4<(i:Int)))=true:=by rw [hb34]; decide
  have hdig:Xdx (at_ s (i:Int))=true:=by
   cases hd:Xdx (at_ s (i:Int)) with
   | true=>rfl
   | false=>exact absurd (by rw [X8y,hd]; rfl) hnb
  have hrg:48≤(at_ s (i:Int)).toNat∧(at_ s (i:Int)).toNat≤57:=by
   have:=hdig
   simp only [Xdx,Yq,decide_eq_true_eq,Y1q] at this
   have e1:(48:UInt8).toNat=48:=rfl;have e2:(57:UInt8).toNat=57:=rfl;rw [e1,e2] at this; exact this
  have hi4:i≤4:=by
   rcases Yr 4 i with h | h
   ·exact absurd (by rw [decide_eq_true (show 4<(i:Int) by omega),Bool.or_true]) hnb
   ·exact h
  have hh0:i=0→(at_ s (i:Int)).toNat≠48:=fun e h=>absurd (by
   rw [show ((i:Int) == 0)=true by simp [e],show (((at_ s (i:Int)).toNat:Int) == 48)=true by simp [h]]; simp) hnb
  have hv4:=Xm3 s i hi4 hok;refine .region (.run 3 rfl ⟨⟨by omega,by omega⟩,trivial⟩ ?_);refine .val (.subx (.of rfl) (.of rfl) (by rw [IntKind.wrap_u8]; omega)) rfl (.val (.cvi (.of rfl) Qu5 Qu3 (by rw [IntKind.wrap_i64]; omega)) rfl (.run 2 rfl ⟨⟨by omega,by omega⟩,trivial⟩ (.nil (.region (.run 2 rfl ⟨⟨by omega,by omega⟩,trivial⟩ (.nil ?_))))));refine ⟨i+1,⟨rfl,rfl,?_,rfl,rfl,trivial⟩,⟨by omega,by omega,fun j hj hjl=>?_,fun _=>?_,hw⟩,by omega⟩
  ·rw [X4b s i (by omega)];show some _=some _
   congr 3
   omega
  ·rcases Yr j i with h1 | h1
   ·exact hok j h1 hjl
   ·have e:j=i:=by omega
    rw [e]; exact hdig
  ·rcases Y1r i with e | e
   ·subst e;intro h;exact hh0 rfl (by show (at_ s ((0:Nat):Int)).toNat=48; rw [show ((0:Nat):Int)=0 from rfl,h]; rfl)
   ·exact h0 e
 have hc12:=hb12; simp only [Y6] at hc12;refine .exit (.seq (.seq (.t 3 rfl (.gm rfl rfl rfl rfl (.gval rfl rfl (fun hg1=>(.gtr (.gd hg1 rfl) (.of rfl))) rfl (.val (.po rfl rfl rfl) rfl (.nil ?_)))))));refine .cond rfl (fun hb47=>?_) fun hb47=>?_
 ·have hc47:=hb47; simp only [Y6] at hc47;refine .seq (.q 2 rfl (.ret (X1e Qr91 rfl rfl ?_)));have hlen:s.length=i:=by omega
  rw [← hlen,Y13] at hb47;have hbad:X1d s=false:=by
   unfold X1d;rcases Y23.1 hb47 with h | h
   ·simp only [decide_eq_true_eq] at h
    rw [decide_eq_false (show ¬ 1≤val s by omega)]; simp
   ·simp only [decide_eq_true_eq] at h
    rw [decide_eq_false (show ¬ val s≤65535 by omega)]; simp
  refine ⟨_,rfl,?_,hw.symm⟩;rw [if_neg (by rw [Y1g]; exact hbad)]
 have hc47:=hb47; simp only [Y6] at hc47;refine .skip (.seq (.seq (.t 2 rfl (.call Tryz.func140 rfl (ec9 rfl X0) rfl (Xrs sch _) ?_))));rintro _ w ⟨rfl,hw1⟩;rw [hw] at hw1;refine .q 1 rfl (.nil ?_);refine .cond rfl (fun hb51=>?_) fun hb51=>?_
 ·have hc51:=hb51; simp only [Y6] at hc51;refine .q 1 rfl (.seq (.q 3 rfl (.ret (X1e Qr91 rfl rfl ?_))));have hlen:s.length=i:=by omega
  have hb47':=hb47;rw [← hlen,Y13] at hb47';have hgood:X1d s=true:=by
   unfold X1d;obtain ⟨h1,h2⟩:=Y15.1 hb47';simp only [decide_eq_false_iff_not] at h1 h2
   have hne:s≠[]:=fun e=>by rw [e] at h1; simp [val] at h1
   have hp:0<s.length:=Y29.2 hne;rw [X8r hok (by omega),decide_eq_true (show 1≤val s by omega),decide_eq_true (show val s≤65535 by omega)]
   have:=h0 (by omega)
   have e:s.headD 0=at_ s 0:=by cases s with | nil=>exact absurd rfl hne | cons a b=>rfl
   rw [e];simp [this]
  refine ⟨_,rfl,?_,hw1⟩;rw [if_pos hgood,X62];have hb51':=hb51;rw [← hlen,Y13] at hb51';rw [if_pos (by simp only [beq_iff_eq] at hb51'; omega)]; rfl
 have hc51:=hb51; simp only [Y6] at hc51;refine .skip (.seq (.q 3 rfl (.ret (X1e Qr91 rfl rfl ?_))));have hlen:s.length=i:=by omega
 have hb47':=hb47;rw [← hlen,Y13] at hb47';have hgood:X1d s=true:=by
  unfold X1d;obtain ⟨h1,h2⟩:=Y15.1 hb47';simp only [decide_eq_false_iff_not] at h1 h2
  have hne:s≠[]:=fun e=>by rw [e] at h1; simp [val] at h1
  have hp:0<s.length:=Y29.2 hne;rw [X8r hok (by omega),decide_eq_true (show 1≤val s by omega),decide_eq_true (show val s≤65535 by omega)]
  have:=h0 (by omega)
  have e:s.headD 0=at_ s 0:=by cases s with | nil=>exact absurd rfl hne | cons a b=>rfl
  rw [e];simp [this]
 refine ⟨_,rfl,?_,hw1⟩;rw [if_pos hgood,X62];have hb51':=hb51;rw [← hlen,Y13] at hb51';rw [if_neg (by simp only [beq_eq_false_iff_ne] at hb51'; omega),← hlen,Y13]
theorem Xjm (n:Int) (w:World) :
  Cz 176 [I64 n] w fun v w'=>v=.bool (decide (8<n))∧w=w':=by
 refine calls Tryz.func176 rfl Tryz.ntmps176 rfl (.seq (.q 1 rfl (.seq (.q 3 rfl (.ret (X9 Tryz.results176 rfl ?_))))));exact ⟨_,rfl,rfl,rfl⟩
theorem Xd5 (r:Int) (w:World):Calls Tryz.prog 213 [.int .i32 r].toArray w (Ret fun v w'=>v=.bool (Go.Lib.validRune r)∧w=w') :=
 (Tryz.utf8_ValidRune r w).mono fun e w' he=>by
  obtain ⟨rfl,rfl⟩:=he;exact ⟨_,rfl,rfl,rfl⟩
theorem Xey (cs:List UInt8) (hca:Asc cs) (hl:cs.length≤1000) (r:Int) (h0:128≤r) (h1:r≤1114111) (B w:World) (I:Im) (As:List X7) (hS:Sat B w I As) :
  Cz 175 [S cs,.int .i32 r] w fun v w'=>v=I64 (-1)∧Sat B w' I As:=by
 refine calls Qf175 rfl Tryz.ntmps175 rfl (.seq (.q 1 rfl (.block (.seq (.t 3 rfl (.gm rfl rfl rfl rfl (.gval rfl rfl (fun hg1=>(.lss (.gd hg1 rfl) (.of rfl))) rfl (.val (.pa rfl rfl rfl) rfl (.q 1 rfl (.nil ?_))))))))));refine .cond rfl (fun hb160=>by exfalso; simp only [Y6] at hb160; omega) (fun hb160=>?_);have hc160:=hb160; simp only [Y6] at hc160;refine .seq (.q 3 rfl ?_);refine .cond rfl (fun hb171=>?_) fun hb171=>?_
 ·refine .seq (.seq (.t 1 rfl (.range (s:=cs) hS (.of rfl) Qu9 rfl ?_)));intro b175 w hS;refine .nil (.block (.loop (σ:=Nat) (fun i=>[(175,ptr b175 0)]) (fun i w=>i≤cs.length∧Sat B w I (own b175 (.stringIter ⟨cs.toArray⟩ i)::As)) (fun i=>cs.length - i) 0 ⟨rfl,trivial⟩ ⟨Yo _,hS⟩ ?_));rintro i w ⟨hi,hS⟩;refine .seq (.region ?_);refine .next (i:=i) hS (k:=0) rfl (.of rfl) rfl (fun hn=>?_) (fun hn=>?_)
  ·refine .q 1 rfl (.nil (.seq (.condF (rfl) (.exit (.seq (.q 1 rfl (.ret (X9 Xoo rfl ?_))))))));exact ⟨_,rfl,rfl,hS.drop (k:=0) rfl⟩
  ·rw [X9l cs i hn (hca i _ (Xx hn))];have hb7:=hca i _ (Xx hn);intro w hS;refine .q 1 rfl (.nil (.seq (.condT (rfl) (.skip (.block (.seq (.q 4 rfl (.seq (.q 2 rfl ?_)))))))));refine .cond rfl (fun hb181=>by exfalso; simp only [Y6] at hb181; omega) (fun hb181=>?_);refine .skip ?_;exact ⟨i+1,⟨rfl,trivial⟩,⟨by omega,hS⟩,by omega⟩
 have hc171:=hb171; simp only [Y6] at hc171;refine .seq (.t 1 rfl (.call Qf213 rfl (ec9 rfl X0) rfl (Xd5 r _) ?_));rintro _ _ ⟨rfl,rfl⟩;refine .q 2 rfl (.nil ?_);refine .cond rfl (fun hb183=>?_) fun hb183=>?_
 ·refine .seq (.q 1 rfl (.ret (X9 Xoo rfl ?_)));exact ⟨_,rfl,rfl,hS⟩
 have hc183:=hb183; simp only [Y6] at hc183;refine .scope (.seq ?_);have hvv:Go.Utf8.valid r=true:=Xpi r (by simpa using hb183);obtain ⟨he2,he4,heb⟩:=Xlp r hvv h0;refine .t 1 rfl ?_;refine .val (.runeStr (.of rfl) (by rw [Qu21]; rfl) Qu9) rfl ?_;refine .q 1 rfl (.nil (.seq (.region (.run 4 rfl ⟨Qu9,⟨by omega,by omega⟩,trivial⟩ (.nil (.seq (.q 2 rfl (.seq (.q 1 rfl (.seq (.block (.loop (σ:=Unit) (fun _=>[(0,S cs),(7,S (Xav r)),(8,I64 ((((Xav r).length:Nat):Int) - 1)),(9,I64 ((((Xav r).length:Nat):Int) - 1))]) (fun _ w=>Sat B w I As) (fun _=>0) () ⟨rfl,rfl,rfl,rfl,trivial⟩ hS ?_))))))))))));rintro _ w hS;refine .seq (.seq (.region (.run 4 rfl ⟨Qu9,trivial⟩ (.nil ?_))));refine .cond rfl (fun hb26=>?_) fun hb26=>?_
 ·have hc26:=hb26; simp only [Y6] at hc26;refine .skip (.block (.scope (.seq (.seq ?_))));have hA:(at_ cs ((((Xav r).length:Nat):Int) - 1)).toNat<128:=hca ((((Xav r).length:Nat):Int) - 1).toNat _ (by rw [at_,Yc,Y4 (by omega)]; rfl);refine .quiet (by kernel_rfl) (by kernel_rfl) hS (.val (fun w hS=>(.mo rfl)) rfl (.val (fun w hS=>(.mo rfl)) rfl (.val (fun w hS=>(.index (.of rfl) (.of rfl) (by omega) (by omega) Qu9)) rfl (.val (fun w hS=>(.mo rfl)) rfl (.val (fun w hS=>(.mo rfl)) rfl (.val (fun w hS=>(.index (.of rfl) (.of rfl) (by omega) (by omega) Qu9)) rfl (.val (fun w hS=>(.neq (.of rfl) (.of rfl))) rfl (.nil ?_))))))));intro w hS;refine .cond rfl (fun hb33=>?_) (fun hb33=>by exfalso; simp only [Y6] at hb33; omega);have hc33:=hb33; simp only [Y6] at hc33;refine .seq (.quiet (by kernel_rfl) (by kernel_rfl) hS (.val (fun w hS=>(.mo rfl)) rfl (.val (fun w hS=>(.mo rfl)) rfl (.val (fun w hS=>(.add (.of rfl) (.of rfl) ⟨by omega,by omega⟩)) rfl (.val (fun w hS=>(.subFrom (.of rfl) (.of rfl) (by omega) (by omega) Qu9)) rfl (.val (fun w hS=>(.mo rfl)) rfl (.val (fun w hS=>(.mo rfl)) rfl (.val (fun w hS=>(.index (.of rfl) (.of rfl) (by omega) (by omega) Qu9)) rfl (.call Qf179 rfl (ec9 rfl (ec9 rfl X0)) rfl (fun w hS=>X1q (X4c _ (at_ (Xav r) ((((Xav r).length:Nat):Int) - 1)) w) hS) (.val (fun w hS=>(.ao rfl)) rfl (.nil ?_)))))))))));intro w hS;refine .seq (.seq ?_);have hN:=Xf8 (l:=cs.drop ((((Xav r).length:Nat):Int) - 1+1).toNat) (c:=at_ (Xav r) ((((Xav r).length:Nat):Int) - 1)) heb (fun j b h=>by rw [Y1e] at h; exact hca _ _ h);refine .q 2 rfl ?_;refine .cond rfl (fun hb43=>?_) (fun hb43=>by exfalso; simp only [Y6] at hb43; omega);refine .seq (.q 1 rfl (.ret (X9 Xoo rfl ?_)));exact ⟨_,rfl,rfl,hS⟩
 refine .exit (.seq (.seq (.q 1 rfl (.ret (X9 Xoo rfl ?_)))));exact ⟨_,rfl,rfl,hS⟩
theorem Xcr (cs:List UInt8) (hca:Asc cs) (hl:cs.length≤1000) (r:Nat) (h1:r≤1114111) (B w:World) (I:Im) (As:List X7) (hS:Sat B w I As):Calls Tryz.prog 175 [S cs,.int .i32 r].toArray w (Ret fun v w'=>v=I64 (if r<128 then Go.Lib.indexByte cs (UInt8.ofNat r) else -1)∧Sat B w' I As):=by
 rcases Yr r 128 with h | h
 ·refine (Tryz.strings_IndexRune_ascii ⟨cs.toArray⟩ r w (by omega) (by omega)).mono fun e w' he=>?_
  obtain ⟨rfl,rfl⟩:=he;refine ⟨_,rfl,?_,hS⟩;rw [if_pos h]
  simp
 ·rw [if_neg (by omega)];exact Xey cs hca hl r (by omega) (by omega) B w I As hS
theorem Xf7 (s cs:List UInt8) (hca:Asc cs) (hl:cs.length≤1000) (h2:2≤cs.length) (h8:s.length≤8) (hne:(cs == [])=false) (B w:World) (I:Im) (As:List X7) (hS:Sat B w I As) :
  Cz 137 [S s,S cs] w fun v w'=>v=I64 (Go.Lib.indexAny s cs)∧Sat B w' I As:=by
 refine calls Tryz.func137 rfl Tryz.ntmps137 rfl (.seq (.q 1 rfl (.seq (.seq (.q 2 rfl ?_)))));refine .condF (by show some (Value.bool (cs == []))=_; rw [hne]) ?_;refine .skip (.seq (.seq (.region (.run 3 rfl ⟨Qu9,trivial⟩ (.nil ?_)))));refine .cond rfl (fun hb15=>by exfalso; simp only [Y6] at hb15; omega) (fun hb15=>?_);have hc15:=hb15; simp only [Y6] at hc15;refine .skip (.seq (.seq (.region (.run 2 rfl ⟨Qu9,trivial⟩ (.call Tryz.func176 rfl (ec9 rfl X0) rfl (Xjm _ _) ?_)))));rintro _ _ ⟨rfl,rfl⟩;refine .nil ?_;refine .cond rfl (fun hb26=>by exfalso; simp only [Y6] at hb26; omega) (fun hb26=>?_);have hc26:=hb26; simp only [Y6] at hc26;refine .skip (.seq (.seq (.t 1 rfl (.range (s:=s) hS (.of rfl) Qu9 rfl ?_))));intro b45 w hS;refine .nil (.block (.loop (σ:=Nat) (fun i=>[(1,S cs),(45,ptr b45 0)]) (fun i w=>i≤s.length∧Go.Lib.NoAny s cs i∧Sat B w I (own b45 (.stringIter ⟨s.toArray⟩ i)::As)) (fun i=>s.length - i) 0 ⟨rfl,rfl,trivial⟩ ⟨Yo _,Go.Lib.NoAny.zero _ _,hS⟩ ?_));rintro i w ⟨hi,hno,hS⟩;refine .seq (.region ?_);refine .next (i:=i) hS (k:=0) rfl (.of rfl) rfl (fun hn=>?_) (fun hn=>?_)
 ·refine .q 1 rfl (.nil (.seq (.condF (rfl) (.exit (.seq (.q 1 rfl (.ret (X9 Tryz.results137 rfl ?_))))))));exact ⟨_,rfl,by rw [Go.Lib.indexAny_none (by rw [show s.length=i by omega]; exact hno)],hS.drop (k:=0) rfl⟩
 ·intro w hS;refine .q 1 rfl (.nil (.seq (.condT (rfl) (.skip (.block (.seq ?_))))));have hdm:(Go.Utf8.decode ⟨s.toArray⟩ i).1≤1114111:=by
   rcases Yr (at_ s (i:Int)).toNat 128 with h | h
   ·rw [X9l s i hn h]; dsimp only; omega
   ·exact (Xfb s i hn h).2.1
  obtain ⟨hyes,hnot⟩:=Xqj hca hn hno;unfold rv at hyes hnot;refine .q 4 rfl (.seq (.t 2 rfl (.call Qf175 rfl (ec9 rfl (ec9 rfl X0)) rfl (Xcr cs hca hl (Go.Utf8.decode ⟨s.toArray⟩ i).1 hdm B _ I _ hS) ?_)));rintro _ w ⟨rfl,hS⟩;refine .q 1 rfl (.nil ?_);refine .cond rfl (fun hb53=>?_) fun hb53=>?_
  ·have hc53:=hb53; simp only [Y6] at hc53;refine .seq (.q 2 rfl (.ret (X9 Tryz.results137 rfl ?_)));refine ⟨_,rfl,?_,hS.drop (k:=0) rfl⟩;rw [hyes (by omega)];rfl
  have hc53:=hb53; simp only [Y6] at hc53;refine .skip ?_;obtain ⟨hn1,hn2,hn3⟩:=hnot (by omega);exact ⟨_,⟨rfl,rfl,trivial⟩,⟨hn2,hn1,hS⟩,by omega⟩
theorem Xe3 (s cs:List UInt8) (hs:s.length≤1000000) (hca:Asc cs) (hl:cs.length≤1000) (h2:2≤cs.length) (B w:World) (I:Im) (As:List X7) (hS:Sat B w I As):Calls Tryz.prog 137 [S s,S cs].toArray w (Ret fun v w'=>v=I64 (Go.Lib.indexAny s cs)∧Sat B w' I As):=by
 rcases Yr 8 s.length with h | h
 ·refine (Tryz.strings_IndexAny_long (zero_of_info (n:=256) (by kernel_rfl)).1 ⟨s.toArray⟩ ⟨cs.toArray⟩ w h2 h (by show s.length<_; omega) (by show cs.length<_; omega) hca).mono fun e w' he=>?_
  obtain ⟨rfl,rfl⟩:=he;exact ⟨_,rfl,rfl,(((hS.alloc _).alloc _).drop (k:=0) rfl).drop (k:=0) rfl⟩
 ·exact Xf7 s cs hca hl h2 h (by cases cs with | nil=>simp at h2 | cons a b=>rfl) B w I As hS
theorem Xme (s cs:List UInt8) (hs:s.length≤1000000) (hca:Asc cs) (hl:cs.length≤1000) (h2:2≤cs.length) (B w:World) (I:Im) (As:List X7) (hS:Sat B w I As) :
  Cz 88 [S s,S cs] w fun v w'=>v=.tuple #[S (upto cs s),S (Xc cs s)]∧Sat B w' I As:=by
 refine calls Tryz.func88 rfl Tryz.ntmps88 rfl (.seq (.q 2 rfl (.seq (.seq (.t 2 rfl (.call Tryz.func137 rfl (ec9 rfl (ec9 rfl X0)) rfl (Xe3 s cs hs hca hl h2 B _ I As hS) ?_))))));rintro _ w ⟨rfl,hS⟩;refine .q 1 rfl (.nil (.seq ?_));have hge:=Go.Lib.indexAny_ge cs s;refine .q 2 rfl (.cond rfl (fun hb11=>?_) fun hb11=>?_)
 ·have hc11:=hb11; simp only [Y6] at hc11;refine .seq ?_;obtain ⟨k,hk⟩:∃ k:Nat,Go.Lib.indexAny s cs=k:=⟨(Go.Lib.indexAny s cs).toNat,by omega⟩
  obtain ⟨hc1,hc2,hc3⟩:=Xcv hk;rw [hk];refine .quiet (by kernel_rfl) (by kernel_rfl) hS (.val (fun w hS=>(.mo rfl)) rfl (.val (fun w hS=>(.mo rfl)) rfl (.val (fun w hS=>(.subTo (.of rfl) (.of rfl) (by omega) (by omega) Qu9)) rfl (.val (fun w hS=>(.mo rfl)) rfl (.val (fun w hS=>(.mo rfl)) rfl (.val (fun w hS=>(.subFrom (.of rfl) (.of rfl) (by omega) (by omega) Qu9)) rfl (.val (fun w hS=>(.ao rfl)) rfl (.val (fun w hS=>(.ao rfl)) rfl (.nil ?_)))))))));intro w hS;refine .ret (X1e Tryz.results88 rfl rfl ?_);exact ⟨_,rfl,by rw [hc1,hc2,Ym],hS⟩
 have hc11:=hb11; simp only [Y6] at hc11;refine .skip (.seq (.q 3 rfl (.ret (X1e Tryz.results88 rfl rfl ?_))));obtain ⟨hc1,hc2⟩:=X94 (s:=s) (ats:=cs) (by omega);exact ⟨_,rfl,by rw [hc1,hc2],hS⟩
theorem Xkj (s:List UInt8) (hl:s.length≤1000000) (B w:World) (I:Im) (hd:DigAt I) (As:List X7) (hS:Sat B w I As):Calls Tryz.prog 142 [S s].toArray w (Ret fun v w'=>∃ n1 e1,v=.tuple #[S n1,I64 e1]∧(match X3x s with | none=>n1=[]∧e1=11 | some t=>n1=t∧e1=0)∧Sat B w' I As) :=
 (Xgd s hl B w I hd As hS).mono fun e w' he=>by
  obtain ⟨v,rfl,rfl,h⟩:=he;cases X3x s with
  | none=>exact ⟨_,rfl,_,_,rfl,⟨rfl,rfl⟩,h⟩
  | some t=>exact ⟨_,rfl,_,_,rfl,⟨rfl,rfl⟩,h⟩
theorem Xjh (s:List UInt8) (hl:s.length≤1000000) (B w:World) (I:Im) (hd:DigAt I) (As:List X7) (hS:Sat B w I As) :
  Cz 92 [S s] w fun v w'=>v=(match X1z s with | none=>.tuple #[S [],I64 15] | some t=>.tuple #[S t,I64 0])∧Sat B w' I As:=by
 refine calls Tryz.func92 rfl Tryz.ntmps92 rfl (.seq (.q 2 rfl (.seq (.seq (.t 1 rfl (.call Tryz.func141 rfl (ec9 rfl X0) rfl (Xj2 s hl _) ?_))))));rintro _ _ ⟨rfl,rfl⟩;refine .q 1 rfl (.nil ?_);refine .cond rfl (fun hb8=>?_) fun hb8=>?_
 ·have hc8:=hb8; simp only [Y6] at hc8;refine .seq (.q 2 rfl (.ret (X1e Tryz.results92 rfl rfl ?_)));exact ⟨_,rfl,by rw [X1z,if_neg (by rw [hc8]; decide)],hS⟩
 have hc8:=hb8; simp only [Y6] at hc8;refine .skip (.seq (.t 1 rfl (.call Tryz.func142 rfl (ec9 rfl X0) rfl (Xkj s hl B _ I hd As hS) ?_)));rintro _ w ⟨n1,e1,rfl,hne,hS⟩;refine .q 5 rfl (.nil (.seq (.seq (.q 2 rfl ?_))));refine .cond rfl (fun hb15=>?_) fun hb15=>?_
 ·have hc15:=hb15; simp only [Y6] at hc15;refine .seq (.q 2 rfl (.ret (X1e Tryz.results92 rfl rfl ?_)));refine ⟨_,rfl,?_,hS⟩;rw [X1z,if_pos hc8];cases hn:X3x s with
  | none=>rfl
  | some t=>rw [hn] at hne; exact absurd hne.2 hc15
 have hc15:=hb15; simp only [Y6] at hc15;refine .skip (.seq (.q 3 rfl (.ret (X1e Tryz.results92 rfl rfl ?_))));refine ⟨_,rfl,?_,hS⟩;rw [X1z,if_pos hc8];cases hn:X3x s with
 | none=>rw [hn] at hne; have:=hne.2; omega
 | some t=>rw [hn] at hne; obtain ⟨rfl,rfl⟩:=hne; rfl
end Go.Proofs.YtfibbpgikjggfaaGreatDoor
namespace Pat
open Go Gk
theorem Xcq {α:Type} (enc:α→List Value) (s:Nat) (hs:∀ x,(enc x).length=s):∀ (l:List α) (r:List Value) (i j:Nat) (x:α),l[i]?=some x→j<s→(l.flatMap enc ++ r)[i*s+j]?=(enc x)[j]?
 | [],_,_,_,_,h,_=>by simp at h
 | y::l,r,0,j,x,h,hj=>by
  simp at h
  subst h;simp only [Y2h,Y3t,Yd,Yf]
  rw [Yk (by rw [hs]; exact hj)]
 | y::l,r,i+1,j,x,h,hj=>by
  simp only [Y2h,Yf]
  rw [Yw (by rw [hs,Y36]; omega),hs];have e:(i+1)*s+j - s=i*s+j:=by rw [Y36]; omega
  rw [e];exact Xcq enc s hs l r i j x (by simpa using h) hj
theorem Xhk {α:Type} (enc:α→List Value) (s:Nat) (hs:∀ x,(enc x).length=s) (f:α→α) (j:Nat) (v:Value) (hf:∀ x,enc (f x)=(enc x).set j v) (hj:j<s):∀ (l:List α) (r:List Value) (i:Nat),i<l.length→(l.flatMap enc ++ r).set (i*s+j) v=(l.modify i f).flatMap enc ++ r
 | [],_,_,h=>by simp at h
 | y::l,r,0,_=>by
  simp only [Y2h,Y3t,Yd,Yf]
  rw [Y47 _ _ (by rw [hs]; exact hj)];simp [hf]
 | y::l,r,i+1,h=>by
  simp only [Y2h,Yf]
  rw [Y2d _ _ (by rw [hs,Y36]; omega),hs];have e:(i+1)*s+j - s=i*s+j:=by rw [Y36]; omega
  rw [e,Xhk enc s hs f j v hf hj l r i (by simpa using h)]
  simp
theorem X72 {α:Type} (enc:α→List Value) (s:Nat) (hs:∀ x,(enc x).length=s):∀ (l:List α),(l.flatMap enc).length=l.length*s
 | []=>by simp
 | y::l=>by simp only [Y2h,Y0,hs,X72 enc s hs l,Y8,Y36]; omega
abbrev X2e:=Int×Int×Value
abbrev Pl:=Int×Int×List Int
def enc (x:X2e):List Value:=[.int .u8 x.1,.int .u8 x.2.1,x.2.2]
theorem X1h (x:X2e):(enc x).length=3:=rfl
def X5y (P:List X2e) (i:Nat) (v:Value):List X2e:=P.modify i fun x=>(x.1,x.2.1,v)
def X10 (Q:List Pl) (i:Nat) (xs:List Int):List Pl:=Q.modify i fun x=>(x.1,x.2.1,xs)
theorem X75 (P:List X2e) (i:Nat) (v:Value):(X5y P i v).length=P.length:=by simp [X5y]
theorem to_get {P:List X2e} {i:Nat} {x:X2e} (h:P[i]?=some x) (r:List Value):(P.flatMap enc ++ r)[0+i*3+2]?=some x.2.2:=by
 rw [Yd,Xcq enc 3 X1h P r i 2 x h (by omega)]; rfl
theorem Xra {P:List X2e} {i:Nat} (h:i<P.length) (r:List Value) (v:Value):(P.flatMap enc ++ r).set (0+i*3+2) v=(X5y P i v).flatMap enc ++ r:=by
 rw [Yd]; exact Xhk enc 3 X1h (fun x=>(x.1,x.2.1,v)) 2 v (fun _=>rfl) (by omega) P r i h
def IntsI (I:Im) (v:Value) (xs:List Int):Prop:=(xs=[]→v=.slice none 0 0)∧∃ a c,v=.slice a xs.length c∧xs.length≤c∧RS I a 1 xs.length (xs.map I64)
theorem IntsI.mono {I J:Im} {v:Value} {xs:List Int} (h:IntsI I v xs) (hl:Le I J):IntsI J v xs:=let ⟨h0,a,c,e,hc,hr⟩:=h; ⟨h0,a,c,e,hc,hr.mono hl⟩
theorem IntsI.nil (I:Im):IntsI I (.slice none 0 0) []:=⟨fun _=>rfl,none,0,rfl,Yu _,RS.nil I 1⟩
def RelP (I:Im) (P:List X2e) (Q:List Pl):Prop:=P.length=Q.length∧∀ (i:Nat) (p:X2e) (q:Pl),P[i]?=some p→Q[i]?=some q→p.1=q.1∧p.2.1=q.2.1∧IntsI I p.2.2 q.2.2
theorem RelP.mono {I J:Im} {P:List X2e} {Q:List Pl} (h:RelP I P Q) (hl:Le I J):RelP J P Q:=⟨h.1,fun i p q hp hq=>let ⟨a,b,c⟩:=h.2 i p q hp hq; ⟨a,b,c.mono hl⟩⟩
theorem RelP.nil (I:Im):RelP I [] []:=⟨rfl,fun _ _ _ h=>by simp at h⟩
theorem RelP.snoc {I:Im} {P:List X2e} {Q:List Pl} (h:RelP I P Q) (k c:Int) (v:Value) (xs:List Int) (hv:IntsI I v xs):RelP I (P ++ [(k,c,v)]) (Q ++ [(k,c,xs)]):=by
 refine ⟨by simp [h.1],fun i p q hp hq=>?_⟩;rcases Y4v i P.length with hi | hi | hi
 ·rw [Yk hi] at hp;rw [Yk (by rw [← h.1]; exact hi)] at hq;exact h.2 i p q hp hq
 ·subst hi;rw [Yw (Yu _)] at hp;rw [h.1,Yw (Yu _)] at hq;simp at hp hq
  subst hp; subst hq;exact ⟨rfl,rfl,hv⟩
 ·rw [Y1u (by simp; omega)] at hp;cases hp
theorem RelP.set {I:Im} {P:List X2e} {Q:List Pl} (h:RelP I P Q) (i:Nat) (v:Value) (xs:List Int) (hv:IntsI I v xs):RelP I (X5y P i v) (X10 Q i xs):=by
 refine ⟨by simp [X5y,X10,h.1],fun j p q hp hq=>?_⟩;unfold X5y at hp;unfold X10 at hq;rw [Y1p] at hp hq
 by_cases e:i=j
 ·subst e;simp only [if_true] at hp hq
  obtain ⟨p0,hp0,rfl⟩:=Y1n.1 hp;obtain ⟨q0,hq0,rfl⟩:=Y1n.1 hq;obtain ⟨a,b,_⟩:=h.2 i p0 q0 hp0 hq0;exact ⟨a,b,hv⟩
 ·simp only [e,if_false] at hp hq
  exact h.2 j p q (by simpa using hp) (by simpa using hq)
def RelX (I:Im) (o:Nat) (P:List X2e) (Q:List Pl):Prop:=P.length=Q.length∧∀ (i:Nat) (p:X2e) (q:Pl),P[i]?=some p→Q[i]?=some q→p.1=q.1∧p.2.1=q.2.1∧(i≠o→IntsI I p.2.2 q.2.2)
theorem RelX.mono {I J:Im} {o:Nat} {P:List X2e} {Q:List Pl} (h:RelX I o P Q) (hl:Le I J):RelX J o P Q:=⟨h.1,fun i p q hp hq=>let ⟨a,b,c⟩:=h.2 i p q hp hq; ⟨a,b,fun hi=>(c hi).mono hl⟩⟩
theorem RelP.x {I:Im} {P:List X2e} {Q:List Pl} (h:RelP I P Q) (o:Nat):RelX I o P Q:=⟨h.1,fun i p q hp hq=>let ⟨a,b,c⟩:=h.2 i p q hp hq; ⟨a,b,fun _=>c⟩⟩
theorem RelX.setO {I:Im} {o:Nat} {P:List X2e} {Q:List Pl} (h:RelX I o P Q) (v:Value) (xs:List Int):RelX I o (X5y P o v) (X10 Q o xs):=by
 refine ⟨by simp [X5y,X10,h.1],fun j p q hp hq=>?_⟩;unfold X5y at hp;unfold X10 at hq;rw [Y1p] at hp hq
 by_cases e:o=j
 ·subst e;simp only [if_true] at hp hq
  obtain ⟨p0,hp0,rfl⟩:=Y1n.1 hp;obtain ⟨q0,hq0,rfl⟩:=Y1n.1 hq;obtain ⟨a,b,_⟩:=h.2 o p0 q0 hp0 hq0;exact ⟨a,b,fun hi=>absurd rfl hi⟩
 ·simp only [e,if_false] at hp hq
  exact h.2 j p q (by simpa using hp) (by simpa using hq)
theorem RelX.setB {I:Im} {o:Nat} {P:List X2e} {Q:List Pl} (h:RelX I o P Q) (b:Nat) (v:Value) (xs:List Int) (hv:IntsI I v xs):RelX I o (X5y P b v) (X10 Q b xs):=by
 refine ⟨by simp [X5y,X10,h.1],fun j p q hp hq=>?_⟩;unfold X5y at hp;unfold X10 at hq;rw [Y1p] at hp hq
 by_cases e:b=j
 ·subst e;simp only [if_true] at hp hq
  obtain ⟨p0,hp0,rfl⟩:=Y1n.1 hp;obtain ⟨q0,hq0,rfl⟩:=Y1n.1 hq;obtain ⟨a,b,_⟩:=h.2 b p0 q0 hp0 hq0;exact ⟨a,b,fun _=>hv⟩
 ·simp only [e,if_false] at hp hq
  exact h.2 j p q (by simpa using hp) (by simpa using hq)
theorem RelX.back {I:Im} {o:Nat} {P:List X2e} {Q:List Pl} (h:RelX I o P Q) (hv:∀ p q,P[o]?=some p→Q[o]?=some q→IntsI I p.2.2 q.2.2):RelP I P Q :=
 ⟨h.1,fun i p q hp hq=>by
  obtain ⟨a,b,c⟩:=h.2 i p q hp hq;refine ⟨a,b,?_⟩
  by_cases e:i=o
  ·subst e; exact hv p q hp hq
  ·exact c e⟩
def X1k (n:Nat) (o:Nat):List Pl→List Int→List Nat→List Pl
 | Q,_,[]=>Q
 | Q,done,b::r=>X1k n o (X10 (X10 Q o (done ++ [(b:Int)+1])) b [(n:Int)]) (done ++ [(b:Int)+1]) r
theorem X33 (n o:Nat):∀ (r:List Nat) (Q:List Pl) (done:List Int),(X1k n o Q done r).length=Q.length
 | [],_,_=>rfl
 | b::r,Q,done=>by rw [X1k,X33 n o r]; simp [X10]
theorem Xk2 {B w:World} {I:Im} {As:List X7} {k E:Nat} {v:Value} {xs:List Int} (hS:Sat B w I As) (hk:As[k]?=some (Vec E 1 v xs.length (xs.map I64))) (hn:xs=[]→v=.slice none 0 0):∃ J,Le I J∧IntsI J v xs∧Sat B w J (As.eraseIdx k):=by
 rcases Y1r xs.length with h0 | h0
 ·have hx:xs=[]:=Yl h0;subst hx;obtain ⟨a,c,rfl,hc,_⟩:=hS.vecSlice hk;exact ⟨I,Le.refl I,⟨hn,a,c,rfl,hc,by simp,fun h=>absurd h (by simp)⟩,hS.drop hk⟩
 ·obtain ⟨b,cap,r,rfl,h1,h2,_,_,hSo⟩:=hS.vecOpen hk h0;have hlk:k<As.length:=(Y5.1 hk).1;obtain ⟨J,hJ,hb,hS'⟩:=hSo.freeze (k:=k) (b:=b) (o:=Xi (xs.map I64 ++ r) E) (by simp [hlk,blk]);refine ⟨J,hJ,⟨hn,_,_,rfl,h1,by simp,fun _=>⟨_,rfl,rfl,_,_,_,hb,?_⟩⟩,by simpa [Y3k] using hS'⟩;intro j u hj;have hjl:j<(xs.map I64).length:=(Y5.1 hj).1;simp only [Yd,List.getElem?_toArray]
  rw [Yk hjl];exact hj
abbrev PFr:=Nat×List Nat
def cmpGo:List UInt8→Int→List Pl→List PFr→List Int→Except (Int×Int) (List Pl)
 | [],_,Q,_,ats=>if 0<ats.length then .error (23,ats.getD (ats.length - 1) 0) else .ok (Q ++ [(7,0,[])])
 | c::r,i,Q,stk,ats =>
  if c.toNat=63 then cmpGo r (i+1) (Q ++ [(1,0,[])]) stk ats
  else if c.toNat=42 then (match r with
   | d::r'=>if d.toNat=42 then cmpGo r' (i+2) (Q ++ [(2,0,[])]) stk ats else cmpGo (d::r') (i+1) (Q ++ [(3,0,[])]) stk ats
   | []=>cmpGo [] (i+1) (Q ++ [(3,0,[])]) stk ats)
  else if c.toNat=40 then (if stk.length=4 then .error (24,i) else cmpGo r (i+1) (Q ++ [(4,0,[])]) ((Q.length,[])::stk) (ats ++ [i]))
  else if c.toNat=124 then (match stk with
   | []=>.error (10,i)
   | (o,bs)::rest=>cmpGo r (i+1) (Q ++ [(5,0,[])]) ((o,bs ++ [Q.length])::rest) ats)
  else if c.toNat=41 then (match stk with
   | []=>.error (10,i)
   | (o,bs)::rest=>cmpGo r (i+1) (X1k Q.length o Q [] bs ++ [(6,0,[])]) rest (ats.take rest.length))
  else if c.toNat=92 then (match r with | []=>.error (10,i) | d::r'=>cmpGo r' (i+2) (Q ++ [(0,(d.toNat:Int),[])]) stk ats)
  else cmpGo r (i+1) (Q ++ [(0,(c.toNat:Int),[])]) stk ats
theorem X3w (i:Int) (Q:List Pl) (stk:List PFr) (ats:List Int):cmpGo [] i Q stk ats=if 0<ats.length then .error (23,ats.getD (ats.length - 1) 0) else .ok (Q ++ [(7,0,[])]):=by rw [cmpGo.eq_def]
theorem Xf (c:UInt8) (r:List UInt8) (i:Int) (Q:List Pl) (stk:List PFr) (ats:List Int):cmpGo (c::r) i Q stk ats =
  if c.toNat=63 then cmpGo r (i+1) (Q ++ [(1,0,[])]) stk ats
  else if c.toNat=42 then (match r with
   | d::r'=>if d.toNat=42 then cmpGo r' (i+2) (Q ++ [(2,0,[])]) stk ats else cmpGo (d::r') (i+1) (Q ++ [(3,0,[])]) stk ats
   | []=>cmpGo [] (i+1) (Q ++ [(3,0,[])]) stk ats)
  else if c.toNat=40 then (if stk.length=4 then .error (24,i) else cmpGo r (i+1) (Q ++ [(4,0,[])]) ((Q.length,[])::stk) (ats ++ [i]))
  else if c.toNat=124 then (match stk with
   | []=>.error (10,i)
   | (o,bs)::rest=>cmpGo r (i+1) (Q ++ [(5,0,[])]) ((o,bs ++ [Q.length])::rest) ats)
  else if c.toNat=41 then (match stk with
   | []=>.error (10,i)
   | (o,bs)::rest=>cmpGo r (i+1) (X1k Q.length o Q [] bs ++ [(6,0,[])]) rest (ats.take rest.length))
  else if c.toNat=92 then (match r with | []=>.error (10,i) | d::r'=>cmpGo r' (i+2) (Q ++ [(0,(d.toNat:Int),[])]) stk ats)
  else cmpGo r (i+1) (Q ++ [(0,(c.toNat:Int),[])]) stk ats:=by rw [cmpGo.eq_def]
def cmp (l:List UInt8):Except (Int×Int) (List Pl):=if 200<l.length then .error (2,0) else cmpGo l 0 [] [] []
def Frames (Q:List Pl):Nat→List PFr→Prop
 | _,[]=>True
 | lim,(o,bs)::r=>o<lim∧Q[o]?=some (4,0,[])∧bs.length≤Q.length∧(∀ b∈bs,o<b∧b<Q.length)∧Frames Q o r
theorem Frames.grow {Q Q':List Pl}:∀ {stk:List PFr} {lim lim':Nat},Frames Q lim stk→lim≤lim'→Q.length≤Q'.length→(∀ i,i<lim→Q[i]?=some (4,0,[])→Q'[i]?=some (4,0,[]))→Frames Q' lim' stk
 | [],_,_,_,_,_,_=>trivial
 | (o,bs)::r,lim,lim',⟨h1,h2,h3,h4,h5⟩,hl,hq,hk =>
  ⟨by omega,hk o h1 h2,by omega,fun b hb=>⟨(h4 b hb).1,by have:=(h4 b hb).2; omega⟩,h5.grow (Yu _) hq fun i hi=>hk i (by omega)⟩
theorem Frames.app {Q:List Pl} {stk:List PFr} (h:Frames Q Q.length stk) (x:Pl):Frames (Q ++ [x]) (Q ++ [x]).length stk :=
 h.grow (by simp) (by simp) fun i hi hq=>by rw [Yk hi]; exact hq
theorem X9s (n o:Nat):∀ (bs:List Nat) (Q:List Pl) (done:List Int) (i:Nat),i≠o→(∀ b∈bs,b≠i)→(X1k n o Q done bs)[i]?=Q[i]?
 | [],_,_,_,_,_=>rfl
 | b::r,Q,done,i,h,hb=>by
  rw [X1k,X9s n o r _ _ i h fun x hx=>hb x (Y2k _ hx)];have hbi:b≠i:=hb b (by simp);simp [X10,Y1p,hbi,Ne.symm h]
theorem Frames.close {Q:List Pl} {o:Nat} {bs:List Nat} {rest:List PFr} (h:Frames Q Q.length ((o,bs)::rest)) (x:Pl):Frames (X1k Q.length o Q [] bs ++ [x]) (X1k Q.length o Q [] bs ++ [x]).length rest:=by
 obtain ⟨h1,h2,h3,h4,h5⟩:=h;refine h5.grow (by simp [X33]; omega) (by simp [X33]) fun i hi hq=>?_
 rw [Yk (by rw [X33]; omega),X9s _ _ _ _ _ _ (by omega) fun b hb=>by have:=(h4 b hb).1; omega];exact hq
def mks (f:PFr):List Int:=(f.1::f.2).map fun (x:Nat)=>(x:Int)
theorem Xhq {st:List (Value×List Int)} {f:PFr} {rest:List PFr} (h:st.map (·.2)=(f::rest).reverse.map mks):∃ st0 mv,st=st0 ++ [(mv,mks f)]∧st0.map (·.2)=rest.reverse.map mks:=by
 have hne:st≠[]:=fun e=>by subst e; simp at h
 have hs:=Y4a hne;rw [← hs,List.reverse_cons,Yv,Yv] at h;simp only [Y1d,Y2q] at h
 have h2:=List.append_inj' h rfl;refine ⟨st.dropLast,(st.getLast hne).1,?_,h2.1⟩;have h3:(st.getLast hne).2=mks f:=by simpa using h2.2
 rw [← h3];exact hs.symm
theorem Xjb {B w:World} {I:Im} {As:List X7} (hS:Sat B w I As):Sat B w I (SepAll []::As):=by
 obtain ⟨h,hs,hg⟩:=hS;exact ⟨h,⟨[],h,rfl,rfl,hs⟩,hg⟩
def PatI (I:Im) (p:Addr) (Q:List Pl) (n:Nat):Prop:=∃ a c P,At I p [.slice a P.length c,I64 n]∧P.length≤c∧RS I a 3 P.length (P.flatMap enc)∧RelP I P Q
theorem PatI.mono {I J:Im} {p:Addr} {Q:List Pl} {n:Nat} (h:PatI I p Q n) (hl:Le I J):PatI J p Q n:=let ⟨a,c,P,h1,h2,h3,h4⟩:=h; ⟨a,c,P,h1.mono hl,h2,h3.mono hl,h4.mono hl⟩
theorem RelP.nil_of {I:Im} {P:List X2e} {Q:List Pl} (h:RelP I P Q) {o:Nat} {k c:Int} (hq:Q[o]?=some (k,c,[])):P[o]?=some (k,c,.slice none 0 0):=by
 have hlt:o<Q.length:=(Y5.1 hq).1;obtain ⟨⟨p1,p2,p3⟩,hp⟩:∃ p,P[o]?=some p:=⟨_,Y4 (by rw [h.1]; exact hlt)⟩
 obtain ⟨a,b,h0,_⟩:=h.2 o _ _ hp hq;have h1:=h0 rfl;simp only at a b h1
 subst a; subst b; subst h1;exact hp
end Pat
namespace Pat
open Gk
def iter {β:Type} (f:β→Nat→β) (b:β):Nat→β
 | 0=>b
 | k+1=>f (iter f b k) k
def hasPre (s p:List UInt8):Bool:=decide ((p.length:Int)≤(s.length:Int)) && (s.take (p.length:Int).toNat == p)
def takes (kind:Int) (own c:UInt8):Bool:=kind == 2 || (kind == 1 && ((c.toNat:Int) != 47)) || (kind == 0 && ((c.toNat:Int) == (own.toNat:Int)))
def Xnr (fr:List Bool) (many:Bool) (out:List Bool) (k:Nat):List Bool:=bif many && fr.getD (k:Int).toNat false then out.set (k:Int).toNat true else out
def Xnp (s:List UInt8) (fr:List Bool) (kind:Int) (own:UInt8) (many:Bool) (o:List Bool) (k:Nat):List Bool :=
 bif decide (0<(k:Int)) && (takes kind own (at_ s ((k:Int) - 1)) && (fr.getD ((k:Int) - 1).toNat false || (many && o.getD ((k:Int) - 1).toNat false))) then o.set (k:Int).toNat true else o
def X54 (s:List UInt8) (fr:List Bool) (kind:Int) (own:UInt8) (many:Bool) (out:List Bool) (k:Nat):List Bool:=Xnp s fr kind own many (Xnr fr many out k) k
def ends (s:List UInt8) (fr:List Bool) (kind:Int) (own:UInt8) (many:Bool):List Bool:=iter (X54 s fr kind own many) (List.replicate (s.length+1) false) (s.length+1)
theorem X6e (fr:List Bool) (many:Bool) (out:List Bool) (k:Nat):(Xnr fr many out k).length=out.length:=by unfold Xnr; cases many && fr.getD (k:Int).toNat false <;> simp
theorem Xhe (s:List UInt8) (fr:List Bool) (kind:Int) (own:UInt8) (many:Bool) (o:List Bool) (k:Nat):(Xnp s fr kind own many o k).length=o.length:=by
 unfold Xnp; generalize (decide (0<(k:Int)) && _)=c; cases c <;> simp
theorem X2i (s:List UInt8) (fr:List Bool) (kind:Int) (own:UInt8) (many:Bool) (init:List Bool):∀ k,(iter (X54 s fr kind own many) init k).length=init.length
 | 0=>rfl
 | k+1=>by rw [iter,X54,Xhe,X6e,X2i s fr kind own many init k]
theorem Xgz (s:List UInt8) (fr:List Bool) (kind:Int) (own:UInt8) (many:Bool):(ends s fr kind own many).length=s.length+1:=by
 rw [ends,X2i,Y1z]
def chkGo:List UInt8→Int→List Int→Int×Int
 | [],_,o=>if 0<o.length then (23,o.getD (o.length - 1) 0) else (0,0)
 | c::r,i,o =>
  if c.toNat=40 then (if o.length=4 then (24,i) else chkGo r (i+1) (o ++ [i]))
  else if c.toNat=41 then (if o.length=0 then (10,i) else chkGo r (i+1) (o.take (o.length - 1)))
  else if c.toNat=124 then (if o.length=0 then (10,i) else chkGo r (i+1) o)
  else if c.toNat=92 then (match r with | []=>(10,i) | _::r'=>chkGo r' (i+2) o)
  else chkGo r (i+1) o
theorem X9e (i:Int) (o:List Int):chkGo [] i o=if 0<o.length then (23,o.getD (o.length - 1) 0) else (0,0):=by rw [chkGo.eq_def]
theorem X1b (c:UInt8) (r:List UInt8) (i:Int) (o:List Int):chkGo (c::r) i o=if c.toNat=40 then (if o.length=4 then (24,i) else chkGo r (i+1) (o ++ [i]))
  else if c.toNat=41 then (if o.length=0 then (10,i) else chkGo r (i+1) (o.take (o.length - 1)))
  else if c.toNat=124 then (if o.length=0 then (10,i) else chkGo r (i+1) o)
  else if c.toNat=92 then (match r with | []=>(10,i) | _::r'=>chkGo r' (i+2) o)
  else chkGo r (i+1) o:=by rw [chkGo.eq_def]
def chk (l:List UInt8):Int×Int:=if 200<l.length then (2,0) else chkGo l 0 []
end Pat
namespace Go.Proofs.YtfibbpgikjggfaaGreatDoor
open Gk Pat
def X3v (E:Nat) (st:List (Value×List Int)):X7:=SepAll (st.map fun x=>Vec E 1 x.1 x.2.length (x.2.map I64))
theorem Xnf {o b:Nat} {bs pre r:List Nat} (h:bs=pre ++ b::r) (rm:List Value):(((o::bs).map fun (x:Nat)=>(x:Int)).map I64 ++ rm)[1+(pre.length:Int).toNat*1]?=some (I64 b):=by
 subst h;rw [Ym,Y1i,Yk (by simp; omega)];simp [Y4o 1]
theorem X1c:Tryz.prog.info? 3=some Tryz.t3:=by kernel_rfl
theorem X4a:Tryz.prog.info? 168=some Tryz.t168:=by kernel_rfl
theorem Xg7:Tryz.prog.info? 238=some Tryz.t238:=by kernel_rfl
theorem Xjz:Bld Tryz.prog 238 [(0,1),(1,1),(2,1)] [.int .u8 0,.int .u8 0,.slice none 0 0]:=X2n X6l Xq5 (fun w=>by simp [go_sem])
theorem X2p (bc n:Nat) (lv sv av:Value) (xs:List Value) (kd b:Int) (B w:World) (I:Im) (F:List X7) (hS:Sat B w I (blk bc [lv,sv,av] 267::Vec 238 3 lv n xs::F)) (hn:n≤1000) :
  Cz 223 [ptr bc 0,.int .u8 kd,.int .u8 b] w fun v w'=>v=.tuple #[]∧∃ lv',Sat B w' I (blk bc [lv',sv,av] 267::Vec 238 3 lv' (n+1) (xs ++ [.int .u8 kd,.int .u8 b,.slice none 0 0])::F):=by
 refine calls X7v rfl Tryz.ntmps223 rfl (.t 3 rfl (.val (.fo 0 rfl X1x rfl rfl X6g rfl) rfl (.val (.lo rfl hS (k:=0) rfl X7t rfl) rfl (.q 2 rfl (.val (.build (cs:=[_,_,_]) (pc9 rfl (pc9 rfl X4)) Xjz rfl) rfl (.buildSlice (cs:=[_,_,_]) hS (pc9 rfl X4) X84 Xam Xq5 rfl rfl rfl rfl ?_))))));intro b14 w hS;refine .append (size:=3) (bytes:=32) hS (.of rfl) (.of rfl) (k:=1) rfl X84 Xg7 rfl rfl rfl rfl rfl rfl rfl ⟨by omega,by unfold maxLen; omega⟩ rfl ?_;intro v15 w hS;obtain ⟨a15,c15,rfl,hcap15,_⟩:=hS.vecSlice (k:=1) (v:=v15) rfl;refine .q 1 rfl (.val (.fo 0 rfl X1x rfl rfl X6g rfl) rfl (.s1 hS (k:=0) rfl rfl rfl rfl X6g (by simp) ?_));intro w hS;refine .nil (X7n Tryz.results223 ?_);exact ⟨_,rfl,rfl,_,hS⟩
theorem Xgu (bc n:Nat) (lv sv av:Value) (xs:List Value) (st:List (Value×List Int)) (ats:List Int) (at_:Int) (B w:World) (I:Im) (F:List X7) (hS:Sat B w I (blk bc [lv,sv,av] 267::Vec 238 3 lv n xs::Vec 168 1 sv st.length (st.map (·.1))::Vec 3 1 av ats.length (ats.map I64)::X3v 3 st::F)) (hn:n≤1000) (hd:st.length≤1000) (hd2:ats.length≤1000) :
  Cz 224 [ptr bc 0,I64 at_] w fun v w'=>v=.tuple #[]∧∃ lv' sv' av' mv,Sat B w' I (blk bc [lv',sv',av'] 267::Vec 238 3 lv' (n+1) (xs ++ [.int .u8 4,.int .u8 0,.slice none 0 0])::Vec 168 1 sv' (st.length+1) (st.map (·.1) ++ [mv])::Vec 3 1 av' (ats.length+1) (ats.map I64 ++ [I64 at_])::X3v 3 (st ++ [(mv,[(n:Int)])])::F):=by
 refine calls Tryz.func224 rfl Tryz.ntmps224 rfl (.seq ?_);obtain ⟨la,lc,rfl,hlc,_⟩:=hS.vecSlice (k:=1) rfl;obtain ⟨sa,sc,rfl,hsc,_⟩:=hS.vecSlice (k:=2) rfl;obtain ⟨aa,ac,rfl,hac,_⟩:=hS.vecSlice (k:=3) rfl;refine .drawn (fun w=>∃ R,Sat B w I (blk bc [.slice la n lc,.slice sa st.length sc,.slice aa ats.length ac] 267::R)) (fun j=>!([23,26].contains j)) (by kernel_rfl) ?_;replace hS:=hS.drew; generalize w.drew=w at hS ⊢;have hH:=(hS.pick 0 rfl)
 refine .tp (i:=0) rfl (by kernel_rfl) (fun w=>(.mo rfl)) rfl (.tp (i:=1) rfl (by kernel_rfl) (fun w=>(.mo rfl)) rfl (.tp (i:=2) rfl (by kernel_rfl) (fun w=>(.mo rfl)) rfl (.tp (i:=3) rfl (by kernel_rfl) (fun w=>(.no rfl)) rfl (.tp (i:=4) rfl (by kernel_rfl) (fun w=>(.fo 1 rfl X1x rfl rfl X4x rfl)) rfl (.tk (i:=5) rfl (by kernel_rfl) ⟨_,hH⟩ (fun w ⟨R,hS⟩=>(.lo rfl hS (k:=0) rfl Xgy rfl)) rfl (.tp (i:=6) rfl (by kernel_rfl) (fun w=>(.mo rfl)) rfl (.tp (i:=7) rfl (by kernel_rfl) (fun w=>(.no rfl)) rfl (.tp (i:=8) rfl (by kernel_rfl) (fun w=>(.fo 0 rfl X1x rfl rfl X6g rfl)) rfl (.tk (i:=9) rfl (by kernel_rfl) ⟨_,hH⟩ (fun w ⟨R,hS⟩=>(.lo rfl hS (k:=0) rfl X7t rfl)) rfl (.tp (i:=10) rfl (by kernel_rfl) (fun w=>(.lenSlice (.of rfl) X84)) rfl (.tp (i:=14) rfl (by kernel_rfl) (fun w=>(.mo rfl)) rfl (.tp (i:=15) rfl (by kernel_rfl) (fun w=>(.no rfl)) rfl (.tp (i:=16) rfl (by kernel_rfl) (fun w=>(.fo 2 rfl X1x rfl rfl X15 rfl)) rfl (.tk (i:=17) rfl (by kernel_rfl) ⟨_,hH⟩ (fun w ⟨R,hS⟩=>(.lo rfl hS (k:=0) rfl X38 rfl)) rfl (.tp (i:=18) rfl (by kernel_rfl) (fun w=>(.mo rfl)) rfl ?_)))))))))))))));refine .branch [11,19] (by kernel_rfl) rfl (WO.cons rfl ?_ (WO.cons rfl ?_ (WO.nil)))
 ·refine .buildSlice (cs:=[_]) hS (pc9 rfl X4) Xd Qs3 Qz3 rfl rfl rfl rfl ?_;intro b15 w hS;refine .nil ?_;clear hH;have hH:=(hS.pick 1 rfl)
  refine ⟨fun _ _=>⟨_,hH⟩,?_⟩;refine .branch [12,19] (by kernel_rfl) rfl (WO.cons rfl ?_ (WO.cons rfl ?_ (WO.nil)))
  ·refine .buildSlice (cs:=[_]) hS (pc9 rfl X4) X29 X15 Xp5 rfl rfl rfl rfl ?_;intro b16 w hS;refine .nil ?_;clear hH;have hH:=(hS.pick 2 rfl)
   refine ⟨fun _ _=>⟨_,hH⟩,?_⟩;refine .branch [13,19] (by kernel_rfl) rfl (WO.cons rfl ?_ (WO.cons rfl ?_ (WO.nil)))
   ·refine .append (size:=1) (bytes:=24) hS (.of rfl) (.of rfl) (k:=3) rfl X29 X4a rfl rfl rfl rfl rfl rfl rfl ⟨by omega,by unfold maxLen; omega⟩ rfl ?_;intro v17 w hS;obtain ⟨a17,c17,rfl,hcap17,_⟩:=hS.vecSlice (k:=3) (v:=v17) rfl;refine .nil ?_;clear hH;have hH:=(hS.pick 1 rfl)
    refine ⟨fun _ _=>⟨_,hH⟩,?_⟩;refine .b1 19 (by kernel_rfl) rfl (.buildSlice (cs:=[_]) hS (pc9 rfl X4) Xd Qs3 Qz3 rfl rfl rfl rfl ?_);intro b23 w hS;refine .nil ?_;clear hH;have hH:=(hS.pick 2 rfl)
    refine ⟨fun _ _=>⟨_,hH⟩,?_⟩;refine .b1 20 (by kernel_rfl) rfl (.append (size:=1) (bytes:=8) hS (.of rfl) (.of rfl) (k:=4) rfl Xd X1c rfl rfl rfl rfl rfl rfl rfl ⟨by omega,by unfold maxLen; omega⟩ rfl ?_);intro v24 w hS;obtain ⟨a24,c24,rfl,hcap24,_⟩:=hS.vecSlice (k:=4) (v:=v24) rfl;refine .nil ?_;clear hH;have hH:=(hS.pick 1 rfl)
    refine ⟨fun _ _=>⟨_,hH⟩,?_⟩;refine .tp (i:=21) rfl (by kernel_rfl) (fun w=>(.no rfl)) rfl (.tp (i:=22) rfl (by kernel_rfl) (fun w=>(.fo 1 rfl X1x rfl rfl X4x rfl)) rfl ?_);refine .b1 23 (by kernel_rfl) rfl (.s1 hS (k:=1) rfl rfl rfl rfl X4x (by simp) ?_);intro w hS;refine .nil ?_;refine And.intro (by intro h; cases h) ?_;refine .tp (i:=24) rfl (by kernel_rfl) (fun w=>(.no rfl)) rfl (.tp (i:=25) rfl (by kernel_rfl) (fun w=>(.fo 2 rfl X1x rfl rfl X15 rfl)) rfl ?_);refine .b1 26 (by kernel_rfl) rfl (.s1 hS (k:=1) rfl rfl rfl rfl X15 (by simp) ?_);intro w hS;refine .nil ?_;refine And.intro (by intro h; cases h) ?_;refine .done (by kernel_rfl) (.t 1 rfl ?_);replace hS:=hS.vecOf (k:=0) (E:=3) (size:=1) (n:=1) rfl rfl (by unfold maxLen; omega);replace hS:=hS.push (k:=4) rfl;refine .call X7v rfl (ec9 rfl (ec9 rfl (ec9 rfl X0))) rfl (X2p _ _ _ _ _ _ _ _ _ _ _ _ hS (by omega)) ?_;rintro _ w ⟨rfl,lv,hS⟩;refine .nil (X7n Xnw ?_);replace hS:=hS.say (k:=4) (A':=X3v 3 (st ++ [(.slice (some (ad b15 0)) 1 1,[(n:Int)])])) rfl (fun h hh=>by rw [X3v,Yv]; exact hh);exact ⟨_,rfl,rfl,_,_,_,_,hS⟩
   ·refine .buildSlice (cs:=[_]) hS (pc9 rfl X4) Xd Qs3 Qz3 rfl rfl rfl rfl ?_;intro b23 w hS;refine .nil ?_;clear hH;have hH:=(hS.pick 3 rfl)
    refine ⟨fun _ _=>⟨_,hH⟩,?_⟩;refine .b1 13 (by kernel_rfl) rfl ?_;replace hS:=hS.pick 1 rfl;refine .append (size:=1) (bytes:=24) hS (.of rfl) (.of rfl) (k:=4) rfl X29 X4a rfl rfl rfl rfl rfl rfl rfl ⟨by omega,by unfold maxLen; omega⟩ rfl ?_;intro v17 w hS;obtain ⟨a17,c17,rfl,hcap17,_⟩:=hS.vecSlice (k:=4) (v:=v17) rfl;refine .nil ?_;clear hH;have hH:=(hS.pick 2 rfl)
    refine ⟨fun _ _=>⟨_,hH⟩,?_⟩;refine .b1 20 (by kernel_rfl) rfl (.append (size:=1) (bytes:=8) hS (.of rfl) (.of rfl) (k:=4) rfl Xd X1c rfl rfl rfl rfl rfl rfl rfl ⟨by omega,by unfold maxLen; omega⟩ rfl ?_);intro v24 w hS;obtain ⟨a24,c24,rfl,hcap24,_⟩:=hS.vecSlice (k:=4) (v:=v24) rfl;refine .nil ?_;clear hH;have hH:=(hS.pick 1 rfl)
    refine ⟨fun _ _=>⟨_,hH⟩,?_⟩;refine .tp (i:=21) rfl (by kernel_rfl) (fun w=>(.no rfl)) rfl (.tp (i:=22) rfl (by kernel_rfl) (fun w=>(.fo 1 rfl X1x rfl rfl X4x rfl)) rfl ?_);refine .b1 23 (by kernel_rfl) rfl (.s1 hS (k:=1) rfl rfl rfl rfl X4x (by simp) ?_);intro w hS;refine .nil ?_;refine And.intro (by intro h; cases h) ?_;refine .tp (i:=24) rfl (by kernel_rfl) (fun w=>(.no rfl)) rfl (.tp (i:=25) rfl (by kernel_rfl) (fun w=>(.fo 2 rfl X1x rfl rfl X15 rfl)) rfl ?_);refine .b1 26 (by kernel_rfl) rfl (.s1 hS (k:=1) rfl rfl rfl rfl X15 (by simp) ?_);intro w hS;refine .nil ?_;refine And.intro (by intro h; cases h) ?_;refine .done (by kernel_rfl) (.t 1 rfl ?_);replace hS:=hS.vecOf (k:=0) (E:=3) (size:=1) (n:=1) rfl rfl (by unfold maxLen; omega);replace hS:=hS.push (k:=4) rfl;refine .call X7v rfl (ec9 rfl (ec9 rfl (ec9 rfl X0))) rfl (X2p _ _ _ _ _ _ _ _ _ _ _ _ hS (by omega)) ?_;rintro _ w ⟨rfl,lv,hS⟩;refine .nil (X7n Xnw ?_);replace hS:=hS.say (k:=4) (A':=X3v 3 (st ++ [(.slice (some (ad b15 0)) 1 1,[(n:Int)])])) rfl (fun h hh=>by rw [X3v,Yv]; exact hh);exact ⟨_,rfl,rfl,_,_,_,_,hS⟩
  ·refine .buildSlice (cs:=[_]) hS (pc9 rfl X4) Xd Qs3 Qz3 rfl rfl rfl rfl ?_;intro b23 w hS;refine .nil ?_;clear hH;have hH:=(hS.pick 2 rfl)
   refine ⟨fun _ _=>⟨_,hH⟩,?_⟩;refine .b1 12 (by kernel_rfl) rfl (.buildSlice (cs:=[_]) hS (pc9 rfl X4) X29 X15 Xp5 rfl rfl rfl rfl ?_);intro b16 w hS;refine .nil ?_;clear hH;have hH:=(hS.pick 3 rfl)
   refine ⟨fun _ _=>⟨_,hH⟩,?_⟩;refine .b1 13 (by kernel_rfl) rfl (.append (size:=1) (bytes:=24) hS (.of rfl) (.of rfl) (k:=4) rfl X29 X4a rfl rfl rfl rfl rfl rfl rfl ⟨by omega,by unfold maxLen; omega⟩ rfl ?_);intro v17 w hS;obtain ⟨a17,c17,rfl,hcap17,_⟩:=hS.vecSlice (k:=4) (v:=v17) rfl;refine .nil ?_;clear hH;have hH:=(hS.pick 2 rfl)
   refine ⟨fun _ _=>⟨_,hH⟩,?_⟩;refine .b1 20 (by kernel_rfl) rfl (.append (size:=1) (bytes:=8) hS (.of rfl) (.of rfl) (k:=4) rfl Xd X1c rfl rfl rfl rfl rfl rfl rfl ⟨by omega,by unfold maxLen; omega⟩ rfl ?_);intro v24 w hS;obtain ⟨a24,c24,rfl,hcap24,_⟩:=hS.vecSlice (k:=4) (v:=v24) rfl;refine .nil ?_;clear hH;have hH:=(hS.pick 1 rfl)
   refine ⟨fun _ _=>⟨_,hH⟩,?_⟩;refine .tp (i:=21) rfl (by kernel_rfl) (fun w=>(.no rfl)) rfl (.tp (i:=22) rfl (by kernel_rfl) (fun w=>(.fo 1 rfl X1x rfl rfl X4x rfl)) rfl ?_);refine .b1 23 (by kernel_rfl) rfl (.s1 hS (k:=1) rfl rfl rfl rfl X4x (by simp) ?_);intro w hS;refine .nil ?_;refine And.intro (by intro h; cases h) ?_;refine .tp (i:=24) rfl (by kernel_rfl) (fun w=>(.no rfl)) rfl (.tp (i:=25) rfl (by kernel_rfl) (fun w=>(.fo 2 rfl X1x rfl rfl X15 rfl)) rfl ?_);refine .b1 26 (by kernel_rfl) rfl (.s1 hS (k:=1) rfl rfl rfl rfl X15 (by simp) ?_);intro w hS;refine .nil ?_;refine And.intro (by intro h; cases h) ?_;refine .done (by kernel_rfl) (.t 1 rfl ?_);replace hS:=hS.vecOf (k:=0) (E:=3) (size:=1) (n:=1) rfl rfl (by unfold maxLen; omega);replace hS:=hS.push (k:=4) rfl;refine .call X7v rfl (ec9 rfl (ec9 rfl (ec9 rfl X0))) rfl (X2p _ _ _ _ _ _ _ _ _ _ _ _ hS (by omega)) ?_;rintro _ w ⟨rfl,lv,hS⟩;refine .nil (X7n Xnw ?_);replace hS:=hS.say (k:=4) (A':=X3v 3 (st ++ [(.slice (some (ad b15 0)) 1 1,[(n:Int)])])) rfl (fun h hh=>by rw [X3v,Yv]; exact hh);exact ⟨_,rfl,rfl,_,_,_,_,hS⟩
 ·refine .buildSlice (cs:=[_]) hS (pc9 rfl X4) Xd Qs3 Qz3 rfl rfl rfl rfl ?_;intro b23 w hS;refine .nil ?_;clear hH;have hH:=(hS.pick 1 rfl)
  refine ⟨fun _ _=>⟨_,hH⟩,?_⟩;refine .b1 11 (by kernel_rfl) rfl (.buildSlice (cs:=[_]) hS (pc9 rfl X4) Xd Qs3 Qz3 rfl rfl rfl rfl ?_);intro b15 w hS;refine .nil ?_;clear hH;have hH:=(hS.pick 2 rfl)
  refine ⟨fun _ _=>⟨_,hH⟩,?_⟩;refine .b1 12 (by kernel_rfl) rfl (.buildSlice (cs:=[_]) hS (pc9 rfl X4) X29 X15 Xp5 rfl rfl rfl rfl ?_);intro b16 w hS;refine .nil ?_;clear hH;have hH:=(hS.pick 3 rfl)
  refine ⟨fun _ _=>⟨_,hH⟩,?_⟩;refine .b1 13 (by kernel_rfl) rfl (.append (size:=1) (bytes:=24) hS (.of rfl) (.of rfl) (k:=4) rfl X29 X4a rfl rfl rfl rfl rfl rfl rfl ⟨by omega,by unfold maxLen; omega⟩ rfl ?_);intro v17 w hS;obtain ⟨a17,c17,rfl,hcap17,_⟩:=hS.vecSlice (k:=4) (v:=v17) rfl;refine .nil ?_;clear hH;have hH:=(hS.pick 2 rfl)
  refine ⟨fun _ _=>⟨_,hH⟩,?_⟩;refine .b1 20 (by kernel_rfl) rfl ?_;replace hS:=hS.pick 1 rfl;refine .append (size:=1) (bytes:=8) hS (.of rfl) (.of rfl) (k:=4) rfl Xd X1c rfl rfl rfl rfl rfl rfl rfl ⟨by omega,by unfold maxLen; omega⟩ rfl ?_;intro v24 w hS;obtain ⟨a24,c24,rfl,hcap24,_⟩:=hS.vecSlice (k:=4) (v:=v24) rfl;refine .nil ?_;clear hH;have hH:=(hS.pick 1 rfl)
  refine ⟨fun _ _=>⟨_,hH⟩,?_⟩;refine .tp (i:=21) rfl (by kernel_rfl) (fun w=>(.no rfl)) rfl (.tp (i:=22) rfl (by kernel_rfl) (fun w=>(.fo 1 rfl X1x rfl rfl X4x rfl)) rfl ?_);refine .b1 23 (by kernel_rfl) rfl (.s1 hS (k:=1) rfl rfl rfl rfl X4x (by simp) ?_);intro w hS;refine .nil ?_;refine And.intro (by intro h; cases h) ?_;refine .tp (i:=24) rfl (by kernel_rfl) (fun w=>(.no rfl)) rfl (.tp (i:=25) rfl (by kernel_rfl) (fun w=>(.fo 2 rfl X1x rfl rfl X15 rfl)) rfl ?_);refine .b1 26 (by kernel_rfl) rfl (.s1 hS (k:=1) rfl rfl rfl rfl X15 (by simp) ?_);intro w hS;refine .nil ?_;refine And.intro (by intro h; cases h) ?_;refine .done (by kernel_rfl) (.t 1 rfl ?_);replace hS:=hS.vecOf (k:=0) (E:=3) (size:=1) (n:=1) rfl rfl (by unfold maxLen; omega);replace hS:=hS.push (k:=4) rfl;refine .call X7v rfl (ec9 rfl (ec9 rfl (ec9 rfl X0))) rfl (X2p _ _ _ _ _ _ _ _ _ _ _ _ hS (by omega)) ?_;rintro _ w ⟨rfl,lv,hS⟩;refine .nil (X7n Xnw ?_);replace hS:=hS.say (k:=4) (A':=X3v 3 (st ++ [(.slice (some (ad b15 0)) 1 1,[(n:Int)])])) rfl (fun h hh=>by rw [X3v,Yv]; exact hh);exact ⟨_,rfl,rfl,_,_,_,_,hS⟩
theorem Xn3 (bc:Nat) (lv sv av mv:Value) (P0:List X2e) (Q0:List Pl) (st:List (Value×List Int)) (o:Nat) (bs:List Nat) (ats:List Int) (B w:World) (I:Im) (F:List X7)
  (hS:Sat B w I (blk bc [lv,sv,av] 267::Vec 238 3 lv P0.length (P0.flatMap enc)::Vec 168 1 sv (st.length+1) (st.map (·.1) ++ [mv])::Vec 3 1 av ats.length (ats.map I64)::X3v 3 (st ++ [(mv,(o::bs).map fun (x:Nat)=>(x:Int))])::F))
  (hR:RelP I P0 Q0) (hob:∀ b∈bs,b≠o∧b<P0.length) (ho:o<P0.length) (ko co:Int) (hPo:P0[o]?=some (ko,co,.slice none 0 0)) (hQo:Q0[o]?=some (ko,co,[])) (hn:P0.length≤1000) (hd:st.length≤1000) (hd2:ats.length=st.length+1) (hbl:bs.length≤1000) :
  Calls Tryz.prog 225 [ptr bc 0].toArray w (Ret fun v w'=>v=.tuple #[]∧∃ lv' sv' av' P' J,Le I J∧RelP J P' (X1k P0.length o Q0 [] bs ++ [(6,0,[])]) ∧
   Sat B w' J (blk bc [lv',sv',av'] 267::Vec 238 3 lv' P'.length (P'.flatMap enc)::Vec 168 1 sv' st.length (st.map (·.1))::Vec 3 1 av' st.length ((ats.take st.length).map I64)::X3v 3 st::F)):=by
 refine calls Tryz.func225 rfl Tryz.ntmps225 rfl (.seq ?_);have hcl:=hob;obtain ⟨gl,cl,rl,rfl,hcl1,hcl2,hcl3,hcl4,hS⟩:=hS.vecOpen (k:=1) rfl (by omega);obtain ⟨gs,sc,rs,rfl,hsc1,hsc2,hsc3,hsc4,hS⟩:=hS.vecOpen (k:=2) rfl (by omega);obtain ⟨aa,ac,rfl,hac,_⟩:=hS.vecSlice (k:=3) rfl;refine .t 2 rfl (.val (.fo 1 rfl X1x rfl rfl X4x rfl) rfl (.val (.lo rfl hS (k:=0) rfl Xgy rfl) rfl (.run 1 rfl ⟨⟨_,X29⟩,trivial⟩ (.val (.sub (.of rfl) (.of rfl) ⟨by omega,by omega⟩) rfl ?_))));rw [show ((st.length+1:Nat):Int) - 1=(st.length:Int) by omega];refine .q 1 rfl (.nil (.seq (.t 2 rfl (.val (.fo 1 rfl X1x rfl rfl X4x rfl) rfl (.val (.lo rfl hS (k:=0) rfl Xgy rfl) rfl (.q 1 rfl (.val (.io rfl rfl (by omega) (by omega) X29 X15) rfl (.val (.lo rfl hS (k:=2) rfl X38 (v:=mv) (by simp)) rfl (.q 1 rfl (.nil (.seq (.drawn (fun w=>∃ R,Sat B w I (blk bc [.slice (some (ad gl 0)) P0.length cl,.slice (some (ad gs 0)) (st.length+1) sc,.slice aa ats.length ac] 267::R)) (fun j=>!([16,19].contains j)) (by kernel_rfl) ?_))))))))))));replace hS:=hS.drew; generalize w.drew=w at hS ⊢;have hH:=(hS.pick 0 rfl)
 refine .tp (i:=0) rfl (by kernel_rfl) (fun w=>(.mo rfl)) rfl (.tp (i:=1) rfl (by kernel_rfl) (fun w=>(.mo rfl)) rfl (.tp (i:=2) rfl (by kernel_rfl) (fun w=>(.mo rfl)) rfl (.tp (i:=3) rfl (by kernel_rfl) (fun w=>(.no rfl)) rfl (.tp (i:=4) rfl (by kernel_rfl) (fun w=>(.fo 1 rfl X1x rfl rfl X4x rfl)) rfl (.tk (i:=5) rfl (by kernel_rfl) ⟨_,hH⟩ (fun w ⟨R,hS⟩=>(.lo rfl hS (k:=0) rfl Xgy rfl)) rfl (.tp (i:=6) rfl (by kernel_rfl) (fun w=>(.mo rfl)) rfl (.tp (i:=7) rfl (by kernel_rfl) (fun w=>(.slcTo (.of rfl) (.of rfl) (by omega) (by omega) X29 X15)) rfl (.tp (i:=8) rfl (by kernel_rfl) (fun w=>(.mo rfl)) rfl (.tp (i:=9) rfl (by kernel_rfl) (fun w=>(.no rfl)) rfl (.tp (i:=10) rfl (by kernel_rfl) (fun w=>(.fo 2 rfl X1x rfl rfl X15 rfl)) rfl (.tk (i:=11) rfl (by kernel_rfl) ⟨_,hH⟩ (fun w ⟨R,hS⟩=>(.lo rfl hS (k:=0) rfl X38 rfl)) rfl (.tp (i:=12) rfl (by kernel_rfl) (fun w=>(.mo rfl)) rfl (.tp (i:=13) rfl (by kernel_rfl) (fun w=>(.slcTo (.of rfl) (.of rfl) (by omega) (by omega) Xd Qs3)) rfl (.tp (i:=14) rfl (by kernel_rfl) (fun w=>(.no rfl)) rfl (.tp (i:=15) rfl (by kernel_rfl) (fun w=>(.fo 1 rfl X1x rfl rfl X4x rfl)) rfl ?_)))))))))))))));refine .b1 16 (by kernel_rfl) rfl (.s1 hS (k:=0) rfl rfl rfl rfl X4x (by simp) ?_);intro w hS;refine .nil ?_;refine And.intro (by intro h; cases h) ?_;refine .tp (i:=17) rfl (by kernel_rfl) (fun w=>(.no rfl)) rfl (.tp (i:=18) rfl (by kernel_rfl) (fun w=>(.fo 2 rfl X1x rfl rfl X15 rfl)) rfl ?_);refine .b1 19 (by kernel_rfl) rfl (.s1 hS (k:=0) rfl rfl rfl rfl X15 (by simp) ?_);intro w hS;refine .nil ?_;refine And.intro (by intro h; cases h) ?_;refine .done (by kernel_rfl) (.seq (.seq ?_));replace hS:=hS.vecShut (k:=2) (n:=st.length+1) (cap:=sc) rfl hsc1 hsc2 hsc3 hsc4;replace hS:=hS.vecTake (k:=2) (m:=(st.length:Int).toNat) rfl (by simp);obtain ⟨a2,c2,e2,hS⟩:=hS.vecTakeI (k:=3) (f:=I64) (m:=(st.length:Int).toNat) rfl (by simp; omega);have e3:(st.map (·.1) ++ [mv]).take ((st.length:Int).toNat*1)=st.map (·.1):=by rw [Y1i]; exact List.take_left' (by simp)
 rw [e3] at hS; rw [e2] at hS;have e4:X3v 3 (st ++ [(mv,(o::bs).map fun (x:Nat)=>(x:Int))])=SepAll ((st.map fun x=>Vec 3 1 x.1 x.2.length (x.2.map I64)) ++ [Vec 3 1 mv ((o::bs).map fun (x:Nat)=>(x:Int)).length (((o::bs).map fun (x:Nat)=>(x:Int)).map I64)]):=by rw [X3v,Yv]; rfl
 rw [e4] at hS;replace hS:=hS.pop (k:=4) rfl;obtain ⟨gm,cm,rm,hmv,hcm1,hcm2,hcm3,hcm4,hT⟩:=hS.vecOpen (k:=0) rfl (by simp);have hml:((o::bs).map fun (x:Nat)=>(x:Int)).length=bs.length+1:=by simp
 rw [hml] at hmv; subst hmv; have hS:=hT; clear hT;generalize sliced (some (ad gs 0)) 0 (st.length:Int).toNat sc 1=sv2 at hS;generalize Value.slice a2 (ats.take (st.length:Int).toNat).length c2=av2 at hS;refine .t 1 rfl (.val (.slcFrom (.of rfl) (.of rfl) (by omega) (by omega) Xd Qs3) rfl ?_);obtain ⟨ao,hao,e38⟩:∃ ao,(0<bs.length→ao=some (ad gm 1))∧sliced (some (ad gm 0)) (1:Int).toNat (bs.length+1) cm 1=.slice ao bs.length (cm - 1):=⟨if cm=1 then some (ad gm 0) else some (ad gm 1),fun h=>if_neg (by omega),by simp [sliced,X13]⟩
 rw [e38];refine .run 2 rfl ⟨⟨_,Xd⟩,trivial⟩ (.nil (.block (.loop (σ:=List Nat×List Nat×List X2e×List Pl×Value×Im) (fun ⟨pre,rem,P,Q,tv,J⟩=>[(0,ptr bc 0),(3,.slice (some (ad gm 0)) (bs.length+1) cm),(38,.slice ao bs.length (cm - 1)),(39,I64 bs.length),(40,I64 pre.length)]) (fun ⟨pre,rem,P,Q,tv,J⟩ w=>bs=pre ++ rem∧Le I J∧RelX J o P Q∧P.length=P0.length∧(∃ k c,P[o]?=some (k,c,tv))∧(∃ k c,Q[o]?=some (k,c,pre.map fun (x:Nat)=>(x:Int)+1))∧(pre=[]→tv=.slice none 0 0)∧X1k P0.length o Q (pre.map fun (x:Nat)=>(x:Int)+1) rem=X1k P0.length o Q0 [] bs∧Sat B w J (Vec 3 1 tv pre.length ((pre.map fun (x:Nat)=>(x:Int)+1).map I64)::blk gm (((o::bs).map fun (x:Nat)=>(x:Int)).map I64 ++ rm) 3::blk bc [.slice (some (ad gl 0)) P0.length cl,sv2,av2] 267::blk gl (P.flatMap enc ++ rl) 238::Vec 168 1 sv2 (st.length:Int).toNat (st.map (·.1))::Vec 3 1 av2 (ats.take (st.length:Int).toNat).length ((ats.take (st.length:Int).toNat).map I64)::X3v 3 st::F)) (fun ⟨pre,rem,P,Q,tv,J⟩=>rem.length) ([],bs,P0,Q0,.slice none 0 0,I) ⟨rfl,rfl,rfl,rfl,rfl,trivial⟩ ⟨rfl,Le.refl I,hR.x o,rfl,⟨_,_,hPo⟩,⟨_,_,hQo⟩,fun _=>rfl,rfl,hS.vecNil _ _⟩ ?_)));rintro ⟨pre,rem,P,Q,tv,J⟩ w ⟨hbs,hJ,hX,hPl,⟨ko,co,hPo⟩,⟨kq,cq,hQo⟩,htv,hgo,hS⟩;have hlen:bs.length=pre.length+rem.length:=by rw [hbs,Y0]
 refine .seq (.q 1 rfl (.seq ?_));refine .cond rfl (fun hb41=>?_) fun hb41=>?_
 ·have hc41:=hb41; simp only [Y6] at hc41;refine .skip (.seq (.block (.seq (.region ?_))));obtain ⟨b,r,rfl⟩:∃ b r,rem=b::r:=by
   cases rem with
   | nil=>simp at hlen; omega
   | cons b r=>exact ⟨b,r,rfl⟩
  have hao2:=hao (by omega); subst hao2;have hbo:=(hob b (by rw [hbs]; simp)).1;have hbl2:=(hob b (by rw [hbs]; simp)).2;have hpre:pre.length≤1000:=by omega
  refine .val (.io rfl rfl (by omega) (by omega) Xd Qs3) rfl (.val (.lo rfl hS (k:=1) rfl Qg3 (v:=I64 b) (Xnf hbs rm)) rfl (.q 1 rfl (.nil (.seq (.drawn (fun w=>∃ R,Sat B w J (blk gm (((o::bs).map fun (x:Nat)=>(x:Int)).map I64 ++ rm) 3::blk bc [.slice (some (ad gl 0)) P0.length cl,sv2,av2] 267::blk gl (P.flatMap enc ++ rl) 238::R)) (fun j=>!([23].contains j)) (by kernel_rfl) ?_)))));replace hS:=hS.drew; generalize w.drew=w at hS ⊢;have hH:=(((hS.pick 3 rfl).pick 3 rfl).pick 3 rfl)
  refine .tp (i:=0) rfl (by kernel_rfl) (fun w=>(.mo rfl)) rfl (.tp (i:=1) rfl (by kernel_rfl) (fun w=>(.no rfl)) rfl (.tp (i:=2) rfl (by kernel_rfl) (fun w=>(.fo 0 rfl X1x rfl rfl X6g rfl)) rfl (.tk (i:=3) rfl (by kernel_rfl) ⟨_,hH⟩ (fun w ⟨R,hS⟩=>(.lo rfl hS (k:=1) rfl X7t rfl)) rfl (.tp (i:=4) rfl (by kernel_rfl) (fun w=>(.mo rfl)) rfl (.tp (i:=5) rfl (by kernel_rfl) (fun w=>(.io rfl rfl (by omega) (by omega) Xd Qs3)) rfl (.tk (i:=6) rfl (by kernel_rfl) ⟨_,hH⟩ (fun w ⟨R,hS⟩=>.lo rfl hS (k:=0) rfl Qg3 (v:=I64 (o:Nat)) rfl) rfl (.tp (i:=7) rfl (by kernel_rfl) (fun w=>(.mo rfl)) rfl (.tp (i:=8) rfl (by kernel_rfl) (fun w=>(.no rfl)) rfl (.tp (i:=9) rfl (by kernel_rfl) (fun w=>(.fo 0 rfl X1x rfl rfl X6g rfl)) rfl (.tk (i:=10) rfl (by kernel_rfl) ⟨_,hH⟩ (fun w ⟨R,hS⟩=>(.lo rfl hS (k:=1) rfl X7t rfl)) rfl (.tp (i:=11) rfl (by kernel_rfl) (fun w=>(.mo rfl)) rfl (.tp (i:=12) rfl (by kernel_rfl) (fun w=>(.io rfl rfl (by omega) (by omega) Xd Qs3)) rfl (.tk (i:=13) rfl (by kernel_rfl) ⟨_,hH⟩ (fun w ⟨R,hS⟩=>.lo rfl hS (k:=0) rfl Qg3 (v:=I64 (o:Nat)) rfl) rfl (.tp (i:=14) rfl (by kernel_rfl) (fun w=>(.io rfl rfl (by omega) (by omega) X84 Xam)) rfl (.tp (i:=15) rfl (by kernel_rfl) (fun w=>(.fo 2 rfl X6l rfl rfl X15 rfl)) rfl (.tk (i:=16) rfl (by kernel_rfl) ⟨_,hH⟩ (fun w ⟨R,hS⟩=>.lo rfl hS (k:=2) rfl X38 (v:=tv) (to_get hPo rl)) rfl (.tp (i:=17) rfl (by kernel_rfl) (fun w=>(.mo rfl)) rfl (.tp (i:=18) rfl (by kernel_rfl) (fun w=>(.add (.of rfl) (.of rfl) ⟨by omega,by omega⟩)) rfl ?_))))))))))))))))));refine .b1 19 (by kernel_rfl) rfl (.buildSlice (cs:=[_]) hS (pc9 rfl X4) Xd Qs3 Qz3 rfl rfl rfl rfl ?_);intro b63 w hS;refine .nil ?_;clear hH;have hH:=(((hS.pick 4 rfl).pick 4 rfl).pick 4 rfl)
  refine ⟨fun _ _=>⟨_,hH⟩,?_⟩;refine .b1 20 (by kernel_rfl) rfl (.append (size:=1) (bytes:=8) hS (.of rfl) (.of rfl) (k:=0) rfl Xd X1c rfl rfl rfl rfl rfl rfl rfl ⟨by omega,by unfold maxLen; omega⟩ rfl ?_);intro v64 w hS;obtain ⟨a64,c64,rfl,hcap64,_⟩:=hS.vecSlice (k:=0) (v:=v64) rfl;refine .nil ?_;clear hH;have hH:=(((hS.pick 3 rfl).pick 3 rfl).pick 3 rfl)
  refine ⟨fun _ _=>⟨_,hH⟩,?_⟩;refine .tp (i:=21) rfl (by kernel_rfl) (fun w=>(.io rfl rfl (by omega) (by omega) X84 Xam)) rfl (.tp (i:=22) rfl (by kernel_rfl) (fun w=>(.fo 2 rfl X6l rfl rfl X15 rfl)) rfl ?_);refine .b1 23 (by kernel_rfl) rfl ?_;refine .s1 hS (k:=3) rfl rfl rfl rfl X15 (by rw [Y0,X72 enc 3 X1h]; (try simp only [X75]); omega) ?_;intro w hS;simp only [Ym] at hS
  rw [Xra (by (try simp only [X75]); omega)] at hS;refine .nil ?_;refine And.intro (by intro h; cases h) ?_;refine .done (by kernel_rfl) (.drawn (fun w=>∃ R,Sat B w J (blk bc [.slice (some (ad gl 0)) P0.length cl,sv2,av2] 267::R)) (fun j=>!([13].contains j)) (by kernel_rfl) ?_);replace hS:=hS.drew; generalize w.drew=w at hS ⊢;have hH:=(hS.pick 2 rfl)
  refine .tp (i:=0) rfl (by kernel_rfl) (fun w=>(.mo rfl)) rfl (.tp (i:=1) rfl (by kernel_rfl) (fun w=>(.no rfl)) rfl (.tp (i:=2) rfl (by kernel_rfl) (fun w=>(.fo 0 rfl X1x rfl rfl X6g rfl)) rfl (.tk (i:=3) rfl (by kernel_rfl) ⟨_,hH⟩ (fun w ⟨R,hS⟩=>(.lo rfl hS (k:=0) rfl X7t rfl)) rfl (.tp (i:=4) rfl (by kernel_rfl) (fun w=>(.mo rfl)) rfl (.tp (i:=5) rfl (by kernel_rfl) (fun w=>(.mo rfl)) rfl (.tp (i:=6) rfl (by kernel_rfl) (fun w=>(.no rfl)) rfl (.tp (i:=7) rfl (by kernel_rfl) (fun w=>(.fo 0 rfl X1x rfl rfl X6g rfl)) rfl (.tk (i:=8) rfl (by kernel_rfl) ⟨_,hH⟩ (fun w ⟨R,hS⟩=>(.lo rfl hS (k:=0) rfl X7t rfl)) rfl (.tp (i:=9) rfl (by kernel_rfl) (fun w=>(.lenSlice (.of rfl) X84)) rfl ?_)))))))));refine .b1 10 (by kernel_rfl) rfl (.buildSlice (cs:=[_]) hS (pc9 rfl X4) Xd Qs3 Qz3 rfl rfl rfl rfl ?_);intro b77 w hS;refine .nil ?_;clear hH;have hH:=(hS.pick 3 rfl)
  refine ⟨fun _ _=>⟨_,hH⟩,?_⟩;refine .tp (i:=11) rfl (by kernel_rfl) (fun w=>(.io rfl rfl (by omega) (by omega) X84 Xam)) rfl (.tp (i:=12) rfl (by kernel_rfl) (fun w=>(.fo 2 rfl X6l rfl rfl X15 rfl)) rfl ?_);refine .b1 13 (by kernel_rfl) rfl ?_;refine .s1 hS (k:=4) rfl rfl rfl rfl X15 (by rw [Y0,X72 enc 3 X1h]; (try simp only [X75]); omega) ?_;intro w hS;simp only [Ym] at hS
  rw [Xra (by (try simp only [X75]); omega)] at hS;obtain ⟨J2,hJ2,hb2,hS⟩:=hS.freeze (k:=0) rfl;have hI2:IntsI J2 (.slice (some (ad b77 0)) 1 1) [(P0.length:Int)]:=⟨(fun h=>by cases h),_,_,rfl,Yu _,rfl,fun _=>⟨_,rfl,rfl,_,_,_,hb2,fun j u hj=>by simpa using hj⟩⟩
  refine .nil ?_;refine And.intro (by intro h; cases h) ?_;refine .done (by kernel_rfl) (.region ?_)
  skip
  refine .val (.add (.of rfl) (.of rfl) ⟨by omega,by omega⟩) rfl ?_;rw [show ((pre.length:Nat):Int)+1=((pre ++ [b]).length:Nat) by simp];refine .q 1 rfl (.nil ?_);refine ⟨(pre ++ [b],r,X5y (X5y P o (.slice a64 (pre.length+1) c64)) b (.slice (some (ad b77 0)) 1 1),X10 (X10 Q o (pre.map (fun (x:Nat)=>(x:Int)+1) ++ [(b:Int)+1])) b [(P0.length:Int)],.slice a64 (pre.length+1) c64,J2),⟨rfl,rfl,rfl,rfl,rfl,trivial⟩,⟨by rw [hbs]; simp,hJ.trans hJ2,((hX.setO _ _).mono hJ2).setB _ _ _ hI2,by simp [X5y,hPl],⟨ko,co,?_⟩,⟨kq,cq,?_⟩,fun h=>by simp at h,?_,?_⟩,by simp⟩
  ·simp [X5y,Y1p,hPo,hbo]
  ·simp [X10,Y1p,hQo,hbo]
  ·rw [← hgo,X1k]; simp
  ·simpa using hS
 have hc41:=hb41; simp only [Y6] at hc41;refine .exit ?_;have hrem:rem=[]:=by
  cases rem with
  | nil=>rfl
  | cons b r=>simp at hlen; omega
 subst hrem;replace hS:=hS.drop (k:=1) rfl;obtain ⟨J2,hJ2,hI2,hS⟩:=Xk2 (k:=0) (xs:=pre.map fun (x:Nat)=>(x:Int)+1) hS (by rw [Y10]; rfl) (fun h=>htv (by simpa using h));replace hS:=hS.vecShut (k:=1) (n:=P.length) (cap:=cl) rfl (by omega) hcl2 (by rw [X72 enc 3 X1h]) (by rw [X72 enc 3 X1h] at hcl4 ⊢; omega);rw [← hPl] at hS ⊢;refine .t 1 rfl (.call X7v rfl (ec9 rfl (ec9 rfl (ec9 rfl X0))) rfl (X2p _ _ _ _ _ _ _ _ _ _ _ _ hS (by omega)) ?_);rintro _ w ⟨rfl,lv2,hS⟩;refine .nil (X7n Tryz.results225 ?_);replace hS:=hS.say (k:=1) (A':=Vec 238 3 lv2 (P.length+1) ((P ++ [((6:Int),(0:Int),Value.slice none 0 0)]).flatMap enc)) rfl (fun h hh=>by rw [Y1o]; exact hh);refine ⟨_,rfl,rfl,lv2,sv2,av2,P ++ [(6,0,.slice none 0 0)],J2,hJ.trans hJ2,?_,?_⟩
 ·rw [hPl,← hgo,X1k];exact ((hX.mono hJ2).back (fun p q hp hq=>by rw [hPo] at hp; rw [hQo] at hq; cases hp; cases hq; exact hI2)).snoc 6 0 _ _ (IntsI.nil _)
 ·have e5:(ats.take (st.length:Int).toNat).length=st.length:=by rw [Ym,Yt]; omega
  rw [e5] at hS;rw [Y0];exact hS
theorem X9b (s p:List UInt8) (w:World) (hs:s.length≤140737488351232) (hp:p.length≤140737488351232) :
  Cz 139 [S s,S p] w fun v w'=>v=.bool (hasPre s p)∧w=w':=by
 refine calls Tryz.func139 rfl Tryz.ntmps139 rfl (.seq (.q 1 rfl (.seq (.region (.run 6 rfl ⟨Qu9,Qu9,trivial⟩ (.gm rfl rfl rfl rfl (.gm rfl rfl rfl rfl (.gval rfl rfl (fun hg1=>(.len (.gd hg1 rfl) Qu9)) rfl ?_))))))));refine .gval rfl rfl (fun hg1=>(.subTo (.gd hg1 rfl) (.gd hg1 rfl) (by (try simp only [Y6] at hg1); omega) (by (try simp only [Y6] at hg1); omega) Qu9)) rfl ?_;refine .gm rfl rfl rfl rfl (.gval rfl rfl (fun hg1=>(.eqs (.gd hg1 rfl) (.gd hg1 rfl))) rfl (.val (.pa rfl rfl rfl) rfl (.q 1 rfl (.nil (.ret (X9 Tryz.results139 rfl ?_))))));exact ⟨_,rfl,rfl,rfl⟩
theorem X26 (s p:List UInt8) (w:World) (hs:s.length≤140737488351232) (hp:p.length≤140737488351232) :
  Cz 90 [S s,S p] w fun v w'=>v=.bool (hasPre s p)∧w=w':=by
 refine calls Qf90 rfl Tryz.ntmps90 rfl (.seq (.q 1 rfl (.seq (.t 2 rfl (.call Tryz.func139 rfl (ec9 rfl (ec9 rfl X0)) rfl (X9b _ _ _ hs hp) ?_)))));rintro _ _ ⟨rfl,rfl⟩;refine .q 1 rfl (.nil (.ret (X9 Tryz.results90 rfl ?_)));exact ⟨_,rfl,rfl,rfl⟩
end Go.Proofs.YtfibbpgikjggfaaGreatDoor
namespace Go.Proofs.YtfibbpgikjggfaaGreatDoor
open Gk Pc Ul Pat
theorem X1m:Tryz.prog.info? 9=some Tryz.t9:=by kernel_rfl
structure Known (I:Im):Prop where
 dig:DigAt I
 pow : ∀ (B w : World) (As : List X7), Sat B w I As → Go.Lib.TabIs Tryz.prog w "internal/strconv.uint64pow10" .u64 Go.Lib.pow10Tab
 max:∀ (B w:World) (As:List X7),Sat B w I As→∃ m,w.cell? ⟨1,0,none⟩=some (.int .i64 m)
theorem Known.mono {I J:Im} (h:Known I) (hl:Le I J):Known J :=
 have e:∀ (B w:World) (As:List X7),Sat B w J As→Sat B w I As:=fun B w As ⟨g,h1,h2⟩=>⟨g,h1,h2.os,h2.tape,h2.output,fun b o hi=>h2.imm b o (hl b o hi),h2.own,h2.nodup,fun b o hm=>by
  cases hi:I b with
  | none=>rfl
  | some x=>have:=h2.apart b o hm; rw [hl b x hi] at this; cases this⟩
 ⟨h.dig.mono hl,fun B w As s=>h.pow B w As (e B w As s),fun B w As s=>h.max B w As (e B w As s)⟩
theorem X9n {B w:World} {I:Im} {As:List X7} (hS:Sat B w I As) (n:Nat):Sat B (w.drewN n) I As:=hS.world rfl rfl rfl rfl
theorem Xo5 {B w:World} {I:Im} {As:List X7} (hS:Sat B w I As) (os:Array Obj):Sat B (Go.Sort.grow w os) I As :=
 hS.grown ⟨rfl,rfl,rfl,by simp [Go.Sort.grow],fun k hk=>by simp [Go.Sort.grow,Array.getElem?_append,hk]⟩
theorem Xon (n:Nat) (hn:n≤65535) (B w:World) (I:Im) (hK:Known I) (As:List X7) (hS:Sat B w I As):Calls Tryz.prog 94 [I64 (n:Nat)].toArray w (Ret fun v w'=>v=S (Go.Lib.decDigits n)∧Sat B w' I As) :=
 (Tryz.strconv_Itoa n (by omega) (by omega) w (hK.pow B w As hS)).mono fun e w' he=>by
  obtain ⟨rfl,k,os,rfl⟩:=he;refine ⟨_,rfl,?_,Xo5 (X9n hS k) os⟩;unfold Go.Lib.itoa;rw [if_neg (by omega),Ym]
theorem Xh0 (s:List UInt8) (hs:s.length≤1000000) (B w:World) (I:Im) (hK:Known I) (As:List X7) (hS:Sat B w I As):Calls Tryz.prog 86 [S s,S SIGN].toArray w (Ret fun v w'=>v=.tuple #[S (Go.Lib.cut s SIGN).1,S (Go.Lib.cut s SIGN).2.1,.bool (Go.Lib.cut s SIGN).2.2]∧Sat B w' I As):=by
 obtain ⟨m,hm⟩:=hK.max B w As hS;refine (Tryz.strings_Cut ⟨s.toArray⟩ ⟨SIGN.toArray⟩ m w (by show s.length<_; omega) hm).mono fun e w' he=>?_
 obtain ⟨rfl,n,rfl⟩:=he;exact ⟨_,rfl,rfl,X9n hS n⟩
theorem Xc8 (s:List UInt8) (c:UInt8) (hs:s.length≤1000000) (B w:World) (I:Im) (hK:Known I) (As:List X7) (hS:Sat B w I As):Calls Tryz.prog 86 [S s,S [c]].toArray w (Ret fun v w'=>v=.tuple #[S (upto [c] s),S ((Xc [c] s).drop 1),.bool (!(Xc [c] s).isEmpty)]∧Sat B w' I As):=by
 obtain ⟨m,hm⟩:=hK.max B w As hS;refine (Tryz.strings_Cut ⟨s.toArray⟩ ⟨[c].toArray⟩ m w (by show s.length<_; omega) hm).mono fun e w' he=>?_
 obtain ⟨rfl,n,rfl⟩:=he;refine ⟨_,rfl,?_,X9n hS n⟩;show Value.tuple #[S (Go.Lib.cut s [c]).1,S (Go.Lib.cut s [c]).2.1,.bool (Go.Lib.cut s [c]).2.2]=_
 rw [Xs4]
theorem Xrz (l:List ByteArray):l.map Value.string=(l.map (·.data.toList)).map S:=by
 rw [List.map_map];rfl
theorem Xn2 (s:List UInt8) (hs:s.length≤1000000) (B w:World) (I:Im) (hK:Known I) (As:List X7) (hS:Sat B w I As):Calls Tryz.prog 143 [S s,S [47]].toArray w (Ret fun v w'=>∃ b,v=.slice (some (ad b 0)) (spl s).length (spl s).length∧Sat B w' I (blk b ((spl s).map S) 9::As)):=by
 obtain ⟨m,hm⟩:=hK.max B w As hS;refine (Tryz.strings_Split ⟨s.toArray⟩ ⟨[47].toArray⟩ m w (by show s.length<_; omega) hm (by decide)).mono fun e w' he=>?_
 obtain ⟨rfl,rfl⟩:=he;have e1:(spl s).length=Go.Lib.countB ⟨s.toArray⟩ ⟨[47].toArray⟩+1:=Xsn _ s (Yu _);have e2:(Go.Lib.splitB ⟨[47].toArray⟩ 0 (Go.Lib.countB ⟨s.toArray⟩ ⟨[47].toArray⟩) ⟨s.toArray⟩).map Value.string=(spl s).map S:=by
  rw [Xrz,Go.Lib.splitB_data];show List.map S (Go.Lib.splitK [47] 0 (Go.Lib.count s [47]) s)=_
  rw [Xiy _ s (Yu _)]
 refine ⟨_,rfl,w.heap.size,by rw [e1],?_⟩;rw [e2];exact hS.alloc _
set_option maxHeartbeats 800000 in
theorem Xpq (p:List UInt8) (hl:p.length≤1000000) (B w:World) (I:Im) (hK:Known I) (As:List X7) (hS:Sat B w I As) :
  Cz 93 [S p] w fun v w'=>v=S (X8f p)∧Sat B w' I As:=by
 refine calls Tryz.func93 rfl Tryz.ntmps93 rfl (.seq (.q 1 rfl (.scope (.seq (.seq (.t 1 rfl (.call Qf90 rfl (ec9 rfl (ec9 rfl X0)) rfl (X26 p [47] _ (by omega) (by decide)) ?_)))))));rintro _ _ ⟨rfl,rfl⟩;refine .q 1 rfl (.nil ?_);refine .cond rfl (fun hb12=>?_) fun hb12=>?_
 ·refine .seq (.q 2 rfl (.ret (X9 Tryz.results93 rfl ?_)));refine ⟨_,rfl,?_,hS⟩;cases p with
  | nil=>rfl
  | cons a b=>rw [X8f,if_neg (fun e=>by subst e; simp [hasPre] at hb12; omega)]
 have hc12:=hb12; simp only [Y6] at hc12;refine .skip (.seq (.q 1 rfl (.seq (.q 1 rfl (.seq (.label (.seq (.seq ?_))))))));have hp1:1≤p.length:=by cases p with | nil=>simp [hasPre] at hb12 | cons a b=>simp
 have hpn:=X4w (spl (p.drop 1));rw [X3h,Yp] at hpn;refine .t 1 rfl (.val (.subFrom (.of rfl) (.of rfl) (by omega) (by omega) Qu9) rfl ?_);refine .call Tryz.func143 rfl (ec9 rfl (ec9 rfl X0)) rfl (Xn2 (p.drop 1) (by rw [Yp]; omega) B _ I hK As hS) ?_;rintro _ w ⟨b16,rfl,hS⟩;refine .run 2 rfl ⟨⟨_,X19⟩,trivial⟩ (.nil (.block ?_));replace hS:=hS.vecNil 9 1;refine .loop (σ:=Value×Nat) (fun ⟨kv,i⟩=>[(3,kv),(4,.bool (decide (0<i) && X60 ((spl (p.drop 1)).getD (i - 1) []))),(16,.slice (some (ad b16 0)) (spl (p.drop 1)).length (spl (p.drop 1)).length),(17,I64 ((spl (p.drop 1)).length:Nat)),(18,I64 (i:Nat))]) (fun ⟨kv,i⟩ w=>i≤(spl (p.drop 1)).length∧Sat B w I (Vec 9 1 kv (List.foldl keep [] ((spl (p.drop 1)).take i)).length ((List.foldl keep [] ((spl (p.drop 1)).take i)).map S)::blk b16 ((spl (p.drop 1)).map S) 9::As)) (fun ⟨kv,i⟩=>(spl (p.drop 1)).length - i) (.slice none 0 0,0) ⟨rfl,rfl,rfl,rfl,rfl,trivial⟩ ⟨Yo _,hS⟩ ?_;rintro ⟨kv,i⟩ w ⟨hi,hS⟩;refine .seq (.q 1 rfl (.seq ?_));refine .cond rfl (fun hb19=>?_) fun hb19=>?_
 ·have hc19:=hb19; simp only [Y6] at hc19;refine .skip (.seq (.block (.seq ?_)));obtain ⟨x,hx⟩:∃ x,(spl (p.drop 1))[i]?=some x:=⟨_,Y4 (by omega)⟩
  have hKn:(List.foldl keep [] ((spl (p.drop 1)).take (i+1)))=keep (List.foldl keep [] ((spl (p.drop 1)).take i)) x:=by rw [Y12,hx,Y34]; rfl
  have hgd:(spl (p.drop 1)).getD i []=x:=by rw [Yc,hx]; rfl
  have hop:(decide (0<i+1) && X60 ((spl (p.drop 1)).getD (i+1 - 1) []))=X60 x:=by rw [Nat.add_sub_cancel,hgd,decide_eq_true (by omega),Y2u]
  obtain ⟨ka,kc,rfl,hkc,_⟩:=hS.vecSlice (k:=0) (v:=kv) rfl;have hKl:(List.foldl keep [] ((spl (p.drop 1)).take i)).length≤1000001:=by
   have h1:=X4w (List.foldl keep [] ((spl (p.drop 1)).take i));have h2:=X76 ((spl (p.drop 1)).take i) [];have h3:tot (spl (p.drop 1))=tot ((spl (p.drop 1)).take i)+tot ((spl (p.drop 1)).drop i):=by rw [← X8a,Y11]
   have h4:=X3h (p.drop 1);rw [Yp] at h4;rw [show tot []=0 from rfl] at h2;omega
  refine .region (.val (.io rfl rfl (by omega) (by omega) X19 Qs9) rfl ?_);refine .val (.ld (v:=S x) (.of rfl) hS (k:=1) rfl Qg9 (by rw [Yd,Ym,Y1i,Yy,hx]; rfl)) rfl ?_;refine .q 1 rfl (.nil (.seq (.q 1 rfl (.seq (.seq (.q 1 rfl (.block (.seq (.q 2 rfl ?_)))))))));refine .cond rfl (fun hb23=>?_) fun hb23=>?_
  ·have hc23:=hb23; simp only [Y6] at hc23;refine .exit (.region (.run 2 rfl ⟨⟨by omega,by omega⟩,trivial⟩ (.nil ?_)));refine ⟨(_,i+1),⟨rfl,by show some (Value.bool _)=some _; rw [hop]; rw [show x=[46] by simpa using hb23]; rfl,rfl,rfl,rfl,trivial⟩,⟨by omega,?_⟩,by (try dsimp only); omega⟩;rw [hKn,keep,if_pos (by simpa using hb23)];exact hS
  have hc23:=hb23; simp only [Y6] at hc23;refine .seq (.q 2 rfl ?_);refine .cond rfl (fun hb25=>?_) fun hb25=>?_
  ·have hc25:=hb25; simp only [Y6] at hc25;refine .seq (.region (.run 4 rfl ⟨⟨_,X19⟩,⟨by omega,by omega⟩,trivial⟩ (.val (.max2 (.of rfl) (.of rfl)) rfl (.val (.slcTo (.of rfl) (.of rfl) (by omega) (by omega) X19 Qs9) rfl ?_))));obtain ⟨a2,c2,e2,hS⟩:=hS.vecTakeI (m:=(max 0 (((List.foldl keep [] ((spl (p.drop 1)).take i)).length:Int) - 1)).toNat) (l:=(List.foldl keep [] ((spl (p.drop 1)).take i))) (k:=0) rfl (by omega);rw [e2];rw [show (max 0 (((List.foldl keep [] ((spl (p.drop 1)).take i)).length:Int) - 1)).toNat=(List.foldl keep [] ((spl (p.drop 1)).take i)).length - 1 by omega] at hS ⊢;refine .q 1 rfl (.nil (.exit (.region (.run 2 rfl ⟨⟨by omega,by omega⟩,trivial⟩ (.nil ?_)))));refine ⟨(_,i+1),⟨rfl,by show some (Value.bool _)=some _; rw [hop]; rw [show x=[46,46] by simpa using hb25]; rfl,rfl,rfl,rfl,trivial⟩,⟨by omega,?_⟩,by (try dsimp only); omega⟩;rw [hKn,keep,if_neg (by simpa using hb23),if_pos (by simpa using hb25),List.dropLast_eq_take];exact hS
  have hc25:=hb25; simp only [Y6] at hc25;refine .skip (.seq (.q 1 rfl (.t 2 rfl (.buildSlice (cs:=[_]) hS (pc9 rfl X4) X19 Qs9 Qz9 rfl rfl rfl rfl ?_))));intro b35 w hS;refine .append (size:=1) (bytes:=16) hS (.of rfl) (.of rfl) (k:=0) rfl X19 X1m rfl rfl rfl rfl rfl rfl rfl ⟨by omega,by unfold maxLen; omega⟩ rfl ?_;intro v36 w hS;obtain ⟨a36,c36,rfl,hcap36,_⟩:=hS.vecSlice (k:=0) (v:=v36) rfl;refine .q 1 rfl (.nil (.region (.run 2 rfl ⟨⟨by omega,by omega⟩,trivial⟩ (.nil ?_))));refine ⟨(_,i+1),⟨rfl,by show some (Value.bool _)=some _; rw [hop]; rw [X60,show (x == [46])=false by simpa using hb23,show (x == [46,46])=false by simpa using hb25]; rfl,rfl,rfl,rfl,trivial⟩,⟨by omega,?_⟩,by (try dsimp only); omega⟩;rw [hKn,keep,if_neg (by simpa using hb23),if_neg (by simpa using hb25),Yv,Y0];exact hS
 have hc19:=hb19; simp only [Y6] at hc19;refine .exit (.seq ?_);have hin:i=(spl (p.drop 1)).length:=by omega
 subst hin;rw [Y13] at hS;obtain ⟨ka,kc,rfl,hkc,_⟩:=hS.vecSlice (k:=0) (v:=kv) rfl;have htot:=X76 (spl (p.drop 1)) [];rw [X3h,show tot []=0 from rfl,Yd,Yp] at htot;have hkt:=X4w (List.foldl keep [] (spl (p.drop 1)));refine .q 1 rfl (.seq (.seq (.region (.run 3 rfl ⟨⟨_,X19⟩,trivial⟩ (.nil (.block (.loop (σ:=Nat) (fun j=>[(3,.slice ka (List.foldl keep [] (spl (p.drop 1))).length kc),(4,.bool (decide (0<(spl (p.drop 1)).length) && X60 ((spl (p.drop 1)).getD ((spl (p.drop 1)).length - 1) []))),(38,.slice ka (List.foldl keep [] (spl (p.drop 1))).length kc),(39,I64 ((List.foldl keep [] (spl (p.drop 1))).length:Nat)),(40,I64 (j:Nat)),(7,S (X14 ((List.foldl keep [] (spl (p.drop 1))).take j)))]) (fun j w=>j≤(List.foldl keep [] (spl (p.drop 1))).length∧Sat B w I (Vec 9 1 (.slice ka (List.foldl keep [] (spl (p.drop 1))).length kc) (List.foldl keep [] (spl (p.drop 1))).length ((List.foldl keep [] (spl (p.drop 1))).map S)::blk b16 ((spl (p.drop 1)).map S) 9::As)) (fun j=>(List.foldl keep [] (spl (p.drop 1))).length - j) 0 ⟨rfl,rfl,rfl,rfl,rfl,rfl,trivial⟩ ⟨Yo _,hS⟩ ?_)))))));rintro j w ⟨hj,hS⟩;refine .seq (.q 1 rfl (.seq ?_));refine .cond rfl (fun hb41=>?_) fun hb41=>?_
 ·have hc41:=hb41; simp only [Y6] at hc41;refine .skip (.seq (.block (.seq ?_)));obtain ⟨x,hx⟩:∃ x,(List.foldl keep [] (spl (p.drop 1)))[j]?=some x:=⟨_,Y4 (by omega)⟩
  have hsn:X14 ((List.foldl keep [] (spl (p.drop 1))).take (j+1))=X14 ((List.foldl keep [] (spl (p.drop 1))).take j) ++ 47::x:=by rw [Y12,hx]; exact X95 _ _
  have hsl:(X14 ((List.foldl keep [] (spl (p.drop 1))).take j)).length+(x.length+1)≤tot (List.foldl keep [] (spl (p.drop 1))):=by
   rw [show x.length+1=(47::x).length from rfl,← Y0,← hsn,X32]
   have:tot (List.foldl keep [] (spl (p.drop 1)))=tot ((List.foldl keep [] (spl (p.drop 1))).take (j+1))+tot ((List.foldl keep [] (spl (p.drop 1))).drop (j+1)):=by rw [← X8a,Y11]
   omega
  obtain ⟨g19,rest19,hS19⟩:∃ g rest,ka=some (ad g 0)∧Sat B w I (blk g ((List.foldl keep [] (spl (p.drop 1))).map S ++ rest) 9::blk b16 ((spl (p.drop 1)).map S) 9::As):=by
   obtain ⟨g,c,rest,hv,_,_,_,_,hs⟩:=hS.vecOpen (k:=0) rfl (by omega);injection hv with hv1 hv2 hv3
   exact ⟨g,rest,hv1,hs⟩
  obtain ⟨rfl,hS19⟩:=hS19;refine .region (.val (.indexAddr (b:=g19) (o:=0) (.of rfl) (.of rfl) (by omega) (by omega) X19 Qs9) rfl ?_);refine .val (.ld (v:=S x) (.of rfl) hS19 (k:=0) rfl Qg9 (by rw [Yd,Ym,Y1i,Yk (by rw [Y10]; omega),Yy,hx]; rfl)) rfl ?_;clear hS19;refine .q 1 rfl (.nil (.region ?_));refine .run 5 rfl ⟨by (try simp only [Y0,Y8,Yj]); omega,by (try simp only [Y0,Y8,Yj]); omega,trivial⟩ (.nil (.region (.run 2 rfl ⟨⟨by omega,by omega⟩,trivial⟩ (.nil ?_))));refine ⟨j+1,⟨rfl,rfl,rfl,rfl,rfl,by show some (S _)=some _; rw [hsn]; simp,trivial⟩,⟨by omega,hS⟩,by omega⟩
 have hc41:=hb41; simp only [Y6] at hc41;refine .exit (.seq (.seq ?_));have hjn:(List.foldl keep [] (spl (p.drop 1))).take j=(List.foldl keep [] (spl (p.drop 1))):=Yz (by omega);have hsl2:(X14 ((List.foldl keep [] (spl (p.drop 1))).take j)).length≤tot (List.foldl keep [] (spl (p.drop 1))):=by rw [hjn,X32]; exact Yu _
 refine .t 2 rfl (.gm rfl rfl rfl rfl (.gval rfl rfl (fun hg1=>(.lenSlice (.gd hg1 rfl) X19)) rfl (.gval rfl rfl (fun hg1=>(.eql (.gd hg1 rfl) (.of rfl))) rfl (.val (.po rfl rfl rfl) rfl (.nil ?_)))));refine .cond rfl (fun hb54=>?_) fun hb54=>?_
 ·have hc54:=hb54; simp only [Y6] at hc54;refine .region (.run 3 rfl ⟨by (try simp only [Y0,Y8,Yj]); omega,trivial⟩ (.nil (.seq (.q 2 rfl (.ret (X9 Tryz.results93 rfl ?_))))));have hjn:(List.foldl keep [] (spl (p.drop 1))).take j=(List.foldl keep [] (spl (p.drop 1))):=Yz (by omega);rw [hjn];have hlast:(decide (0<(spl (p.drop 1)).length) && X60 ((spl (p.drop 1)).getD ((spl (p.drop 1)).length - 1) []))=X60 ((spl (p.drop 1)).getLastD []):=by
   have hne:=Xak (p.drop 1);have hp0:0<(spl (p.drop 1)).length:=Y29.2 hne;rw [decide_eq_true hp0,Y2u]
   congr 1
   rw [Y3o,Y3p,Yc]
  have hpc:p=47::p.drop 1:=by
   cases p with
   | nil=>simp [hasPre] at hb12
   | cons a b=>simp [hasPre] at hb12; rw [hb12.2]; rfl
  have hall:X8f p=X14 (List.foldl keep [] (spl (p.drop 1))) ++ (if X60 ((spl (p.drop 1)).getLastD []) || (List.foldl keep [] (spl (p.drop 1))).length == 0 then [47] else []):=by rw [hpc,X8f,if_pos rfl]; rfl
  refine ⟨_,rfl,?_,(hS.drop (k:=0) rfl).drop (k:=0) rfl⟩;rw [hall];rw [if_pos (by rw [← hlast]; simpa using hb54)]
 have hc54:=hb54; simp only [Y6] at hc54;refine .skip (.seq (.q 2 rfl (.ret (X9 Tryz.results93 rfl ?_))));have hjn:(List.foldl keep [] (spl (p.drop 1))).take j=(List.foldl keep [] (spl (p.drop 1))):=Yz (by omega);rw [hjn];have hlast:(decide (0<(spl (p.drop 1)).length) && X60 ((spl (p.drop 1)).getD ((spl (p.drop 1)).length - 1) []))=X60 ((spl (p.drop 1)).getLastD []):=by
  have hne:=Xak (p.drop 1);have hp0:0<(spl (p.drop 1)).length:=Y29.2 hne;rw [decide_eq_true hp0,Y2u]
  congr 1
  rw [Y3o,Y3p,Yc]
 have hpc:p=47::p.drop 1:=by
  cases p with
  | nil=>simp [hasPre] at hb12
  | cons a b=>simp [hasPre] at hb12; rw [hb12.2]; rfl
 have hall:X8f p=X14 (List.foldl keep [] (spl (p.drop 1))) ++ (if X60 ((spl (p.drop 1)).getLastD []) || (List.foldl keep [] (spl (p.drop 1))).length == 0 then [47] else []):=by rw [hpc,X8f,if_pos rfl]; rfl
 refine ⟨_,rfl,?_,(hS.drop (k:=0) rfl).drop (k:=0) rfl⟩;rw [hall];rw [if_neg (by rw [← hlast,Y1g]; simpa using hb54),Y9]
end Go.Proofs.YtfibbpgikjggfaaGreatDoor
namespace Go.Proofs.YtfibbpgikjggfaaGreatDoor
open Gk Ul Pc Tk Tr
def PREV:List (List UInt8):=[[],pre 1,pre 2,pre 3,pre 4,pre 5,pre 6]
def PreAt (I:Im):Prop:=At I (ad 0 0) (PREV.map S)
theorem PreAt.mono {I J:Im} (h:PreAt I) (hl:Le I J):PreAt J:=At.mono h hl
theorem Xu7 {k:Nat} (h:k<7):(((PREV.map S).drop (k*1)))[0]?=some (S (pre k)):=by
 match k,h with
 | 0,_=>rfl
 | 1,_=>rfl
 | 2,_=>rfl
 | 3,_=>rfl
 | 4,_=>rfl
 | 5,_=>rfl
 | 6,_=>rfl
def X39 (k:Int):List UInt8:=if k<1∨6<k then [] else pre k.toNat
theorem Ex.slcArr {P:Program} {n:Nat} {L:Env} {w:World} {d:Option Nat} {ty:TypeId} {pos:String} {af:Array Edge} {gg:Option (Nat×Bool)} {t e:TypeId} {x:Operand} {p:Addr} {m s:Nat} (hx:Ev n L x (.pointer (some p))) (ht:P.underlying t=some (.array m e)) (hs:∀ w,(Go.sizeOf e).run P w=.ok s w) :
  Ex P n L w ⟨d,.slice t x none none none,ty,pos,af,gg⟩ (.slice (some (if m=0 then p else p.add (0*s))) (m - 0) (m - 0)) w:=fun a ha=>by
 obtain ⟨e1,e2⟩:=Xie ht;have h:=run_sliceAt_array_all (P:=P) w t p (by rw [e1,e2]; exact ht);rw [e1,e2,hs] at h;simp [execOp,hx a ha,h,slicedAt]
def Xgr (p:List UInt8):List (List UInt8)→Nat→Int
 | [],_=>-1
 | x::r,i=>if p=x then (i:Int) else Xgr p r (i+1)
theorem Xaq (p:List UInt8):∀ (n:Nat) (r:List (List UInt8)) (i:Nat),(∀ (j:Nat) x,j<n→r[j]?=some x→p≠x)→Xgr p r i=Xgr p (r.drop n) (i+min n r.length)
 | 0,r,i,_=>by simp
 | n+1,[],i,_=>by simp [Xgr]
 | n+1,x::r,i,h=>by
  rw [Xgr,if_neg (h 0 x (by omega) rfl),Xaq p n r (i+1) (fun j y hj hy=>h (j+1) y (by omega) (by simpa using hy)),Y7,Y8]
  congr 1
  omega
theorem Xo4 {p:List UInt8} {l:List (List UInt8)} {i:Nat} (h:∀ (j:Nat) x,j<i→l[j]?=some x→p≠x) (hs:l[i]?=some p):Xgr p l 0=(i:Int):=by
 have hi:=(Y5.1 hs).1;rw [Xaq p i l 0 h,Yd,Y3h (by omega),Y1f hi,(Y5.1 hs).2,Xgr,if_pos rfl]
theorem Xle {p:List UInt8} {l:List (List UInt8)} (h:∀ (j:Nat) x,l[j]?=some x→p≠x):Xgr p l 0=-1:=by
 rw [Xaq p l.length l 0 (fun j x _ hx=>h j x hx),Y3a];rfl
theorem Xhn (p:List UInt8):(1≤Xgr p PREV 0→X3c p≠0∧Xgr p PREV 0=(X3c p:Int))∧(¬ 1≤Xgr p PREV 0→X3c p=0):=by
 unfold PREV X3c;simp only [Xgr]
 by_cases h0:p=[]
 ·subst h0;exact ⟨fun h=>by simp at h,fun _=>by decide⟩
 rw [if_neg h0]
 by_cases h1:p=pre 1
 ·rw [if_pos h1,if_pos h1]; exact ⟨fun _=>⟨by decide,by decide⟩,fun h=>absurd (by decide) h⟩
 rw [if_neg h1,if_neg h1]
 by_cases h2:p=pre 2
 ·rw [if_pos h2,if_pos h2]; exact ⟨fun _=>⟨by decide,by decide⟩,fun h=>absurd (by decide) h⟩
 rw [if_neg h2,if_neg h2]
 by_cases h3:p=pre 3
 ·rw [if_pos h3,if_pos h3]; exact ⟨fun _=>⟨by decide,by decide⟩,fun h=>absurd (by decide) h⟩
 rw [if_neg h3,if_neg h3]
 by_cases h4:p=pre 4
 ·rw [if_pos h4,if_pos h4]; exact ⟨fun _=>⟨by decide,by decide⟩,fun h=>absurd (by decide) h⟩
 rw [if_neg h4,if_neg h4]
 by_cases h5:p=pre 5
 ·rw [if_pos h5,if_pos h5]; exact ⟨fun _=>⟨by decide,by decide⟩,fun h=>absurd (by decide) h⟩
 rw [if_neg h5,if_neg h5]
 by_cases h6:p=pre 6
 ·rw [if_pos h6,if_pos h6]; exact ⟨fun _=>⟨by decide,by decide⟩,fun h=>absurd (by decide) h⟩
 rw [if_neg h6,if_neg h6];exact ⟨fun h=>absurd h (by decide),fun _=>rfl⟩
theorem X87 (a:Option Addr) (c:Nat) (l:List (List UInt8)) (hll:l.length≤100000) (p:List UInt8) (B w:World) (I:Im) (hA:RS I a 1 l.length (l.map S)) (As:List X7) (hS:Sat B w I As) :
  Cz 134 [.slice a l.length c,S p] w fun v w'=>v=I64 (Xgr p l 0)∧Sat B w' I As:=by
 refine calls Xqg rfl Tryz.ntmps134 rfl (.seq (.q 1 rfl (.seq (.seq (.region (.run 3 rfl ⟨⟨_,X19⟩,trivial⟩ (.nil (.block (.loop (σ:=Nat) (fun i=>[(0,.slice a l.length c),(1,S p),(7,I64 (l.length:Nat)),(8,I64 (i:Nat))]) (fun i w=>i≤l.length∧(∀ (j:Nat) x,j<i→l[j]?=some x→p≠x)∧Sat B w I As) (fun i=>l.length - i) 0 ⟨rfl,rfl,rfl,rfl,trivial⟩ ⟨Yo _,fun _ _ h=>absurd h (by omega),hS⟩ ?_)))))))));rintro i w ⟨hi,hno,hS⟩;refine .seq (.q 1 rfl (.seq ?_));refine .cond rfl (fun hb9=>?_) fun hb9=>?_
 ·have hc9:=hb9; simp only [Y6] at hc9;refine .skip (.seq (.block (.seq ?_)));obtain ⟨x,hx⟩:∃ x,l[i]?=some x:=⟨_,Y4 (by omega)⟩
  obtain ⟨q,rfl,hq⟩:=hA.2 (by omega);have hqx:((l.map S).drop ((i:Int).toNat*1))[0]?=some (S x):=by rw [Y1e,Ym,Y1i,Y2c,Yy,hx]; rfl
  refine .q 2 rfl (.seq (.t 3 rfl (.val (.ii rfl rfl (by omega) (by omega) X19 Qs9) rfl (.val (.ldI (v:=S x) (.of rfl) hS (hq.add _) Qg9 hqx) rfl (.q 1 rfl (.nil ?_))))));refine .cond rfl (fun hb16=>?_) fun hb16=>?_
  ·refine .seq (.q 2 rfl (.ret (X9 Tryz.results134 rfl ?_)));have e:p=x:=by simpa using hb16
   subst e;exact ⟨_,rfl,by rw [Xo4 hno hx],hS⟩
  have hc16:=hb16; simp only [Y6] at hc16;refine .skip (.region (.run 2 rfl ⟨⟨by omega,by omega⟩,trivial⟩ (.nil ?_)));refine ⟨i+1,⟨rfl,rfl,rfl,rfl,trivial⟩,⟨by omega,fun j y hj hy=>?_,hS⟩,by omega⟩;rcases Yr j i with h1 | h1
  ·exact hno j y h1 hy
  ·have e:j=i:=by omega
   subst e;rw [hx] at hy; cases hy;simpa using hb16
 have hc9:=hb9; simp only [Y6] at hc9;refine .exit (.seq (.q 1 rfl (.ret (X9 Tryz.results134 rfl ?_))));exact ⟨_,rfl,by rw [Xle (fun j x hx=>hno j x (by have:=(Y5.1 hx).1; omega) hx)],hS⟩
theorem Xbk (k:Int) (B w:World) (I:Im) (hP:PreAt I) (As:List X7) (hS:Sat B w I As) :
  Cz 158 [I64 k] w fun v w'=>v=S (X39 k)∧Sat B w' I As:=by
 refine calls Tryz.func158 rfl Tryz.ntmps158 rfl (.seq (.q 1 rfl (.seq (.seq (.t 3 rfl (.gm rfl rfl rfl rfl (.gval rfl rfl (fun hg1=>(.gtr (.gd hg1 rfl) (.of rfl))) rfl (.val (.po rfl rfl rfl) rfl (.nil ?_)))))))));refine .cond rfl (fun hb8=>?_) fun hb8=>?_
 ·have hc8:=hb8; simp only [Y6] at hc8;refine .seq (.q 1 rfl (.ret (X9 Tryz.results158 rfl ?_)));exact ⟨_,rfl,by rw [X39,if_pos (by omega)],hS⟩
 have hc8:=hb8; simp only [Y6] at hc8;refine .skip (.seq ?_);have hk7:k.toNat<7:=by omega
 refine .t 1 rfl (.val (.arrAddrI (i:=k) (.of rfl) (.of rfl) (by omega) (by omega) Xoj Qs9) rfl (.val (.ldI (v:=S (pre k.toNat)) (.of rfl) hS (At.add hP _) Qg9 (Xu7 hk7)) rfl (.q 1 rfl (.nil (.ret (X9 Tryz.results158 rfl ?_))))));exact ⟨_,rfl,by rw [X39,if_neg (by omega)],hS⟩
abbrev HEXD:List UInt8:=[48,49,50,51,52,53,54,55,56,57,97,98,99,100,101,102]
theorem hx_idx (c:UInt8):(match hx c with | some d=>Go.Lib.indexByte HEXD c=(d:Int) | none=>Go.Lib.indexByte HEXD c=-1):=by
 have:=Xw (p:=fun c=>match hx c with | some d=>Go.Lib.indexByte HEXD c == (d:Int) | none=>Go.Lib.indexByte HEXD c == -1) (by decide +kernel) c
 cases h:hx c with
 | some d=>rw [h] at this; simpa using this
 | none=>rw [h] at this; simpa using this
theorem Xp7 {s:List UInt8} {i:Nat} {n d:Nat} (hi:i<s.length) (hn:hxS 0 (s.take i)=some n) (hd:hx (at_ s (i:Int))=some d):hxS 0 (s.take (i+1))=some (16*n+d):=by
 have:s[i]?=some (at_ s (i:Int)):=Xx hi
 rw [Y12,this,Y1k,Xh2,hn,Y2s];simp only [hxS,hd]
theorem Xmu:∀ (s:List UInt8) (i n:Nat),i<s.length→hx (at_ s (i:Int))=none→hxS n s=none
 | [],i,_,h,_=>by simp at h
 | c::r,0,n,_,h=>by
  rw [hxS,show hx c=none from h]
 | c::r,i+1,n,hi,h=>by
  rw [hxS];cases hx c with
  | none=>rfl
  | some d=>exact Xmu r i _ (by simpa using hi) (by
    have e:at_ (c::r) ((i+1:Nat):Int)=at_ r (i:Int):=by simp [at_]
    rw [e] at h; exact h)
theorem or_low {n d:Nat} (hd:d<16):(16*n) ||| d=16*n+d:=by
 have:=Y4e (i:=4) (b:=d) hd n
 simpa using this.symm
theorem Xqz (s:List UInt8) (hs:s.length≤1000000) (B w:World) (I:Im) (As:List X7) (hS:Sat B w I As) :
  Cz 231 [S s] w fun v w'=>v=(match X4u s with | some d=>.tuple #[U64 (d:Nat),.bool true] | none=>.tuple #[U64 0,.bool false])∧Sat B w' I As:=by
 refine calls Tryz.func231 rfl Tryz.ntmps231 rfl (.seq (.q 2 rfl (.seq (.seq (.region (.run 3 rfl ⟨Qu9,trivial⟩ (.nil ?_)))))));refine .cond rfl (fun hb9=>?_) fun hb9=>?_
 ·have hc9:=hb9; simp only [Y6] at hc9;refine .seq (.q 2 rfl (.ret (X1e Xrx rfl rfl ?_)));exact ⟨_,rfl,by rw [X4u,if_neg (by omega)],hS⟩
 have hc9:=hb9; simp only [Y6] at hc9;refine .skip (.seq (.q 1 rfl (.seq (.seq (.region (.run 3 rfl ⟨Qu9,trivial⟩ (.nil (.block (.loop (σ:=Nat×Nat) (fun ⟨i,n⟩=>[(0,S s),(4,U64 (n:Nat)),(11,I64 (s.length:Nat)),(12,I64 (i:Nat))]) (fun ⟨i,n⟩ w=>i≤s.length∧hxS 0 (s.take i)=some n∧n<16 ^ i∧Sat B w I As) (fun ⟨i,n⟩=>s.length - i) (0,0) ⟨rfl,rfl,rfl,rfl,trivial⟩ ⟨Yo _,rfl,by decide,hS⟩ ?_)))))))));rintro ⟨i,n⟩ w ⟨hi,hn,hn16,hS⟩;refine .seq (.q 1 rfl (.seq ?_));refine .cond rfl (fun hb13=>?_) fun hb13=>?_
 ·have hc13:=hb13; simp only [Y6] at hc13;refine .skip (.seq (.block (.seq (.q 2 rfl (.seq (.region (.run 3 rfl ⟨⟨⟨by omega,by omega⟩,Qu9⟩,trivial⟩ (.call Qf179 rfl (ec9 rfl (ec9 rfl X0)) rfl (X4c HEXD (at_ s (i:Int)) _) ?_))))))));rintro _ _ ⟨rfl,rfl⟩;refine .q 1 rfl (.nil (.seq (.seq ?_)));have hxi:=hx_idx (at_ s (i:Int));refine .q 2 rfl (.cond rfl (fun hb20=>?_) fun hb20=>?_)
  ·have hc20:=hb20; simp only [Y6] at hc20;refine .seq (.q 2 rfl (.ret (X1e Xrx rfl rfl ?_)));refine ⟨_,rfl,?_,hS⟩;have hdn:hx (at_ s (i:Int))=none:=by
    cases hd:hx (at_ s (i:Int)) with
    | none=>rfl
    | some d=>exfalso; rw [hd] at hxi; simp only at hxi; rw [hxi] at hb20; simp at hb20; omega
   rw [X4u,if_pos (by omega),Xmu s i 0 (by omega) hdn]
  have hc20:=hb20; simp only [Y6] at hc20;refine .skip ?_;obtain ⟨d,hd⟩:∃ d,hx (at_ s (i:Int))=some d:=by
   cases hd:hx (at_ s (i:Int)) with
   | none=>exfalso; rw [hd] at hxi; simp only at hxi; rw [hxi] at hb20; simp at hb20
   | some d=>exact ⟨d,rfl⟩
  rw [hd] at hxi;simp only at hxi
  have hd16:=hx_lt hd;rw [hxi];have hn15:n<16 ^ 15:=Y2v hn16 (Y3l (by decide) (by omega));have hn60:n<1152921504606846976:=by simpa using hn15
  refine .t 1 rfl (.val (.shl (.of rfl) (.of rfl) (by decide) (by decide)) rfl ?_);rw [show IntKind.u64.wrap ((n:Int)*2 ^ (4:Int).toNat)=((16*n:Nat):Int) by rw [IntKind.wrap_u64]; simp; omega];refine .q 1 rfl (.val (.cvi (.of rfl) Qu3 Xay (by rw [IntKind.wrap_u64]; omega)) rfl (.val (.or64 (a:=16*n) (b:=d) (by omega) (by omega) (.of rfl) (.of rfl)) rfl ?_));rw [or_low hd16];refine .q 1 rfl (.nil (.region (.run 2 rfl ⟨⟨by omega,by omega⟩,trivial⟩ (.nil ?_))));refine ⟨(i+1,16*n+d),⟨rfl,rfl,rfl,rfl,trivial⟩,⟨by (try dsimp only); omega,Xp7 (by omega) hn hd,?_,hS⟩,by (try dsimp only); omega⟩;rw [Y2g]; omega
 have hc13:=hb13; simp only [Y6] at hc13;refine .exit (.seq (.q 3 rfl (.ret (X1e Xrx rfl rfl ?_))));refine ⟨_,rfl,?_,hS⟩;rw [Yz (by omega)] at hn;rw [X4u,if_pos (by omega),hn]
theorem Xf4 (s:List UInt8) (hs:s.length≤1000000) (B w:World) (I:Im) (hK:Known I) (hP:PreAt I) (As:List X7) (hS:Sat B w I As) :
  Cz 199 [S s] w fun v w'=>v=(match Xz s with | some (k,d)=>.tuple #[I64 (k:Nat),U64 (d:Nat),.bool true] | none=>.tuple #[I64 0,U64 0,.bool false])∧Sat B w' I As:=by
 refine calls Tryz.func199 rfl Tryz.ntmps199 rfl (.seq (.q 3 rfl (.seq (.t 1 rfl (.call Qf86 rfl (ec9 rfl (ec9 rfl X0)) rfl (Xc8 s 45 hs B _ I hK _ hS) ?_)))));rintro _ w ⟨rfl,hS⟩;refine .q 7 rfl (.nil (.seq (.t 1 rfl ?_)));refine .call Tryz.func231 rfl (ec9 rfl X0) rfl (Xqz _ (by have:=X6k [45] s; rw [Yp]; omega) B _ I _ hS) ?_;rintro _ w ⟨rfl,hS⟩;rcases hdr:X4u ((Xc [45] s).drop 1) with _ | d
 ·refine .vm rfl rfl (.q 4 rfl (.nil (.seq (.region (.val (Ex.slcArr (m:=7) (s:=1) (.of rfl) Xoj Qs9) rfl (.q 1 rfl (.call Xqg rfl (ec9 rfl (ec9 rfl X0)) rfl (X87 (some (ad 0 0)) 7 PREV (by decide) (upto [45] s) B _ I ⟨rfl,fun _=>⟨_,rfl,hP⟩⟩ As hS) ?_)))))));rintro _ w ⟨rfl,hS⟩;refine .q 1 rfl (.nil (.seq (.seq (.t 3 rfl (.gm rfl rfl rfl rfl (.gval rfl rfl (fun hg1=>(.lss (.gd hg1 rfl) (.of rfl))) rfl (.val (.po rfl rfl rfl) rfl (.nil ?_))))))));refine .cond rfl (fun hb30=>?_) fun hb30=>?_
  ·refine .seq (.q 3 rfl (.ret (X7j Xp1 rfl rfl rfl ?_)));refine ⟨_,rfl,?_,hS⟩
   have:Xz s=none:=by
    unfold Xz;split
    ·rfl
    ·rw [hdr]; rfl
   rw [this]
  refine .skip (.seq (.q 5 rfl (.ret (X7j Xp1 rfl rfl rfl ?_))));exfalso; simp at hb30
 refine .vm rfl rfl (.q 4 rfl (.nil (.seq (.region (.val (Ex.slcArr (m:=7) (s:=1) (.of rfl) Xoj Qs9) rfl (.q 1 rfl (.call Xqg rfl (ec9 rfl (ec9 rfl X0)) rfl (X87 (some (ad 0 0)) 7 PREV (by decide) (upto [45] s) B _ I ⟨rfl,fun _=>⟨_,rfl,hP⟩⟩ As hS) ?_)))))));rintro _ w ⟨rfl,hS⟩;refine .q 1 rfl (.nil (.seq (.seq (.t 3 rfl (.gm rfl rfl rfl rfl (.gval rfl rfl (fun hg1=>(.lss (.gd hg1 rfl) (.of rfl))) rfl (.val (.po rfl rfl rfl) rfl (.nil ?_))))))));refine .cond rfl (fun hb30=>?_) fun hb30=>?_
 ·refine .seq (.q 3 rfl (.ret (X7j Xp1 rfl rfl rfl ?_)));refine ⟨_,rfl,?_,hS⟩;have h0:=(Xhn (upto [45] s)).2 (by simp at hb30; omega);rw [Xz,if_pos h0]
 refine .skip (.seq (.q 5 rfl (.ret (X7j Xp1 rfl rfl rfl ?_))));refine ⟨_,rfl,?_,hS⟩;obtain ⟨h0,h1⟩:=(Xhn (upto [45] s)).1 (by simp at hb30; omega);rw [Xz,if_neg h0,hdr,h1];rfl
theorem Is_any (s:List UInt8) (kind:Int) (hs:s.length≤1000000) (B w:World) (I:Im) (hK:Known I) (hP:PreAt I) (As:List X7) (hS:Sat B w I As) :
  Cz 154 [S s,I64 kind] w fun v w'=>v=.bool (isT s kind)∧Sat B w' I As:=by
 refine calls Tryz.func154 rfl Tryz.ntmps154 rfl (.seq (.q 1 rfl (.seq (.t 1 rfl (.call Tryz.func199 rfl (ec9 rfl X0) rfl (Xf4 s hs B _ I hK hP _ hS) ?_)))));rintro _ w ⟨rfl,hS⟩;rcases hps:Xz s with _ | ⟨k,d⟩
 ·refine .vm rfl rfl (.q 6 rfl (.nil (.seq (.t 2 rfl (.gm rfl rfl rfl rfl (.gm rfl rfl rfl rfl (.gval rfl rfl (fun hg1=>(.eql (.gd hg1 rfl) (.gd hg1 rfl))) rfl (.val (.pa rfl rfl rfl) rfl (.q 1 rfl (.nil (.ret (X9 Tryz.results154 rfl ?_))))))))))));exact ⟨_,rfl,by rw [isT,hps]; rfl,hS⟩
 refine .vm rfl rfl (.q 6 rfl (.nil (.seq (.t 2 rfl (.gm rfl rfl rfl rfl (.gm rfl rfl rfl rfl (.gval rfl rfl (fun hg1=>(.eql (.gd hg1 rfl) (.gd hg1 rfl))) rfl (.val (.pa rfl rfl rfl) rfl (.q 1 rfl (.nil (.ret (X9 Tryz.results154 rfl ?_))))))))))));exact ⟨_,rfl,by rw [isT,hps]; rfl,hS⟩
theorem X9k (kind of:Int) (w:World) :
  Cz 200 [I64 kind,I64 of] w fun v w'=>v=.bool (X6r kind of)∧w=w':=by
 refine calls Xpe rfl Tryz.ntmps200 rfl (.seq (.q 1 rfl (.seq (.seq (.q 1 rfl (.block (.seq (.block (.seq (.block (.block (.seq (.block (.seq (.block (.block (.seq (.seq (.seq (.q 2 rfl ?_))))))))))))))))))));refine .cond rfl (fun hb6=>?_) fun hb6=>?_
 ·refine .exit (.seq (.seq (.q 3 rfl (.ret (X9 Xh8 rfl ?_)))));refine ⟨_,rfl,congrArg Value.bool ?_,rfl⟩;simp only [beq_iff_eq,beq_eq_false_iff_ne] at *
  (subst_vars; simp [X6r]; done)
 refine .skip (.seq (.seq (.q 2 rfl ?_)));refine .cond rfl (fun hb8=>?_) fun hb8=>?_
 ·refine .exit (.seq (.seq (.q 3 rfl (.ret (X9 Xh8 rfl ?_)))));refine ⟨_,rfl,congrArg Value.bool ?_,rfl⟩;simp only [beq_iff_eq,beq_eq_false_iff_ne] at *
  (subst_vars; simp [X6r]; done)
 refine .skip (.seq (.seq (.q 2 rfl ?_)));refine .cond rfl (fun hb10=>?_) fun hb10=>?_
 ·refine .exit (.seq (.seq (.q 3 rfl (.ret (X9 Xh8 rfl ?_)))));refine ⟨_,rfl,congrArg Value.bool ?_,rfl⟩;simp only [beq_iff_eq,beq_eq_false_iff_ne] at *
  (subst_vars; simp [X6r]; done)
 refine .skip (.seq (.seq (.q 2 rfl ?_)));refine .cond rfl (fun hb12=>?_) fun hb12=>?_
 ·refine .exit (.seq (.seq (.q 3 rfl (.ret (X9 Xh8 rfl ?_)))));refine ⟨_,rfl,congrArg Value.bool ?_,rfl⟩;simp only [beq_iff_eq,beq_eq_false_iff_ne] at *
  (subst_vars; simp [X6r]; done)
 refine .skip (.seq (.seq (.q 2 rfl ?_)));refine .cond rfl (fun hb14=>?_) fun hb14=>?_
 ·refine .exit (.seq (.seq (.q 3 rfl (.ret (X9 Xh8 rfl ?_)))));refine ⟨_,rfl,congrArg Value.bool ?_,rfl⟩;simp only [beq_iff_eq,beq_eq_false_iff_ne] at *
  (subst_vars; simp [X6r]; done)
 refine .skip (.seq (.q 2 rfl ?_));refine .cond rfl (fun hb16=>?_) fun hb16=>?_
 ·refine .exit (.seq (.seq (.t 3 rfl (.gm rfl rfl rfl rfl (.gval rfl rfl (fun hg1=>(.eql (.gd hg1 rfl) (.of rfl))) rfl (.val (.po rfl rfl rfl) rfl (.q 1 rfl (.nil (.ret (X9 Xh8 rfl ?_))))))))));refine ⟨_,rfl,congrArg Value.bool ?_,rfl⟩;simp only [beq_iff_eq,beq_eq_false_iff_ne] at *
  (subst_vars; simp [X6r]; done)
 refine .skip (.exit (.seq (.q 1 rfl (.ret (X9 Xh8 rfl ?_)))));refine ⟨_,rfl,congrArg Value.bool ?_,rfl⟩;simp only [beq_iff_eq,beq_eq_false_iff_ne] at *
 (simp [X6r, *]; done)
theorem Xix (kind:Int) (s:List UInt8) (hs:s.length≤1000000) (B w:World) (I:Im) (hK:Known I) (hP:PreAt I) (As:List X7) (hS:Sat B w I As) :
  Cz 155 [I64 kind,S s] w fun v w'=>v=.bool (X2u kind s)∧Sat B w' I As:=by
 refine calls Tryz.func155 rfl Tryz.ntmps155 rfl (.seq (.q 1 rfl (.seq (.seq (.q 2 rfl ?_)))));refine .cond rfl (fun hb9=>?_) fun hb9=>?_
 ·refine .seq (.t 1 rfl (.call Xpe rfl (ec9 rfl (ec9 rfl X0)) rfl (X9k kind 0 _) ?_));rintro _ _ ⟨rfl,rfl⟩;refine .q 1 rfl (.nil (.ret (X9 Xtn rfl ?_)));exact ⟨_,rfl,by rw [X2u,if_pos (by simpa using hb9)],hS⟩
 refine .skip (.seq (.t 1 rfl (.call Tryz.func199 rfl (ec9 rfl X0) rfl (Xf4 s hs B _ I hK hP _ hS) ?_)));rintro _ w ⟨rfl,hS⟩;rcases hps:Xz s with _ | ⟨k,d⟩
 ·refine .vm rfl rfl (.q 6 rfl (.nil (.seq (.t 2 rfl (.gm rfl rfl rfl rfl (.gm rfl rfl rfl rfl (.gcall (T:=fun w=>Sat B w I As) rfl rfl rfl Xpe rfl (fun hg1=>(X6 (.gd hg1 rfl) (X6 (.gd hg1 rfl) X0))) rfl (fun hg1=>X1q (X9k _ _ w) hS) hS ?_)))))));rintro w hS;refine .val (.pa rfl rfl rfl) rfl (.q 1 rfl (.nil (.ret (X9 Xtn rfl ?_))));exact ⟨_,rfl,by rw [X2u,if_neg (by simpa using hb9),hps]; rfl,hS⟩
 refine .vm rfl rfl (.q 6 rfl (.nil (.seq (.t 2 rfl (.gm rfl rfl rfl rfl (.gm rfl rfl rfl rfl (.gcall (T:=fun w=>Sat B w I As) rfl rfl rfl Xpe rfl (fun hg1=>(X6 (.gd hg1 rfl) (X6 (.gd hg1 rfl) X0))) rfl (fun hg1=>X1q (X9k _ _ w) hS) hS ?_)))))));rintro w hS;refine .val (.pa rfl rfl rfl) rfl (.q 1 rfl (.nil (.ret (X9 Xtn rfl ?_))));exact ⟨_,rfl,by rw [X2u,if_neg (by simpa using hb9),hps]; rfl,hS⟩
def X5 (r:Rec):List Value:=[I64 r.kind,S r.name,S r.parent,S r.user,S r.service,S r.url,I64 r.made,I64 r.used,I64 r.uses,.bool r.fresh]
theorem Xf6 (r:Rec) (hn:r.name.length≤1000000) (hp:r.parent.length≤1000000) (B w:World) (I:Im) (hK:Known I) (hP:PreAt I) (As:List X7) (hS:Sat B w I As) :
  Cz 107 [.agg (X5 r).toArray] w fun v w'=>v=.bool (Xm r)∧Sat B w' I As:=by
 refine calls Tryz.func107 rfl Tryz.ntmps107 rfl (.seq (.region (.boxA (cs:=[_,_,_,_,_,_,_,_,_,_]) hS (.of rfl) rfl ?_)));intro b1 w hS;refine .q 1 rfl (.nil (.seq (.region ?_)));refine .val (.fo 3 rfl Xr rfl rfl Qs9 rfl) rfl (.val (.lo rfl hS (k:=0) rfl Qg9 rfl) rfl (.run 3 rfl ⟨Qu9,trivial⟩ ?_));refine .gval rfl rfl (fun hg1=>(by exact .fo 4 rfl Xr rfl rfl Qs9 rfl)) rfl ?_;refine .gval rfl rfl (fun hg1=>(.ld (.gd hg1 rfl) hS (k:=0) rfl Qg9 rfl)) rfl (.gval rfl rfl (fun hg1=>(.len (.gd hg1 rfl) Qu9)) rfl (.gval rfl rfl (fun hg1=>(.leq (.gd hg1 rfl) (.of rfl))) rfl (.val (.pa rfl rfl rfl) rfl (.q 1 rfl ?_))));refine .gval rfl rfl (fun hg1=>(by exact .fo 5 rfl Xr rfl rfl Qs9 rfl)) rfl ?_;refine .gval rfl rfl (fun hg1=>(.ld (.gd hg1 rfl) hS (k:=0) rfl Qg9 rfl)) rfl (.gval rfl rfl (fun hg1=>(.len (.gd hg1 rfl) Qu9)) rfl (.gval rfl rfl (fun hg1=>(.leq (.gd hg1 rfl) (.of rfl))) rfl (.val (.pa rfl rfl rfl) rfl (.q 1 rfl (.nil (.seq (.region ?_)))))));refine .val (.fo 6 rfl Xr rfl rfl Qs3 rfl) rfl (.val (.lo rfl hS (k:=0) rfl Qg3 rfl) rfl (.q 2 rfl ?_));refine .gval rfl rfl (fun hg1=>(by exact .fo 7 rfl Xr rfl rfl Qs3 rfl)) rfl ?_;refine .gval rfl rfl (fun hg1=>(.ld (.gd hg1 rfl) hS (k:=0) rfl Qg3 rfl)) rfl (.gval rfl rfl (fun hg1=>(by exact .fo 6 rfl Xr rfl rfl Qs3 rfl)) rfl ?_);refine .gval rfl rfl (fun hg1=>(.ld (.gd hg1 rfl) hS (k:=0) rfl Qg3 rfl)) rfl (.gval rfl rfl (fun hg1=>(.geq (.gd hg1 rfl) (.gd hg1 rfl))) rfl (.val (.pa rfl rfl rfl) rfl (.q 1 rfl ?_)));refine .gval rfl rfl (fun hg1=>(by exact .fo 7 rfl Xr rfl rfl Qs3 rfl)) rfl ?_;refine .gval rfl rfl (fun hg1=>(.ld (.gd hg1 rfl) hS (k:=0) rfl Qg3 rfl)) rfl (.gval rfl rfl (fun hg1=>(.leq (.gd hg1 rfl) (.of rfl))) rfl (.val (.pa rfl rfl rfl) rfl (.q 1 rfl ?_)));refine .gval rfl rfl (fun hg1=>(by exact .fo 8 rfl Xr rfl rfl Qs3 rfl)) rfl ?_;refine .gval rfl rfl (fun hg1=>(.ld (.gd hg1 rfl) hS (k:=0) rfl Qg3 rfl)) rfl (.gval rfl rfl (fun hg1=>(.geq (.gd hg1 rfl) (.of rfl))) rfl (.val (.pa rfl rfl rfl) rfl (.q 1 rfl ?_)));refine .gval rfl rfl (fun hg1=>(by exact .fo 8 rfl Xr rfl rfl Qs3 rfl)) rfl ?_;refine .gval rfl rfl (fun hg1=>(.ld (.gd hg1 rfl) hS (k:=0) rfl Qg3 rfl)) rfl (.gval rfl rfl (fun hg1=>(.leq (.gd hg1 rfl) (.of rfl))) rfl (.val (.pa rfl rfl rfl) rfl (.q 1 rfl (.nil (.seq (.t 2 rfl (.gm rfl rfl rfl rfl (.val (.pa rfl rfl rfl) rfl (.q 1 rfl ?_)))))))));refine .gval rfl rfl (fun hg1=>(by exact .fo 1 rfl Xr rfl rfl Qs9 rfl)) rfl ?_;refine .gval rfl rfl (fun hg1=>(.ld (.gd hg1 rfl) hS (k:=0) rfl Qg9 rfl)) rfl (.gval rfl rfl (fun hg1=>(by exact .fo 0 rfl Xr rfl rfl Qs3 rfl)) rfl ?_);refine .gval rfl rfl (fun hg1=>(.ld (.gd hg1 rfl) hS (k:=0) rfl Qg3 rfl)) rfl (.gcall (T:=fun w=>Sat B w I (blk b1 [I64 r.kind,S r.name,S r.parent,S r.user,S r.service,S r.url,I64 r.made,I64 r.used,I64 r.uses,.bool r.fresh] 54::As)) rfl rfl rfl Tryz.func154 rfl (fun hg1=>(X6 (.gd hg1 rfl) (X6 (.gd hg1 rfl) X0))) rfl (fun hg1=>Is_any r.name r.kind hn B _ I hK hP _ hS) hS ?_);rintro w hS;refine .val (.pa rfl rfl rfl) rfl (.q 1 rfl ?_);refine .gval rfl rfl (fun hg1=>(by exact .fo 0 rfl Xr rfl rfl Qs3 rfl)) rfl ?_;refine .gval rfl rfl (fun hg1=>(.ld (.gd hg1 rfl) hS (k:=0) rfl Qg3 rfl)) rfl (.gval rfl rfl (fun hg1=>(by exact .fo 2 rfl Xr rfl rfl Qs9 rfl)) rfl ?_);refine .gval rfl rfl (fun hg1=>(.ld (.gd hg1 rfl) hS (k:=0) rfl Qg9 rfl)) rfl (.gcall (T:=fun w=>Sat B w I (blk b1 [I64 r.kind,S r.name,S r.parent,S r.user,S r.service,S r.url,I64 r.made,I64 r.used,I64 r.uses,.bool r.fresh] 54::As)) rfl rfl rfl Tryz.func155 rfl (fun hg1=>(X6 (.gd hg1 rfl) (X6 (.gd hg1 rfl) X0))) rfl (fun hg1=>Xix r.kind r.parent hp B _ I hK hP _ hS) hS ?_);rintro w hS;refine .val (.pa rfl rfl rfl) rfl (.q 1 rfl (.nil (.ret (X9 Tryz.results107 rfl ?_))));exact ⟨_,rfl,rfl,hS.drop (k:=0) rfl⟩
end Go.Proofs.YtfibbpgikjggfaaGreatDoor
namespace Gk
open Go Go.RowKit Go.WideShapes Go.ChangeShapes
def im0 (W:World):Im:=fun b=>W.heap[b]?
theorem sat0 (W:World):Sat W W (im0 W) []:=⟨[],rfl,rfl,rfl,rfl,fun _ _ h=>h,fun _ _ h=>by simp at h,List.nodup_nil,fun _ _ h=>by simp at h⟩
theorem Sat.below {W w:World} {I:Im} {As:List X7} (hS:Sat W w I As) (hl:Le (im0 W) I):Below W.heap.size W w:=by
 obtain ⟨h,_,g⟩:=hS;have hb:∀ k,k<W.heap.size→w.heap[k]?=W.heap[k]?:=fun k hk=>by
  rw [Y1a hk];exact g.imm k _ (hl k _ (Y1a hk))
 refine ⟨g.os,g.tape,g.output,?_,hb⟩;rcases Y1r W.heap.size with h0 | h0
 ·omega
 ·have h1:=hb (W.heap.size - 1) (by omega);rw [Y1a (show W.heap.size - 1<W.heap.size by omega)] at h1
  have:=(Y1c.1 h1).1
  omega
theorem Xmd {H:Type} {enc:TypeId×Value→H} {P:Program} {f:Func} {s:ChangeSpec} {apart fresh handsOn:Bool} {W W':World} {args:Array Value} {v:Value} {ds gs:List (DataW H)} {before pa pv:List MemPlace}
  (hW:DataW.Whole enc P f.params.toList s.vars apart W args.toList ds gs before) (hb:Below W.heap.size W W')
  (hres:∀ (b:Nat) (sp:Nat→Bool) (hd:Bool),DataW.TrodAll enc P W' b sp hd f.resultTypes.toList (v.resultList f.resultTypes.size) (s.fn H (ds ++ gs)).results [])
  (hargs:DataW.TrodAll enc P W' 0 (fun b=>decide (b<W.heap.size)) true f.params.toList args.toList (s.fn H (ds ++ gs)).args pa)
  (hvars:DataW.TrodVars enc P W' (fun b=>decide (b<W.heap.size)) s.vars (s.fn H (ds ++ gs)).vars pv) (hps:before=pa ++ pv) :
  s.post enc P f apart fresh handsOn false W args v W':=by
 refine ⟨ds,gs,before,[],pa,pv,hW,hres _ _ _,hargs,hvars,World.keptBut_mono (fun p hp=>⟨hp,?_⟩) (hb.frame (·∈before)),fun h=>(by cases h)⟩;rw [hps,Y16] at hp;exact Or.inr hp
end Gk
