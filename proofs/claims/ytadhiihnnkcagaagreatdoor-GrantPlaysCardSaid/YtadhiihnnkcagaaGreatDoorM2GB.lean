/- Part 2 of what the proof stands on: Tre, W18a, W18b, W18c, Shelf, W18d, W18e, PatM, Pat, W17b, W18f, W21a, W21b, GkZ. -/
import Derived.Test.YtadhiihnnkcagaaGreatDoorM2GA
import Derived.Test.YtadhiihnnkcagaaGreatDoorChecked
import Derived.Shelf.Strings.Builder1
import Derived.Shelf.Small.Utf8
import Derived.Shelf.Small.Strs
import Derived.Shelf.Utf8.RuneCount
import Derived.Shelf.Strconv.Itoa0
import Derived.Shelf.Strconv.Itoa1
import Derived.Shelf.LaysM
import Derived.Shelf.Strconv.Itoa2
import Derived.Shelf.Strconv.Itoa3
import Derived.Shelf.Strings.Search1
import Derived.Shelf.Strings.Search2
import Derived.Shelf.Strings.Search3
import Derived.Shelf.Strings.Cut
import Derived.Shelf.Strings.Count
import Derived.Shelf.Strings.Shaped
import Derived.Shelf.Strings.Prefix
import Derived.Shelf.Strings.Split
import Derived.Shelf.Strings.SplitShaped
import Derived.Shelf.Unicode.Decode
import Derived.Shelf.Strings.Runes
import Derived.Shelf.Strings.RuneCount
import Derived.Shelf.Strings.IndexAny
import Derived.Shelf.Strings.AsciiSet
import Derived.Shelf.Strings.IndexAnyAll
import Derived.Shelf.Unicode.DecodeSlow
import Derived.Shelf.Unicode.DecodeAny
import Derived.Ground.Names2Prog
import Derived.Shelf.Slices.Clone
import Derived.Test.YtadhiihnnkcagaaGreatDoorProg
import Derived.Below
import Derived.ChangeSame
import Derived.Carry
import Derived.ChangeSlices
set_option linter.unusedVariables false
set_option linter.unusedSimpArgs false
namespace Tr
open Tk
structure Rec where
 kind:Int
 name:List UInt8
 parent:List UInt8
 user:List UInt8
 service:List UInt8
 url:List UInt8
 made:Int
 used:Int
 uses:Int
 fresh:Bool
 deriving DecidableEq
def r0:Rec:=⟨0,[],[],[],[],[],0,0,0,false⟩
def X6a (kind of:Int):Bool:=(kind == 1 && of == 0) || (kind == 6 && of == 0) || (kind == 2 && of == 1) || (kind == 3 && of == 4) || (kind == 4 && of == 2) || (kind == 4 && of == 3) || (kind == 5 && of == 4)
def X34 (kind:Int) (name:List UInt8):Bool:=if name=[] then X6a kind 0 else match X10 name with
 | some (of,_)=>X6a kind (of:Nat)
 | none=>false
def isT (s:List UInt8) (kind:Int):Bool:=match X10 s with
 | some (k,_)=>((k:Nat):Int) == kind
 | none=>false
def Xr (r:Rec):Bool :=
 (decide ((r.user.length:Int)≤32) && decide ((r.service.length:Int)≤100) && decide ((r.url.length:Int)≤100)) && (decide (0≤r.made) && decide (r.made≤r.used) && decide (r.used≤1099511627776) && decide (0≤r.uses) && decide (r.uses≤255)) && isT r.name r.kind && X34 r.kind r.parent
def atN (name:List UInt8):List Rec→Nat→Int
 | [],_=>-1
 | r::l,i=>if r.name=name then (i:Int) else atN name l (i+1)
def at0 (l:List Rec) (name:List UInt8):Int:=atN name l 0
theorem Xgr (name:List UInt8):∀ (l:List Rec) (i:Nat),(atN name l i=-1∧∀ r∈l,r.name≠name)∨∃ (j:Nat) (r:Rec),atN name l i=((i+j:Nat):Int)∧l[j]?=some r∧r.name=name∧∀ (q:Nat) (t:Rec),q<j→l[q]?=some t→t.name≠name
 | [],_=>.inl ⟨rfl,fun r h=>by simp at h⟩
 | a::l,i=>by
  rw [atN]
  by_cases h:a.name=name
  ·rw [if_pos h]
   exact .inr ⟨0,a,rfl,rfl,h,fun q t hq=>absurd hq (by omega)⟩
  ·rw [if_neg h]
   rcases Xgr name l (i+1) with ⟨h1,h2⟩ | ⟨j,r,h1,h2,h3,h4⟩
   ·refine .inl ⟨h1,fun r hr=>?_⟩
    rcases Y17.1 hr with e | e
    ·subst e; exact h
    ·exact h2 r e
   ·refine .inr ⟨j+1,r,by rw [h1]; congr 1; omega,h2,h3,fun q t hq ht=>?_⟩
    cases q with
    | zero=>simp at ht; subst ht; exact h
    | succ q=>exact h4 q t (by omega) (by simpa using ht)
theorem X2r (l:List Rec) (name:List UInt8):(at0 l name=-1∧∀ r∈l,r.name≠name)∨∃ (j:Nat) (r:Rec),at0 l name=(j:Int)∧l[j]?=some r∧r.name=name∧∀ (q:Nat) (t:Rec),q<j→l[q]?=some t→t.name≠name:=by
 rcases Xgr name l 0 with h | ⟨j,r,h1,h2⟩
 ·exact .inl h
 ·exact .inr ⟨j,r,by rw [at0,h1,Yd],h2⟩
theorem Xck (l:List Rec) (name:List UInt8):at0 l name<l.length:=by
 rcases X2r l name with ⟨h,_⟩ | ⟨j,r,h,hr,_⟩
 ·rw [h]; omega
 ·have:=(Y5.1 hr).1
  rw [h]; omega
theorem Xkr (l:List Rec) (name:List UInt8):-1≤at0 l name:=by
 rcases X2r l name with ⟨h,_⟩ | ⟨j,r,h,_⟩ <;> rw [h] <;> omega
def get (l:List Rec) (name:List UInt8):Option Rec:=l.find? fun r=>decide (r.name=name)
theorem get_at (l:List Rec) (name:List UInt8):(at0 l name=-1∧get l name=none)∨∃ (j:Nat) (r:Rec),at0 l name=(j:Int)∧l[j]?=some r∧r.name=name∧get l name=some r:=by
 rcases X2r l name with ⟨h1,h2⟩ | ⟨j,r,h1,h2,h3,h4⟩
 ·refine .inl ⟨h1,?_⟩
  unfold get
  rw [Y4o]
  intro r hr
  simpa using h2 r hr
 ·refine .inr ⟨j,r,h1,h2,h3,?_⟩
  unfold get
  have:∀ (l:List Rec) (j:Nat),l[j]?=some r→(∀ (q:Nat) (t:Rec),q<j→l[q]?=some t→t.name≠name)→l.find? (fun r=>decide (r.name=name))=some r:=by
   intro l
   induction l with
   | nil=>intro j h; simp at h
   | cons a l ih =>
    intro j h hno
    rw [Y2x]
    cases j with
    | zero=>simp at h; subst h; rw [decide_eq_true h3]
    | succ j =>
     rw [decide_eq_false (hno 0 a (by omega) rfl)]
     exact ih j (by simpa using h) (fun q t hq ht=>hno (q+1) t (by omega) (by simpa using ht))
  exact this l j h2 h4
def X5e (room:Int) (l:List Rec) (r:Rec):Nat:=if Xr r=false then 1 else if 0≤at0 l r.name then 7 else if r.parent≠[]∧at0 l r.parent<0 then 6 else if room≤l.length then 5 else 0
def add (room:Int) (l:List Rec) (r:Rec):List Rec:=if X5e room l r=0 then l ++ [r] else l
def Xa2 (l:List Rec) (r:Rec):Nat:=if Xr r=false then 1 else match get l r.name with
 | none=>6
 | some t=>if t.parent≠r.parent then 8 else 0
def put (l:List Rec) (r:Rec):List Rec:=if Xa2 l r=0 then l.set (at0 l r.name).toNat r else l
structure Wf (l:List Rec):Prop where
 right:∀ r∈l,Xr r=true
 one:∀ (i j:Nat) (r s:Rec),l[i]?=some r→l[j]?=some s→r.name=s.name→i=j
 up:∀ (i:Nat) (r:Rec),l[i]?=some r→(r.parent=[]∨0≤at0 l r.parent)∧at0 l r.parent<i
theorem Wf.nil:Wf []:=⟨fun r h=>by simp at h,fun i j r s h=>by simp at h,fun i r h=>by simp at h⟩
theorem Wf.at_ {l:List Rec} (h:Wf l) {i:Nat} {r:Rec} (hr:l[i]?=some r):at0 l r.name=(i:Int):=by
 rcases X2r l r.name with ⟨_,h2⟩ | ⟨j,t,h1,h2,h3,_⟩
 ·exact absurd rfl (h2 r (Ym hr))
 ·rw [h1,h.one j i t r h2 hr h3]
theorem Wf.get_ {l:List Rec} (h:Wf l) {i:Nat} {r:Rec} (hr:l[i]?=some r):get l r.name=some r:=by
 rcases get_at l r.name with ⟨h1,_⟩ | ⟨j,t,h1,h2,h3,h4⟩
 ·rw [h.at_ hr] at h1; omega
 ·rw [h4]
  have e:j=i:=h.one j i t r h2 hr h3
  subst e
  rw [h2] at hr; exact hr
theorem X6z {r:Rec} (h:Xr r=true):r.name≠[]:=by
 intro e
 unfold Xr at h
 simp only [Yq] at h
 have h1:=h.1.2
 unfold isT at h1
 rw [e] at h1
 cases hp:X10 [] with
 | none=>rw [hp] at h1; cases h1
 | some x=>exact (X3k (k:=x.1) (d:=x.2) hp).2.2.2.2 rfl
theorem Xki (name:List UInt8):∀ (l m:List Rec) (i:Nat),atN name (l ++ m) i=if atN name l i=-1 then atN name m (i+l.length) else atN name l i
 | [],m,i=>by simp [atN]
 | a::l,m,i=>by
  rw [Ys,atN,atN]
  split
  ·rw [if_neg (by omega)]
  ·rw [Xki name l m (i+1),Y8,show i+1+l.length=i+(l.length+1) by omega]
theorem Xrr (l:List Rec) (r:Rec) (name:List UInt8):at0 (l ++ [r]) name=if at0 l name=-1 then (if r.name=name then (l.length:Int) else -1) else at0 l name:=by
 unfold at0
 rw [Xki]
 simp [atN]
theorem X89 {l:List Rec} {r:Rec} {i:Nat} {t:Rec} (h:(l ++ [r])[i]?=some t):l[i]?=some t∨(i=l.length∧t=r):=by
 rcases Yr i l.length with h1 | h1
 ·rw [Yg h1] at h; exact .inl h
 ·rw [Yv h1] at h
  have h2:=(Y5.1 h).1
  simp at h2
  have h3:i=l.length:=by omega
  subst h3
  simp at h
  exact .inr ⟨rfl,h.symm⟩
theorem Xl9 {room:Int} {l:List Rec} {r:Rec} (h:X5e room l r=0):Xr r=true∧at0 l r.name=-1∧(r.parent=[]∨0≤at0 l r.parent)∧(l.length:Int)<room:=by
 unfold X5e at h
 split at h
 ·cases h
 ·rename_i h1
  split at h
  ·cases h
  ·rename_i h2
   split at h
   ·cases h
   ·rename_i h3
    split at h
    ·cases h
    ·refine ⟨by simpa using h1,by have:=Xkr l r.name; omega,?_,by omega⟩
     by_cases e:r.parent=[]
     ·exact .inl e
     ·refine .inr ?_
      have:¬ at0 l r.parent<0:=fun h4=>h3 ⟨e,h4⟩
      omega
theorem Wf.snoc {l:List Rec} (h:Wf l) {r:Rec} (hr:Xr r=true) (hm1:at0 l r.name=-1) (hp:r.parent=[]∨0≤at0 l r.parent):Wf (l ++ [r]):=by
 have hno:∀ t∈l,t.name≠r.name:=by
  rcases X2r l r.name with ⟨_,h4⟩ | ⟨j,t,h4,_⟩
  ·exact h4
  ·rw [h4] at hm1; omega
 have hnil:∀ l:List Rec,(∀ r∈l,Xr r=true)→at0 l []=-1:=fun l hl=>by
  rcases X2r l [] with ⟨h4,_⟩ | ⟨j,t,_,ht,he,_⟩
  ·exact h4
  ·exact absurd he (X6z (hl t (Ym ht)))
 refine ⟨fun t ht=>?_,fun i j s t hi hj he=>?_,fun i t hi=>?_⟩
 ·rcases Y12.1 ht with e | e
  ·exact h.right t e
  ·simp at e; subst e; exact hr
 ·rcases X89 hi with hi1 | ⟨hi1,hi2⟩
  ·rcases X89 hj with hj1 | ⟨hj1,hj2⟩
   ·exact h.one i j s t hi1 hj1 he
   ·rw [hj2] at he; exact absurd he (hno s (Ym hi1))
  ·rcases X89 hj with hj1 | ⟨hj1,hj2⟩
   ·rw [hi2] at he; exact absurd he.symm (hno t (Ym hj1))
   ·omega
 ·have key:∀ (t:Rec),(t.parent=[]∨0≤at0 l t.parent)→at0 (l ++ [r]) t.parent=at0 l t.parent:=fun t ht=>by
   rw [Xrr]
   rcases ht with e | e
   ·rw [e,hnil l h.right,if_pos rfl,if_neg (X6z hr)]
   ·rw [if_neg (by omega)]
  rcases X89 hi with hi1 | ⟨hi1,hi2⟩
  ·obtain ⟨h1,h2⟩:=h.up i t hi1
   rw [key t h1]; exact ⟨h1,h2⟩
  ·subst hi1; subst hi2
   rw [key t hp]; exact ⟨hp,Xck l t.parent⟩
theorem Wf.add {l:List Rec} (h:Wf l) {room:Int} {r:Rec}:Wf (add room l r):=by
 unfold Tr.add
 split
 ·rename_i he
  obtain ⟨h1,h2,h3,_⟩:=Xl9 he
  exact h.snoc h1 h2 h3
 ·exact h
theorem Xiz (name:List UInt8) {r:Rec}:∀ (l:List Rec) (k i:Nat) (t:Rec),l[k]?=some t→t.name=r.name→atN name (l.set k r) i=atN name l i
 | [],k,i,t,h,_=>by simp at h
 | a::l,0,i,t,h,he=>by
  simp at h; subst h
  rw [Y4n,atN,atN,he]
 | a::l,k+1,i,t,h,he=>by
  rw [Y39,atN,atN,Xiz name l k (i+1) t (by simpa using h) he]
theorem put_ok {l:List Rec} {r:Rec} (h:Xa2 l r=0):Xr r=true∧∃ (j:Nat) (t:Rec),at0 l r.name=(j:Int)∧l[j]?=some t∧t.name=r.name∧t.parent=r.parent∧get l r.name=some t:=by
 unfold Xa2 at h
 split at h
 ·cases h
 ·rename_i h1
  refine ⟨by simpa using h1,?_⟩
  rcases get_at l r.name with ⟨_,h2⟩ | ⟨j,t,h2,h3,h4,h5⟩
  ·rw [h2] at h; cases h
  ·rw [h5] at h
   simp only at h
   split at h
   ·cases h
   ·rename_i h6
    exact ⟨j,t,h2,h3,h4,by simpa using h6,h5⟩
theorem Wf.set {l:List Rec} (h:Wf l) {j:Nat} {t r:Rec} (ht:l[j]?=some t) (hn:t.name=r.name) (hp:t.parent=r.parent) (hr:Xr r=true):Wf (l.set j r):=by
 have hj:=(Y5.1 ht).1
 have e:∀ name,at0 (l.set j r) name=at0 l name:=fun name=>Xiz name l j 0 t ht hn
 have g:∀ (i:Nat) (s:Rec),(l.set j r)[i]?=some s→∃ u,l[i]?=some u∧u.name=s.name∧u.parent=s.parent:=fun i s hs=>by
  rw [Y1z] at hs
  split at hs
  ·rename_i hij
   subst hij
   cases hs
   exact ⟨t,ht,hn,hp⟩
  ·exact ⟨s,hs,rfl,rfl⟩
 refine ⟨fun s hs=>?_,fun i k s u hi hk he=>?_,fun i s hi=>?_⟩
 ·rcases List.mem_or_eq_of_mem_set hs with h1 | h1
  ·exact h.right s h1
  ·subst h1; exact hr
 ·obtain ⟨s',h1,h2,_⟩:=g i s hi
  obtain ⟨u',h3,h4,_⟩:=g k u hk
  exact h.one i k s' u' h1 h3 (by rw [h2,h4,he])
 ·obtain ⟨s',h1,_,h2⟩:=g i s hi
  rw [e,← h2]
  exact h.up i s' h1
theorem Wf.put {l:List Rec} (h:Wf l) {r:Rec}:Wf (put l r):=by
 unfold Tr.put
 split
 ·rename_i he
  obtain ⟨h1,j,t,h2,h3,h4,h5,_⟩:=put_ok he
  rw [h2,Yi]
  exact h.set h3 h4 h5 h1
 ·exact h
def X49 (l:List Rec):Nat→Int→List Rec
 | 0,_=>[]
 | f+1,i=>if i<0 then [] else match l[i.toNat]? with
  | some r=>r::X49 l f (at0 l r.parent)
  | none=>[]
theorem X3j (l:List Rec) (f:Nat) {i:Int} (h:i<0):X49 l f i=[]:=by
 cases f with
 | zero=>rfl
 | succ f=>rw [X49,if_pos h]
theorem Xb6 {l:List Rec} (h:Wf l):∀ (f g:Nat) (i:Int),i<f→i<g→X49 l f i=X49 l g i
 | 0,g,i,h1,_=>by rw [X3j l g (by omega),X3j l 0 (by omega)]
 | f+1,0,i,_,h2=>by rw [X3j l (f+1) (by omega),X3j l 0 (by omega)]
 | f+1,g+1,i,h1,h2=>by
  rw [X49,X49]
  split
  ·rfl
  ·rename_i hi
   cases hr:l[i.toNat]? with
   | none=>rfl
   | some r =>
    have hu:=(h.up i.toNat r hr).2
    simp only
    rw [Xb6 h f g (at0 l r.parent) (by omega) (by omega)]
def Xdo (l:List Rec) (i:Int):List Rec:=X49 l (i.toNat+1) i
def path (l:List Rec) (name:List UInt8):List Rec:=Xdo l (at0 l name)
theorem X6t (l:List Rec) {i:Int} (h:i<0):Xdo l i=[]:=X3j l _ h
theorem Xc1 {l:List Rec} (h:Wf l) {i:Nat} {r:Rec} (hr:l[i]?=some r):Xdo l (i:Int)=r::Xdo l (at0 l r.parent):=by
 unfold Xdo
 rw [Yi,X49,if_neg (by omega),Yi,hr]
 simp only
 have hu:=(h.up i r hr).2
 rw [Xb6 h i ((at0 l r.parent).toNat+1) _ (by omega) (by omega)]
def Xh9 (l:List Rec) (name:List UInt8):List Rec:=l.filter fun r=>decide (name≠[]) && decide (r.parent=name)
def X2h (l:List Rec) (name:List UInt8):List (List UInt8):=(Xh9 l name).map Rec.name
def Xl (l:List Rec):Nat→List UInt8→List (List UInt8)
 | 0,_=>[]
 | f+1,name=>name::(X2h l name).flatMap (Xl l f)
def below (l:List Rec) (name:List UInt8):List (List UInt8):=if 0≤at0 l name then Xl l l.length name else []
def drop (l:List Rec) (name:List UInt8):List Rec:=l.filter fun r=>!(below l name).contains r.name
def X24 {α:Type} (pr:α→Bool):List α→Nat→Int
 | [],_=>-1
 | s::r,i=>if pr s then (i:Int) else X24 pr r (i+1)
theorem X5u {α:Type} (pr:α→Bool):∀ (n:Nat) (r:List α) (i:Nat),(∀ (j:Nat) s,j<n→r[j]?=some s→pr s=false)→X24 pr r i=X24 pr (r.drop n) (i+min n r.length)
 | 0,r,i,_=>by simp
 | n+1,[],i,_=>by simp [X24]
 | n+1,s::r,i,h=>by
  rw [X24,if_neg (by rw [h 0 s (by omega) rfl]; decide),X5u pr n r (i+1) (fun j t hj ht=>h (j+1) t (by omega) (by simpa using ht)),Y9,Y8]
  congr 1
  omega
theorem X54 {α:Type} {pr:α→Bool} {l:List α} {i:Nat} {s:α} (h:∀ (j:Nat) t,j<i→l[j]?=some t→pr t=false) (hs:l[i]?=some s) (hp:pr s=true):X24 pr l 0=(i:Int):=by
 have hi:=(Y5.1 hs).1
 rw [X5u pr i l 0 h,Yd,Y3b (by omega),Y1d hi,(Y5.1 hs).2,X24,if_pos hp]
theorem X3o {α:Type} {pr:α→Bool} {l:List α} (h:∀ (j:Nat) t,l[j]?=some t→pr t=false):X24 pr l 0=-1:=by
 rw [X5u pr l.length l 0 (fun j t _ ht=>h j t ht),Y34]
 rfl
theorem X71 {α:Type} (pr:α→Bool):∀ (l:List α) (i:Nat),decide (0≤X24 pr l i)=l.any pr
 | [],i=>rfl
 | s::r,i=>by
  rw [X24,List.any_cons]
  split
  ·rename_i h
   rw [h,Bool.true_or,decide_eq_true_eq]; omega
  ·rename_i h
   rw [Y4s.2 h,Y4x,X71 pr r (i+1)]
theorem X8b (name:List UInt8):∀ (l:List Rec) (i:Nat),X24 (fun r=>decide (r.name=name)) l i=atN name l i
 | [],i=>rfl
 | s::r,i=>by
  rw [X24,atN,X8b name r (i+1)]
  simp only [decide_eq_true_eq]
def getD (l:List Rec) (name:List UInt8):Rec:=(get l name).getD r0
end Tr
section
open Go.Proofs
abbrev Xm4:=@Tryz.func104
abbrev Xmf:=@Tryz.func116
abbrev Xp6:=@Tryz.func117
abbrev Xcl:=@Tryz.func124
abbrev Xmu:=@Tryz.func134
abbrev Xmn:=@Tryz.func135
abbrev Xoc:=@Tryz.func141
abbrev Qf146:=@Tryz.func146
abbrev Xoa:=@Tryz.func151
abbrev Xp3:=@Tryz.func156
abbrev Xi8:=@Tryz.func165
abbrev Qf17:=@Tryz.func17
abbrev Xkn:=@Tryz.func171
abbrev Xnj:=@Tryz.func179
abbrev Qf181:=@Tryz.func181
abbrev Xhe:=@Tryz.func194
abbrev X75:=@Tryz.func196
abbrev Xmi:=@Tryz.func199
abbrev Qf205:=@Tryz.func205
abbrev Qf206:=@Tryz.func206
abbrev Qf21:=@Tryz.func21
abbrev Xjv:=@Tryz.func218
abbrev Xl6:=@Tryz.func219
abbrev Qf220:=@Tryz.func220
abbrev Qf221:=@Tryz.func221
abbrev Qf223:=@Tryz.func223
abbrev Qf224:=@Tryz.func224
abbrev Xn9:=@Tryz.func243
abbrev Qf40:=@Tryz.func40
abbrev Qf46:=@Tryz.func46
abbrev Qf49:=@Tryz.func49
abbrev Qf50:=@Tryz.func50
abbrev Qf51:=@Tryz.func51
abbrev Qf54:=@Tryz.func54
abbrev Xpl:=@Tryz.func61
abbrev Qf77:=@Tryz.func77
abbrev Qf97:=@Tryz.func97
abbrev Qg0:=@Tryz.isAgg0
abbrev X5g:=@Tryz.isAgg101
abbrev X2i:=@Tryz.isAgg134
abbrev Xdv:=@Tryz.isAgg155
abbrev X33:=@Tryz.isAgg195
abbrev Qg21:=@Tryz.isAgg21
abbrev Xi4:=@Tryz.isAgg214
abbrev X7i:=@Tryz.isAgg219
abbrev Xk8:=@Tryz.isAgg238
abbrev Xeu:=@Tryz.isAgg243
abbrev Qg27:=@Tryz.isAgg27
abbrev Qg28:=@Tryz.isAgg28
abbrev Qg3:=@Tryz.isAgg3
abbrev Xqn:=@Tryz.isAgg31
abbrev Qg32:=@Tryz.isAgg32
abbrev Xqa:=@Tryz.isAgg34
abbrev X7l:=@Tryz.isAgg35
abbrev Qg39:=@Tryz.isAgg39
abbrev Qg4:=@Tryz.isAgg4
abbrev Xio:=@Tryz.isAgg41
abbrev X36:=@Tryz.isAgg45
abbrev Xip:=@Tryz.isAgg47
abbrev Qg48:=@Tryz.isAgg48
abbrev Qg5:=@Tryz.isAgg5
abbrev Xlx:=@Tryz.isAgg54
abbrev Qg67:=@Tryz.isAgg67
abbrev Xpv:=@Tryz.isAgg80
abbrev Xhz:=@Tryz.isAgg81
abbrev Qg9:=@Tryz.isAgg9
abbrev Xs8:=@Tryz.results108
abbrev Xna:=@Tryz.results111
abbrev Xdx:=@Tryz.results112
abbrev Xrm:=@Tryz.results119
abbrev Xfe:=@Tryz.results121
abbrev Xro:=@Tryz.results122
abbrev Xry:=@Tryz.results123
abbrev Xjn:=@Tryz.results130
abbrev Xoi:=@Tryz.results143
abbrev Xpz:=@Tryz.results145
abbrev Xqk:=@Tryz.results147
abbrev Xqt:=@Tryz.results150
abbrev Xnr:=@Tryz.results152
abbrev Xq7:=@Tryz.results153
abbrev Xqd:=@Tryz.results154
abbrev Xrb:=@Tryz.results161
abbrev Xd1:=@Tryz.results162
abbrev Xqb:=@Tryz.results165
abbrev Xlo:=@Tryz.results166
abbrev Xfa:=@Tryz.results169
abbrev Xq6:=@Tryz.results172
abbrev Xes:=@Tryz.results179
abbrev Xrj:=@Tryz.results190
abbrev Xpd:=@Tryz.results197
abbrev Xo1:=@Tryz.results206
abbrev Xp7:=@Tryz.results219
abbrev Qr24:=@Tryz.results24
abbrev Qr37:=@Tryz.results37
abbrev Xs4:=@Tryz.results39
abbrev Qr40:=@Tryz.results40
abbrev Qr41:=@Tryz.results41
abbrev Qr45:=@Tryz.results45
abbrev Qr47:=@Tryz.results47
abbrev Qr48:=@Tryz.results48
abbrev Xpo:=@Tryz.results53
abbrev Qr57:=@Tryz.results57
abbrev Xlw:=@Tryz.results67
abbrev Qr69:=@Tryz.results69
abbrev Qr70:=@Tryz.results70
abbrev Xsh:=@Tryz.results73
abbrev Qr75:=@Tryz.results75
abbrev Qr77:=@Tryz.results77
abbrev Qr90:=@Tryz.results90
abbrev Qr95:=@Tryz.results95
abbrev Xqz:=@Tryz.results97
abbrev Qr98:=@Tryz.results98
abbrev Qs0:=@Tryz.sizeOf0
abbrev Xy:=@Tryz.sizeOf101
abbrev Xfy:=@Tryz.sizeOf118
abbrev X14:=@Tryz.sizeOf134
abbrev Xjc:=@Tryz.sizeOf152
abbrev X3e:=@Tryz.sizeOf155
abbrev X1a:=@Tryz.sizeOf195
abbrev Qs21:=@Tryz.sizeOf21
abbrev Xds:=@Tryz.sizeOf214
abbrev X5t:=@Tryz.sizeOf219
abbrev X92:=@Tryz.sizeOf224
abbrev Xll:=@Tryz.sizeOf238
abbrev X4p:=@Tryz.sizeOf243
abbrev Xkk:=@Tryz.sizeOf269
abbrev Qs27:=@Tryz.sizeOf27
abbrev Qs28:=@Tryz.sizeOf28
abbrev Xco:=@Tryz.sizeOf29
abbrev Qs3:=@Tryz.sizeOf3
abbrev Xim:=@Tryz.sizeOf31
abbrev Xlz:=@Tryz.sizeOf32
abbrev Xij:=@Tryz.sizeOf34
abbrev X3i:=@Tryz.sizeOf35
abbrev Qs4:=@Tryz.sizeOf4
abbrev Xha:=@Tryz.sizeOf41
abbrev Xw:=@Tryz.sizeOf45
abbrev Xly:=@Tryz.sizeOf47
abbrev Qs48:=@Tryz.sizeOf48
abbrev Qs5:=@Tryz.sizeOf5
abbrev Xin:=@Tryz.sizeOf54
abbrev Xb4:=@Tryz.sizeOf67
abbrev Xps:=@Tryz.sizeOf69
abbrev Xph:=@Tryz.sizeOf80
abbrev X9z:=@Tryz.sizeOf81
abbrev Qs9:=@Tryz.sizeOf9
abbrev Qs95:=@Tryz.sizeOf95
abbrev Xjz:=@Tryz.sizeOf97
abbrev Qu0:=@Tryz.underlying0
abbrev X1t:=@Tryz.underlying101
abbrev Xad:=@Tryz.underlying118
abbrev X5s:=@Tryz.underlying127
abbrev X1z:=@Tryz.underlying134
abbrev X85:=@Tryz.underlying152
abbrev Xnn:=@Tryz.underlying155
abbrev Xj4:=@Tryz.underlying157
abbrev Xdl:=@Tryz.underlying168
abbrev Xrw:=@Tryz.underlying177
abbrev Xnm:=@Tryz.underlying179
abbrev X5j:=@Tryz.underlying192
abbrev Xd:=@Tryz.underlying195
abbrev Xnu:=@Tryz.underlying208
abbrev Qu21:=@Tryz.underlying21
abbrev X27:=@Tryz.underlying214
abbrev X2w:=@Tryz.underlying217
abbrev X73:=@Tryz.underlying219
abbrev Xek:=@Tryz.underlying221
abbrev X65:=@Tryz.underlying224
abbrev X7g:=@Tryz.underlying238
abbrev X25:=@Tryz.underlying243
abbrev X1u:=@Tryz.underlying248
abbrev Xis:=@Tryz.underlying269
abbrev X7t:=@Tryz.underlying27
abbrev Xa0:=@Tryz.underlying271
abbrev Xo9:=@Tryz.underlying279
abbrev Xbs:=@Tryz.underlying28
abbrev Xq3:=@Tryz.underlying282
abbrev Xcb:=@Tryz.underlying29
abbrev Qu3:=@Tryz.underlying3
abbrev Xcf:=@Tryz.underlying31
abbrev Qu32:=@Tryz.underlying32
abbrev Xdk:=@Tryz.underlying34
abbrev X29:=@Tryz.underlying35
abbrev Qu39:=@Tryz.underlying39
abbrev Qu4:=@Tryz.underlying4
abbrev X1p:=@Tryz.underlying41
abbrev X15:=@Tryz.underlying45
abbrev Qu5:=@Tryz.underlying5
abbrev X72:=@Tryz.underlying52
abbrev Xgh:=@Tryz.underlying54
abbrev X66:=@Tryz.underlying67
abbrev Xpi:=@Tryz.underlying69
abbrev X9t:=@Tryz.underlying79
abbrev Xeb:=@Tryz.underlying81
abbrev X7f:=@Tryz.underlying83
abbrev Xhm:=@Tryz.underlying88
abbrev Qu9:=@Tryz.underlying9
abbrev Xb9:=@Tryz.underlying95
abbrev X7n:=@Tryz.underlying97
abbrev Qz0:=@Tryz.zeroValue0
abbrev X7d:=@Tryz.zeroValue101
abbrev Xsk:=@Tryz.zeroValue118
abbrev Xf2:=@Tryz.zeroValue134
abbrev Xii:=@Tryz.zeroValue155
abbrev Xoh:=@Tryz.zeroValue195
abbrev Qz21:=@Tryz.zeroValue21
abbrev Xo0:=@Tryz.zeroValue224
abbrev Xjk:=@Tryz.zeroValue238
abbrev Xqv:=@Tryz.zeroValue282
abbrev Qz3:=@Tryz.zeroValue3
abbrev Qz32:=@Tryz.zeroValue32
abbrev Qz4:=@Tryz.zeroValue4
abbrev Qz41:=@Tryz.zeroValue41
abbrev X5q:=@Tryz.zeroValue45
abbrev Qz5:=@Tryz.zeroValue5
abbrev Xsl:=@Tryz.zeroValue67
abbrev Qz9:=@Tryz.zeroValue9
end
namespace Go.Proofs.YtadhiihnnkcagaaGreatDoor
open Gk Pc
theorem X7z (c:UInt8) (w:World) :
  Calls Tryz.prog 215 [U8 c.toNat].toArray w (Ret fun v w'=>v=I64 (X37 c)∧w=w'):=by
 obtain ⟨w0,hw0⟩:∃ w0,w=w0:=⟨_,rfl⟩
 rw [show (fun (v:Value) (w':World)=>v=I64 (X37 c)∧w=w')=(fun v w'=>v=I64 (X37 c)∧w0=w') by rw [hw0]]
 refine calls Tryz.func215 rfl Tryz.ntmps215 rfl (.seq (.q 1 rfl (.seq (.q 1 rfl (.seq (.q 1 rfl (.seq (.seq (.q 1 rfl (.block (.loop (σ:=Nat) (fun i=>[(0,U8 c.toNat),(3,S LOW),(4,S HIGH),(5,I64 (i:Nat))]) (fun i w=>i≤16∧(∀ j,j<i→LOW.getD j 0≠c∧HIGH.getD j 0≠c)∧w=w0) (fun i=>16 - i) 0 ⟨rfl,rfl,rfl,rfl,trivial⟩ ⟨by decide,fun _ h=>absurd h (by omega),hw0⟩ ?_)))))))))))
 rintro i w ⟨hi,hno,hw⟩
 have hLW:LOW.length=16:=rfl
 have hHI:HIGH.length=16:=rfl
 refine .seq (.seq (.q 2 rfl ?_))
 refine WC.cond rfl (fun hb7=>?_) (fun hb7=>?_)
 ·
  have hc7:=hb7; try simp only [Y6] at hc7
  refine .skip (.seq (.block (.seq (.t 2 rfl (.val (.index8 (l:=LOW) (i:=(i:Int)) (.of rfl) (.of rfl) (by omega) (by omega) Qu9) rfl (.q 3 rfl (.gval rfl rfl (fun hg1=>(.move (.of rfl))) rfl (.gval rfl rfl (fun hg1=>(.move (.of rfl))) rfl (.gval rfl rfl (fun hg1=>.index8 (l:=HIGH) (i:=(i:Int)) (.gd hg1 rfl) (.gd hg1 rfl) (by omega) (by omega) Qu9) rfl (.gval rfl rfl (fun hg1=>(.move (.of rfl))) rfl (.gval rfl rfl (fun hg1=>(.eql (.gd hg1 rfl) (.gd hg1 rfl))) rfl (.val (.por (.of rfl) (.of rfl) (.of rfl)) rfl (.nil ?_)))))))))))))
  refine WC.cond rfl (fun hb21=>?_) (fun hb21=>?_)
  ·
   have hc21:=hb21; try simp only [Y6] at hc21
   refine .seq (.q 2 rfl (.ret (X9 Tryz.results215 rfl ?_)))
   refine ⟨_,rfl,?_,hw.symm⟩
   rw [Xqo (c:=c) (i:=i) (by omega)]
   simp only [Y1j,beq_iff_eq,at_,Yi] at hb21
   rcases hb21 with h | h
   ·exact .inl (Y16.1 (by omega))
   ·exact .inr (Y16.1 (by omega))
  have hc21:=hb21; try simp only [Y6] at hc21
  refine .skip (.region (.run 3 rfl ⟨⟨by omega,by omega⟩,trivial⟩ (.nil ?_)))
  refine ⟨i+1,⟨rfl,rfl,rfl,rfl,trivial⟩,⟨by omega,fun j hj=>?_,hw⟩,by omega⟩
  rcases Yr j i with h1 | h1
  ·exact hno j h1
  ·have e:j=i:=by omega
   subst e
   simp only [Y1c,beq_eq_false_iff_ne,at_,Yi] at hb21
   exact ⟨fun e=>hb21.1 (by rw [e]),fun e=>hb21.2 (by rw [e])⟩
 have hc7:=hb7; try simp only [Y6] at hc7
 refine .exit (.seq (.q 1 rfl (.ret (X9 Tryz.results215 rfl ?_))))
 exact ⟨_,rfl,by rw [Xot (fun j hj=>hno j (by omega))],hw.symm⟩
theorem Xdr (c:UInt8) (w:World) :
  Calls Tryz.prog 191 [U8 c.toNat].toArray w (Ret fun v w'=>v=.bool (plain c)∧w=w'):=by
 obtain ⟨w0,hw0⟩:∃ w0,w=w0:=⟨_,rfl⟩
 rw [show (fun (v:Value) (w':World)=>v=.bool (plain c)∧w=w')=(fun v w'=>v=.bool (plain c)∧w0=w') by rw [hw0]]
 refine calls Tryz.func191 rfl Tryz.ntmps191 rfl (.seq (.q 1 rfl (.seq (.q 1 rfl (.seq (.seq (.q 1 rfl (.block (.loop (σ:=Nat) (fun i=>[(0,U8 c.toNat),(3,S PLAINS),(4,I64 (i:Nat))]) (fun i w=>i≤66∧(∀ j,j<i→PLAINS.getD j 0≠c)∧w=w0) (fun i=>66 - i) 0 ⟨rfl,rfl,rfl,trivial⟩ ⟨by decide,fun _ h=>absurd h (by omega),hw0⟩ ?_)))))))))
 rintro i w ⟨hi,hno,hw⟩
 have hPL:PLAINS.length=66:=rfl
 refine .seq (.seq (.t 2 rfl (.val (.len (l:=PLAINS) (.of rfl) Qu9) rfl (.q 1 rfl (.nil ?_)))))
 refine WC.cond rfl (fun hb8=>?_) (fun hb8=>?_)
 ·
  have hc8:=hb8; try simp only [Y6] at hc8
  refine .skip (.seq (.block (.seq (.t 2 rfl (.val (.index8 (l:=PLAINS) (i:=(i:Int)) (.of rfl) (.of rfl) (by omega) (by omega) Qu9) rfl (.q 2 rfl (.nil ?_)))))))
  refine WC.cond rfl (fun hb15=>?_) (fun hb15=>?_)
  ·
   have hc15:=hb15; try simp only [Y6] at hc15
   refine .seq (.q 1 rfl (.ret (X9 Tryz.results191 rfl ?_)))
   refine ⟨_,rfl,?_,hw.symm⟩
   rw [show plain c=true by
    rw [Xcu,Y2a]
    simp only [beq_iff_eq,at_,Yi] at hb15
    have e:PLAINS.getD i 0=c:=Y16.1 (by omega)
    have hm:c∈PLAINS:=by
     rw [← e,Y7,Y4 (by omega)]
     exact Y2o _
    exact hm]
  have hc15:=hb15; try simp only [Y6] at hc15
  refine .skip (.region (.run 3 rfl ⟨⟨by omega,by omega⟩,trivial⟩ (.nil ?_)))
  refine ⟨i+1,⟨rfl,rfl,rfl,trivial⟩,⟨by omega,fun j hj=>?_,hw⟩,by omega⟩
  rcases Yr j i with h1 | h1
  ·exact hno j h1
  ·have e:j=i:=by omega
   subst e
   simp only [beq_eq_false_iff_ne,at_,Yi] at hb15
   exact fun e=>hb15 (by rw [e])
 have hc8:=hb8; try simp only [Y6] at hc8
 refine .exit (.seq (.q 1 rfl (.ret (X9 Tryz.results191 rfl ?_))))
 refine ⟨_,rfl,?_,hw.symm⟩
 rw [show plain c=false by
  rw [Xcu,← Y2i,Y2a]
  intro hm
  obtain ⟨j,hj,e⟩:=Y46.1 (show c∈PLAINS from hm)
  refine hno j (by omega) ?_
  rw [Y7,Y4 hj,← e]; rfl]
theorem Xa9 (c:UInt8) (B w:World) (I:Im) (As:List X8) (hS:Sat B w I As) :
  Calls Tryz.prog 192 [U8 c.toNat].toArray w (Ret fun v w'=>v=S (Xh2 c)∧Sat B w' I As):=by
 refine calls Tryz.func192 rfl Tryz.ntmps192 rfl (.seq (.q 1 rfl (.seq (.q 1 rfl (.seq ?_)))))
 have hHI:HIGH.length=16:=rfl
 have hc:=c.toNat_lt
 refine .quiet (by kernel_rfl) (by kernel_rfl) hS (.val (fun w hS=>(.move (.of rfl))) rfl (.val (fun w hS=>(.move (.of rfl))) rfl ?_))
 refine WQ.val (fun w hS=>.quo (.of rfl) (.of rfl) (by omega) (by omega) (by rw [IntKind.wrap_u8]; omega)) rfl (.val (fun w hS=>(.move (.of rfl))) rfl (WQ.val (fun w hS=>.quo (.of rfl) (.of rfl) (by omega) (by omega) (by rw [IntKind.wrap_u8]; omega)) rfl (WQ.val (fun w hS=>.addx (.of rfl) (.of rfl) (by rw [IntKind.wrap_u8]; omega)) rfl (.val (fun w hS=>.sub3k (l:=HIGH) (.of rfl) (.of rfl) (.of rfl) (by omega) (by omega) (by omega) Qu9) rfl (WQ.val (fun w hS=>.cat (l:=[37]) (.of rfl) (.of rfl) (by simp only [Y0,Yu,Yn,Y8,Yk]; omega)) rfl (.val (fun w hS=>(.move (.of rfl))) rfl (.val (fun w hS=>(.move (.of rfl))) rfl (.val (fun w hS=>(.rem (.of rfl) (.of rfl) (by omega) (by omega))) rfl (.val (fun w hS=>(.move (.of rfl))) rfl (.val (fun w hS=>(.rem (.of rfl) (.of rfl) (by omega) (by omega))) rfl ?_))))))))))
 refine WQ.val (fun w hS=>.addx (.of rfl) (.of rfl) (by rw [IntKind.wrap_u8]; omega)) rfl (.val (fun w hS=>.sub3k (l:=HIGH) (.of rfl) (.of rfl) (.of rfl) (by omega) (by omega) (by omega) Qu9) rfl (WQ.val (fun w hS=>.cat (.of rfl) (.of rfl) (by simp only [Y0,Yu,Yn,Y8,Yk]; omega)) rfl (.val (fun w hS=>(.assign (.of rfl))) rfl (.nil ?_))))
 clear hS; intro w hS
 refine .ret (X9 Tryz.results192 rfl ?_)
 refine ⟨_,rfl,?_,hS⟩
 rw [← pct_of c]
 have e1:((c.toNat:Int) / 16).toNat=c.toNat / 16:=by omega
 have e2:((c.toNat:Int) % 16).toNat=c.toNat % 16:=by omega
 have e3:((c.toNat:Int) / 16+1).toNat - c.toNat / 16=1:=by omega
 have e4:((c.toNat:Int) % 16+1).toNat - c.toNat % 16=1:=by omega
 rw [e1,e2,e3,e4]
theorem Xet (s:List UInt8) (i:Int) (h0:0≤i) (h1:i≤9223372036854775800) (w:World) :
  Calls Tryz.prog 190 [S s,I64 i].toArray w (Ret fun v w'=>v=I64 (if (s.length:Int)≤i+2 then -1 else if X37 (at_ s (i+1))<0∨X37 (at_ s (i+2))<0 then -1 else 16*X37 (at_ s (i+1))+X37 (at_ s (i+2)))∧w=w'):=by
 refine calls Tryz.func190 rfl Tryz.ntmps190 rfl (.seq (.q 1 rfl (.seq (.seq (.region (.run 5 rfl ⟨⟨by omega,by omega⟩,Qu9,trivial⟩ (.nil ?_)))))))
 refine WC.cond rfl (fun hb11=>?_) (fun hb11=>?_)
 ·
  have hc11:=hb11; try simp only [Y6] at hc11
  refine .seq (.q 1 rfl (.ret (X9 Xrj rfl ?_)))
  exact ⟨_,rfl,by rw [if_pos hc11],rfl⟩
 have hc11:=hb11; try simp only [Y6] at hc11
 refine .skip (.seq (.region (.run 4 rfl ⟨⟨by omega,by omega⟩,⟨⟨by omega,by omega⟩,Qu9⟩,trivial⟩ (.call Tryz.func215 rfl (X0 (.of rfl) X4) rfl (X7z _ _) ?_))))
 rintro _ _ ⟨rfl,rfl⟩
 refine .q 1 rfl (.nil (.seq (.region (.run 4 rfl ⟨⟨by omega,by omega⟩,⟨⟨by omega,by omega⟩,Qu9⟩,trivial⟩ (.call Tryz.func215 rfl (X0 (.of rfl) X4) rfl (X7z _ _) ?_)))))
 rintro _ _ ⟨rfl,rfl⟩
 refine .q 1 rfl (.nil (.seq (.seq (.t 3 rfl (.gval rfl rfl (fun hg1=>(.move (.of rfl))) rfl (.gval rfl rfl (fun hg1=>(.lss (.gd hg1 rfl) (.of rfl))) rfl (.val (.por (.of rfl) (.of rfl) (.of rfl)) rfl (.nil ?_))))))))
 refine WC.cond rfl (fun hb27=>?_) (fun hb27=>?_)
 ·
  have hc27:=hb27; try simp only [Y6] at hc27
  refine .seq (.q 1 rfl (.ret (X9 Xrj rfl ?_)))
  exact ⟨_,rfl,by rw [if_neg (by omega),if_pos hc27],rfl⟩
 have hc27:=hb27; try simp only [Y6] at hc27
 refine .skip (.seq ?_)
 have hr1:=X1y (at_ s (i+1))
 have hr2:=X1y (at_ s (i+2))
 refine .region (.run 5 rfl ⟨⟨by omega,by omega⟩,⟨by omega,by omega⟩,trivial⟩ (.nil (.ret (X9 Xrj rfl ?_))))
 exact ⟨_,rfl,by rw [if_neg (by omega),if_neg (by omega)],rfl⟩
theorem Xrp (s:List UInt8) (i:Nat):(if (s.length:Int)≤(i:Int)+2 then (-1:Int) else if X37 (at_ s ((i:Int)+1))<0∨X37 (at_ s ((i:Int)+2))<0 then -1 else 16*X37 (at_ s ((i:Int)+1))+X37 (at_ s ((i:Int)+2)))=match told (s.drop (i+1)) with | none=>-1 | some v=>(v.toNat:Int):=by
 by_cases h:s.length≤i+2
 ·rw [if_pos (by omega)]
  have:told (s.drop (i+1))=none:=by
   have hl:(s.drop (i+1)).length≤1:=by rw [Yn]; omega
   match s.drop (i+1),hl with
   | [],_=>rfl
   | [_],_=>rfl
  rw [this]
 ·rw [if_neg (by omega)]
  have e1:s.drop (i+1)=at_ s ((i:Int)+1)::at_ s ((i:Int)+2)::s.drop (i+3):=by
   rw [Xc s (show i+1<s.length by omega),Xc s (show i+1+1<s.length by omega)]
   rfl
  rw [e1]
  simp only [told]
  split
  ·rfl
  ·rename_i hn
   have hn1:=X1y (at_ s ((i:Int)+1))
   have hn2:=X1y (at_ s ((i:Int)+2))
   exact (X7v _ _ (by omega) (by omega)).symm
set_option maxHeartbeats 400000 in
theorem Xbl (s:List UInt8) (hl:s.length≤1000000) (B w:World) (I:Im) (As:List X8) (hS:Sat B w I As) :
  Calls Tryz.prog 157 [S s].toArray w (Ret fun v w'=>v=(match X57 s with | none=>.tuple #[S [],I64 11] | some t=>.tuple #[S t,I64 0])∧Sat B w' I As):=by
 refine calls Tryz.func157 rfl Tryz.ntmps157 rfl (.seq (.q 2 rfl (.seq (.q 1 rfl (.seq (.seq (.q 1 rfl (.block (.loop (σ:=List UInt8×Nat) (fun ⟨out,i⟩=>[(0,S s),(4,S out),(5,I64 (i:Nat))]) (fun ⟨out,i⟩ w=>i≤s.length∧out.length+(s.length - i)*3≤s.length*3∧X57 s=(X57 (s.drop i)).map (out ++ ·)∧Sat B w I As) (fun ⟨out,i⟩=>s.length - i) ([],0) ⟨rfl,rfl,rfl,trivial⟩ ⟨Yp _,by simp,by simp,hS⟩ ?_)))))))))
 rintro ⟨out,i⟩ w ⟨hi,hol,hno,hS⟩
 refine .seq (.seq (.region (.run 4 rfl ⟨Qu9,trivial⟩ (.nil ?_))))
 refine WC.cond rfl (fun hb11=>?_) (fun hb11=>?_)
 ·
  have hc11:=hb11; try simp only [Y6] at hc11
  refine .skip (.seq (.block (.seq (.seq (.region (.run 4 rfl ⟨⟨⟨by omega,by omega⟩,Qu9⟩,trivial⟩ (.nil ?_)))))))
  refine WC.cond rfl (fun hb17=>?_) (fun hb17=>?_)
  ·
   have hc17:=hb17; try simp only [Y6] at hc17
   refine .seq (.region (.run 5 rfl ⟨⟨by omega,by omega⟩,trivial⟩ (.val (.sub3 (l:=s) (i:=(i:Int)) (j:=(i:Int)+1) (.of rfl) (.of rfl) (.of rfl) (by omega) (by omega) (by omega) Qu9) rfl ?_)))
   rw [show (s.drop (i:Int).toNat).take (((i:Int)+1).toNat - (i:Int).toNat)=[at_ s (i:Int)] by rw [Yi,show ((i:Int)+1).toNat - i=1 by omega,Xc s (by omega)]; rfl]
   refine WL.val (.cat (.of rfl) (.of rfl) (by simp only [Y8,Yk]; omega)) rfl (.q 1 rfl (.nil (.exit (.region (.run 3 rfl ⟨⟨by omega,by omega⟩,trivial⟩ (.nil ?_))))))
   have e37:at_ s (i:Int)≠37:=fun e=>by rw [e] at hb17; simp at hb17
   refine ⟨(out ++ [at_ s (i:Int)],i+1),⟨rfl,rfl,rfl,trivial⟩,⟨by (try dsimp only); omega,by (try dsimp only); rw [Y0]; simp only [Y8,Yk]; omega,?_,hS⟩,by (try dsimp only); omega⟩
   rw [hno,Xc s (by omega),X2m,if_neg e37]
   cases X57 (s.drop (i+1)) <;> simp
  have hc17:=hb17; try simp only [Y6] at hc17
  refine .skip (.seq (.t 2 rfl (.call Tryz.func190 rfl (X0 (.of rfl) (X0 (.of rfl) X4)) rfl (Xet s (i:Int) (by omega) (by omega) _) ?_)))
  rintro _ _ ⟨rfl,rfl⟩
  rw [Xrp]
  refine .q 1 rfl (.nil (.seq (.seq (.q 2 rfl ?_))))
  refine WC.cond rfl (fun hb29=>?_) (fun hb29=>?_)
  ·
   have hc29:=hb29; try simp only [Y6] at hc29
   refine .seq (.q 2 rfl (.ret (X1m Tryz.results157 rfl rfl ?_)))
   refine ⟨_,rfl,?_,hS⟩
   have e37:at_ s (i:Int)=37:=Y16.1 (by simp only [bne_eq_false_iff_eq] at hb17; show (at_ s (i:Int)).toNat=37; omega)
   have ht:told (s.drop (i+1))=none:=by
    cases ht:told (s.drop (i+1)) with
    | none=>rfl
    | some v=>rw [ht] at hc29; simp at hc29; omega
   have:X57 s=none:=by rw [hno,Xc s (by omega),X2m,if_pos e37,ht]; rfl
   rw [this]
  have hc29:=hb29; try simp only [Y6] at hc29
  refine .skip (.seq ?_)
  have e37:at_ s (i:Int)=37:=Y16.1 (by simp only [bne_eq_false_iff_eq] at hb17; show (at_ s (i:Int)).toNat=37; omega)
  obtain ⟨v,hv⟩:∃ v,told (s.drop (i+1))=some v:=by
   cases ht:told (s.drop (i+1)) with
   | some v=>exact ⟨v,rfl⟩
   | none=>rw [ht] at hc29; simp at hc29
  rw [hv]
  try dsimp only
  have hvl:=X6g hv
  rw [Yn] at hvl
  have hv8:=v.toNat_lt
  refine .t 1 rfl (WL.val (.cvi (.of rfl) Qu3 Qu5 (by rw [IntKind.wrap_u8]; omega)) rfl (.call Tryz.func191 rfl (X0 (.of rfl) X4) rfl (Xdr v _) ?_))
  rintro _ _ ⟨rfl,rfl⟩
  refine .q 1 rfl (.nil (.seq (.seq (.q 1 rfl ?_))))
  refine WC.cond rfl (fun hb33=>?_) (fun hb33=>?_)
  ·
   have hc33:=hb33; try simp only [Y6] at hc33
   have hpl:plain v=true:=hb33
   refine .t 2 rfl (WL.val (.cvi (.of rfl) Qu3 Qu5 (by rw [IntKind.wrap_u8]; omega)) rfl (.buildSlice (cs:=[_]) hS (X5 (.of rfl) X6) X27 Qs5 Qz5 rfl rfl rfl rfl ?_))
   clear hS; intro b37 w hS
   refine .val (.str1 (c:=v) (.of rfl) hS (k:=0) rfl rfl X27 Qu5 Qu9) rfl ?_
   replace hS:=hS.drop (k:=0) rfl
   refine WL.val (.cat (.of rfl) (.of rfl) (by simp only [Y8,Yk]; omega)) rfl (.q 1 rfl (.nil (.region (.run 3 rfl ⟨⟨by omega,by omega⟩,trivial⟩ (.nil (.region (.run 3 rfl ⟨⟨by omega,by omega⟩,trivial⟩ (.nil ?_))))))))
   refine ⟨(out ++ one v,i+3),⟨rfl,by rw [one,if_pos hpl]; rfl,rfl,trivial⟩,⟨by (try dsimp only); omega,by (try dsimp only); rw [Y0]; have:(one v).length≤3:=(by unfold one; split <;> simp [Xh2]); omega,?_,hS⟩,by (try dsimp only); omega⟩
   rw [hno,Xc s (by omega),X2m,if_pos e37,hv]
   simp only [Y1i]
   cases X57 (s.drop (i+3)) <;> simp [Ye,Y3c]
  have hc33:=hb33; try simp only [Y6] at hc33
  have hpl:plain v=false:=hb33
  refine .t 2 rfl (WL.val (.cvi (.of rfl) Qu3 Qu5 (by rw [IntKind.wrap_u8]; omega)) rfl (.call Tryz.func192 rfl (X0 (.of rfl) X4) rfl (Xa9 v B w I _ hS) ?_))
  clear hS
  rintro _ w ⟨rfl,hS⟩
  refine WL.val (.cat (.of rfl) (.of rfl) (by simp only [Xh2,Y8,Yk]; omega)) rfl (.q 1 rfl (.nil (.region (.run 3 rfl ⟨⟨by omega,by omega⟩,trivial⟩ (.nil (.region (.run 3 rfl ⟨⟨by omega,by omega⟩,trivial⟩ (.nil ?_))))))))
  refine ⟨(out ++ one v,i+3),⟨rfl,by rw [one,if_neg (by rw [hpl]; simp)]; rfl,rfl,trivial⟩,⟨by (try dsimp only); omega,by (try dsimp only); rw [Y0]; have:(one v).length≤3:=(by unfold one; split <;> simp [Xh2]); omega,?_,hS⟩,by (try dsimp only); omega⟩
  rw [hno,Xc s (by omega),X2m,if_pos e37,hv]
  simp only [Y1i]
  cases X57 (s.drop (i+3)) <;> simp [Ye,Y3c]
 have hc11:=hb11; try simp only [Y6] at hc11
 refine .exit (.seq (.q 3 rfl (.ret (X1m Tryz.results157 rfl rfl ?_))))
 refine ⟨_,rfl,?_,hS⟩
 have:X57 s=some out:=by rw [hno,Y13 (by omega),Xc6]; simp
 rw [this]
end Go.Proofs.YtadhiihnnkcagaaGreatDoor
namespace Go.Proofs.YtadhiihnnkcagaaGreatDoor
open Gk Pc
theorem Xdq:Tryz.prog.info? 5=some Tryz.t5:=by kernel_rfl
theorem X5r:Tryz.prog.info? 271=some Tryz.t271:=by kernel_rfl
def DigAt (I:Im):Prop:=At I (ad 3 0) (bcs HIGH)
theorem DigAt.mono {I J:Im} (h:DigAt I) (hl:Le I J):DigAt J:=At.mono h hl
theorem Xja (c:UInt8):((((((decide (97≤(c.toNat:Int)) && decide ((c.toNat:Int)≤122)) || (decide (65≤(c.toNat:Int)) && decide ((c.toNat:Int)≤90))) || (decide (48≤(c.toNat:Int)) && decide ((c.toNat:Int)≤57))) || ((c.toNat:Int) == 45)) || ((c.toNat:Int) == 46)) || ((c.toNat:Int) == 95) || ((c.toNat:Int) == 126))=plain c :=
 eq_of_beq (Xx (p:=fun c=>((((((decide (97≤(c.toNat:Int)) && decide ((c.toNat:Int)≤122)) || (decide (65≤(c.toNat:Int)) && decide ((c.toNat:Int)≤90))) || (decide (48≤(c.toNat:Int)) && decide ((c.toNat:Int)≤57))) || ((c.toNat:Int) == 45)) || ((c.toNat:Int) == 46)) || ((c.toNat:Int) == 95) || ((c.toNat:Int) == 126)) == plain c) (by decide +kernel) c)
theorem Xiu {n:Nat} (h:n<16):(bcs HIGH)[n]?=some (U8 (hexd n).toNat):=by
 have:∀ n:Fin 16,HIGH[n.val]?=some (hexd n.val):=by decide +kernel
 rw [Yy,this ⟨n,h⟩]; rfl
theorem shr4 (c:UInt8):((c.toNat:Int) / 2 ^ (4:Int).toNat)=((c.toNat / 16:Nat):Int):=by
 show (c.toNat:Int) / 16=_
 omega
theorem and15 (c:UInt8):bits .and .u8 (c.toNat:Int) 15=((c.toNat % 16:Nat):Int) :=
 eq_of_beq (Xx (p:=fun c=>bits .and .u8 (c.toNat:Int) 15 == ((c.toNat % 16:Nat):Int)) (by decide +kernel) c)
theorem Xdc (c:UInt8) (w:World) :
  Calls Tryz.prog 183 [U8 c.toNat].toArray w (Ret fun v w'=>v=.bool (plain c)∧w=w'):=by
 refine calls Tryz.func183 rfl Tryz.ntmps183 rfl (.seq (.q 1 rfl (.seq (.t 3 rfl (.gval rfl rfl (fun hg1=>(.move (.of rfl))) rfl (.gval rfl rfl (fun hg1=>(.leq (.gd hg1 rfl) (.of rfl))) rfl (.val (.pand (.of rfl) (.of rfl) (.of rfl)) rfl (.q 1 rfl (.gval rfl rfl (fun hg1=>(.move (.of rfl))) rfl (.gval rfl rfl (fun hg1=>(.geq (.gd hg1 rfl) (.of rfl))) rfl (.gval rfl rfl (fun hg1=>(.move (.gd hg1 rfl))) rfl (.gval2 rfl rfl rfl (fun hg1 hg2=>(.move (.of rfl))) rfl (.gval2 rfl rfl rfl (fun hg1 hg2=>(.leq (.gd2 hg1 hg2 rfl) (.of rfl))) rfl (.gval rfl rfl (fun hg1=>(.pand (.gd hg1 rfl) (.gd hg1 rfl) (.of rfl))) rfl (.val (.por (.of rfl) (.of rfl) (.of rfl)) rfl (.q 1 rfl (.gval rfl rfl (fun hg1=>(.move (.of rfl))) rfl (.gval rfl rfl (fun hg1=>(.geq (.gd hg1 rfl) (.of rfl))) rfl (.gval rfl rfl (fun hg1=>(.move (.gd hg1 rfl))) rfl (.gval2 rfl rfl rfl (fun hg1 hg2=>(.move (.of rfl))) rfl (.gval2 rfl rfl rfl (fun hg1 hg2=>(.leq (.gd2 hg1 hg2 rfl) (.of rfl))) rfl (.gval rfl rfl (fun hg1=>(.pand (.gd hg1 rfl) (.gd hg1 rfl) (.of rfl))) rfl (.val (.por (.of rfl) (.of rfl) (.of rfl)) rfl (.q 1 rfl (.gval rfl rfl (fun hg1=>(.move (.of rfl))) rfl (.gval rfl rfl (fun hg1=>(.eql (.gd hg1 rfl) (.of rfl))) rfl (.val (.por (.of rfl) (.of rfl) (.of rfl)) rfl (.q 1 rfl (.gval rfl rfl (fun hg1=>(.move (.of rfl))) rfl (.gval rfl rfl (fun hg1=>(.eql (.gd hg1 rfl) (.of rfl))) rfl (.val (.por (.of rfl) (.of rfl) (.of rfl)) rfl (.q 1 rfl (.gval rfl rfl (fun hg1=>(.move (.of rfl))) rfl (.gval rfl rfl (fun hg1=>(.eql (.gd hg1 rfl) (.of rfl))) rfl (.val (.por (.of rfl) (.of rfl) (.of rfl)) rfl (.q 1 rfl (.gval rfl rfl (fun hg1=>(.move (.of rfl))) rfl (.gval rfl rfl (fun hg1=>(.eql (.gd hg1 rfl) (.of rfl))) rfl (.val (.por (.of rfl) (.of rfl) (.of rfl)) rfl (.q 1 rfl (.nil (.ret (X9 Tryz.results183 rfl ?_)))))))))))))))))))))))))))))))))))))))))))
 exact ⟨_,rfl,congrArg Value.bool (Xja c),rfl⟩
theorem Xeq (c:UInt8) (B w:World) (I:Im) (hd:DigAt I) (As:List X8) (hS:Sat B w I As) :
  Calls Tryz.prog 212 [U8 c.toNat].toArray w (Ret fun v w'=>v=S (Xh2 c)∧Sat B w' I As):=by
 refine calls Tryz.func212 rfl Tryz.ntmps212 rfl (.seq (.q 1 rfl (.seq ?_)))
 have h16:c.toNat / 16<16:=by have:=c.toNat_lt; omega
 have h15:c.toNat % 16<16:=by omega
 refine .tail 8 (by kernel_rfl) (by kernel_rfl) ?_
 replace hS:=hS.drew; generalize w.drew=w at hS ⊢
 refine .val (.move (.of rfl)) rfl (.val (.shr (.of rfl) (.of rfl) (by decide) (by decide)) rfl ?_)
 rw [shr4 c]
 refine .val (.arrAddrI (i:=((c.toNat / 16:Nat):Int)) (.of rfl) (.of rfl) (by omega) (by omega) Xo9 Qs5) rfl ?_
 refine WT.val (.ldI (.of rfl) hS (hd.add _) Qg5 (by rw [Y1g,Y2h,Y1k,Yi]; exact Xiu (n:=c.toNat / 16) h16)) rfl ?_
 refine .val (.move (.of rfl)) rfl (.val (.ibits (.inl rfl) (.of rfl) (.of rfl)) rfl ?_)
 rw [and15 c]
 refine .val (.arrAddrI (i:=((c.toNat % 16:Nat):Int)) (.of rfl) (.of rfl) (by omega) (by omega) Xo9 Qs5) rfl ?_
 refine WT.val (.ldI (.of rfl) hS (hd.add _) Qg5 (by rw [Y1g,Y2h,Y1k,Yi]; exact Xiu (n:=c.toNat % 16) h15)) rfl ?_
 refine .nil ?_
 show WL _ _ _ _ _ _ _
 refine .buildSlice (cs:=[_,_,_]) hS (X5 (.of rfl) (X5 (.of rfl) (X5 (.of rfl) X6))) X27 Qs5 Qz5 rfl rfl rfl rfl ?_
 clear hS; intro b11 w hS
 refine WL.val (.bytesStr (l:=Xh2 c) (b:=b11) (o:=0) (cap:=3) (.of rfl) hS (k:=0) rfl X27 Qu5 Qu9 (fun j hj=>by
  have hj3:j<3:=hj
  match j,hj3 with
  | 0,_=>rfl
  | 1,_=>rfl
  | 2,_=>rfl)) rfl ?_
 refine .q 1 rfl (.nil (.ret (X9 Tryz.results212 rfl ?_)))
 exact ⟨_,rfl,rfl,hS.drop (k:=0) rfl⟩
def upB (c:UInt8):UInt8:=if 97≤c && c≤102 then c - 32 else c
theorem up_low {c:UInt8} (h:97≤c.toNat∧c.toNat≤102):(c.toNat:Int) - 32=((upB c).toNat:Int):=by
 have:=Xx (p:=fun c=>!(decide (97≤c.toNat∧c.toNat≤102)) || (c.toNat:Int) - 32 == ((upB c).toNat:Int)) (by decide +kernel) c
 simpa [h] using this
theorem up_not {c:UInt8} (h:¬ (97≤c.toNat∧c.toNat≤102)):upB c=c:=by
 have:=Xx (p:=fun c=>decide (97≤c.toNat∧c.toNat≤102) || upB c == c) (by decide +kernel) c
 simpa [h] using this
theorem up_hit {c:UInt8} {i:Nat} (h:i<16) (he:upB c=HIGH.getD i 0):X37 c=(i:Int):=by
 have:=Xx (p:=fun c=>(List.range 16).all fun i=>!(upB c == HIGH.getD i 0) || X37 c == (i:Int)) (by decide +kernel) c
 have:=Y1a.1 this i (Y3h.2 h)
 simpa [he] using this
theorem Xsc {c:UInt8} (h:∀ i,i<16→HIGH.getD i 0≠upB c):X37 c=-1:=by
 have:=Xx (p:=fun c=>(List.range 16).any (fun i=>HIGH.getD i 0 == upB c) || X37 c == -1) (by decide +kernel) c
 simp only [Y1j,beq_iff_eq] at this
 rcases this with h1 | h1
 ·obtain ⟨i,hi,h2⟩:=Y2l.1 h1
  simp only [beq_iff_eq] at h2
  exact absurd h2 (h i (Y3h.1 hi))
 ·exact h1
theorem Xdf (c:UInt8) (B w:World) (I:Im) (hd:DigAt I) (As:List X8) (hS:Sat B w I As) :
  Calls Tryz.prog 235 [U8 c.toNat].toArray w (Ret fun v w'=>v=I64 (X37 c)∧Sat B w' I As):=by
 refine calls Tryz.func235 rfl Tryz.ntmps235 rfl (.seq (.q 1 rfl ?_))
 refine WC.cutS (σ:=UInt8) (fun u=>[(0,U8 u.toNat)]) (fun u w=>u=upB c∧Sat B w I As) ?_ ?_
 ·
  refine .seq (.t 3 rfl (.gval rfl rfl (fun hg1=>(.move (.of rfl))) rfl (.gval rfl rfl (fun hg1=>(.leq (.gd hg1 rfl) (.of rfl))) rfl (.val (.pand (.of rfl) (.of rfl) (.of rfl)) rfl (.nil ?_)))))
  refine WC.cond rfl (fun hb10=>?_) (fun hb10=>?_)
  ·
   refine .t 1 rfl ?_
   refine WL.val (.subx (.of rfl) (.of rfl) (by rw [IntKind.wrap_u8]; simp only [Yq,decide_eq_true_eq] at hb10; omega)) rfl ?_
   refine .q 1 rfl (.nil ?_)
   refine ⟨upB c,⟨?_,trivial⟩,rfl,hS⟩
   have h97:97≤c.toNat∧c.toNat≤102:=by simp only [Yq,decide_eq_true_eq] at hb10; omega
   show some (Value.int .u8 ((c.toNat:Int) - 32))=some (U8 ((upB c).toNat:Int))
   rw [up_low h97]
  refine .skip (⟨upB c,⟨?_,trivial⟩,rfl,hS⟩)
  have h97:¬ (97≤c.toNat∧c.toNat≤102):=by simp only [Y2k,decide_eq_false_iff_not] at hb10; omega
  show some (U8 (c.toNat:Int))=some (U8 ((upB c).toNat:Int))
  rw [up_not h97]
 rintro u w ⟨hu,hS⟩
 refine .seq (.seq (.region (.val (.ldsI (us:=bcs HIGH) (.of rfl) hS hd Tryz.isAgg279 Tryz.sizeOf279 rfl (fun _ _ h=>h)) rfl (.q 1 rfl (.nil (.block (.loop (σ:=Nat) (fun i=>[(0,U8 u.toNat),(13,.agg (bcs HIGH).toArray),(14,I64 (i:Nat))]) (fun i w=>i≤16∧(∀ j,j<i→HIGH.getD j 0≠u)∧Sat B w I As) (fun i=>16 - i) 0 ⟨rfl,rfl,rfl,trivial⟩ ⟨by decide,fun _ h=>absurd h (by omega),hS⟩ ?_)))))))
 rintro i w ⟨hi,hno,hS⟩
 refine .seq (.q 1 rfl (.seq ?_))
 refine WC.cond rfl (fun hb15=>?_) (fun hb15=>?_)
 ·
  have hc15:=hb15; try simp only [Y6] at hc15
  refine .skip (.seq (.block (.seq (.t 1 rfl ?_))))
  refine WL.val (.indexArr (vs:=bcs HIGH) (v:=U8 (HIGH.getD i 0).toNat) (.of rfl) (.of rfl) (by omega) (by omega) Xo9 Qs5 Qg5 (by rw [Yy,Yi,Y7,Y4 (show i<HIGH.length by have:HIGH.length=16:=rfl; omega)]; rfl)) rfl ?_
  refine .q 2 rfl (.nil (.seq (.q 3 rfl ?_)))
  refine WC.cond rfl (fun hb20=>?_) (fun hb20=>?_)
  ·
   have hc20:=hb20; try simp only [Y6] at hc20
   refine .seq (.q 2 rfl (.ret (X9 Tryz.results235 rfl ?_)))
   refine ⟨_,rfl,?_,hS⟩
   simp only [beq_iff_eq] at hb20
   rw [hu] at hb20
   rw [up_hit (c:=c) (i:=i) (by omega) (Y16.1 (by omega))]
  have hc20:=hb20; try simp only [Y6] at hc20
  refine .skip (.region (.run 2 rfl ⟨⟨by omega,by omega⟩,trivial⟩ (.nil ?_)))
  refine ⟨i+1,⟨rfl,rfl,rfl,trivial⟩,⟨by omega,fun j hj=>?_,hS⟩,by omega⟩
  rcases Yr j i with h1 | h1
  ·exact hno j h1
  ·have e:j=i:=by omega
   subst e
   simp only [beq_eq_false_iff_ne] at hb20
   exact fun e=>hb20 (by rw [e])
 have hc15:=hb15; try simp only [Y6] at hc15
 refine .exit (.seq (.q 1 rfl (.ret (X9 Tryz.results235 rfl ?_))))
 refine ⟨_,rfl,?_,hS⟩
 rw [hu] at hno
 rw [Xsc (c:=c) (fun j hj=>hno j (by omega))]
def tval (a b:Int):Int:=IntKind.u8.wrap (bits .or .i64 (IntKind.i64.wrap (a*2 ^ (4:Int).toNat)) (bits .and .i64 b 15))
theorem Xl4 (a b:UInt8) (ha:0≤X37 a) (hb:0≤X37 b):tval (X37 a) (X37 b)=((Pc.byteOf a b).toNat:Int):=by
 rw [X7v a b ha hb]
 have h1:=X1y a
 have h2:=X1y b
 have h:∀ x y:Fin 16,tval (x.val:Int) (y.val:Int)=16*(x.val:Int)+(y.val:Int):=by decide +kernel
 have:=h ⟨(X37 a).toNat,by omega⟩ ⟨(X37 b).toNat,by omega⟩
 simp only [Y4a ha,Y4a hb] at this
 exact this
theorem Xnf (s:List UInt8) (i:Int) (h0:0≤i) (h1:i≤9223372036854775800) (B w:World) (I:Im) (hd:DigAt I) (As:List X8) (hS:Sat B w I As) :
  Calls Tryz.prog 226 [S s,I64 i].toArray w (Ret fun v w'=>v=(if (s.length:Int)≤i+2 then .tuple #[.int .u8 0,.bool false] else .tuple #[.int .u8 (tval (X37 (at_ s (i+1))) (X37 (at_ s (i+2)))),.bool (decide (0≤X37 (at_ s (i+1))) && decide (0≤X37 (at_ s (i+2))))])∧Sat B w' I As):=by
 refine calls Tryz.func226 rfl Tryz.ntmps226 rfl (.seq (.q 2 rfl (.seq (.seq (.region (.run 5 rfl ⟨⟨by omega,by omega⟩,Qu9,trivial⟩ (.nil ?_)))))))
 refine WC.cond rfl (fun hb12=>?_) (fun hb12=>?_)
 ·
  have hc12:=hb12; try simp only [Y6] at hc12
  refine .seq (.q 2 rfl (.ret (X1m Tryz.results226 rfl rfl ?_)))
  exact ⟨_,rfl,by rw [if_pos hc12],hS⟩
 have hc12:=hb12; try simp only [Y6] at hc12
 refine .skip (.seq (.quiet (by kernel_rfl) (by kernel_rfl) hS (.val (fun w hS=>(.move (.of rfl))) rfl (.val (fun w hS=>(.move (.of rfl))) rfl (.val (fun w hS=>(.add (.of rfl) (.of rfl) ⟨by omega,by omega⟩)) rfl (.val (fun w hS=>(.index (.of rfl) (.of rfl) (by omega) (by omega) Qu9)) rfl (.call Tryz.func235 rfl (X0 (.of rfl) X4) rfl (fun w hS=>Xdf (at_ s (i+1)) B w I hd _ hS) (.val (fun w hS=>(.move (.of rfl))) rfl (.val (fun w hS=>(.move (.of rfl))) rfl (.val (fun w hS=>(.add (.of rfl) (.of rfl) ⟨by omega,by omega⟩)) rfl (.val (fun w hS=>(.index (.of rfl) (.of rfl) (by omega) (by omega) Qu9)) rfl (.call Tryz.func235 rfl (X0 (.of rfl) X4) rfl (fun w hS=>Xdf (at_ s (i+2)) B w I hd _ hS) (.val (fun w hS=>(.assign (.of rfl))) rfl (.val (fun w hS=>(.assign (.of rfl))) rfl (.nil ?_)))))))))))))))
 clear hS; intro w hS
 refine .seq (.t 1 rfl (.val (.shl (.of rfl) (.of rfl) (by decide) (by decide)) rfl (.q 1 rfl (.val (.ibits (.inl rfl) (.of rfl) (.of rfl)) rfl (.val (.ibits (.inr (.inl rfl)) (.of rfl) (.of rfl)) rfl (.val (.cvw (.of rfl) Qu3 Qu5) rfl (.q 3 rfl (.gval rfl rfl (fun hg1=>(.move (.of rfl))) rfl (.gval rfl rfl (fun hg1=>(.geq (.gd hg1 rfl) (.of rfl))) rfl (.val (.pand (.of rfl) (.of rfl) (.of rfl)) rfl (.q 2 rfl (.nil (.ret (X1m Tryz.results226 rfl rfl ?_))))))))))))))
 exact ⟨_,rfl,by rw [if_neg (by omega)]; rfl,hS⟩
theorem X8u (c:UInt8) (b:Bool) (B w:World) (I:Im) (hd:DigAt I) (As:List X8) (hS:Sat B w I As) :
  Calls Tryz.prog 211 [U8 c.toNat,.bool b].toArray w (Ret fun v w'=>v=S (if (b && !plain c)=true then Xh2 c else [c])∧Sat B w' I As):=by
 refine calls Tryz.func211 rfl Tryz.ntmps211 rfl (.seq (.q 1 rfl (.seq (.seq (.t 2 rfl (.gval rfl rfl (fun hg1=>(.move (.of rfl))) rfl (.gcall (T:=fun w=>Sat B w I As) rfl rfl rfl Tryz.func183 rfl (fun hg1=>(X0 (.gd hg1 rfl) X4)) rfl (fun hg1=>X20 (Xdc c w) hS) hS ?_)))))))
 clear hS; rintro w hS
 refine .gval rfl rfl (fun hg1=>(.not (.gd hg1 rfl))) rfl (.val (.pand (.of rfl) (.of rfl) (.of rfl)) rfl (.nil ?_))
 refine WC.cond rfl (fun hb10=>?_) (fun hb10=>?_)
 ·
  refine .seq (.t 1 rfl (.call Tryz.func212 rfl (X0 (.of rfl) X4) rfl (Xeq c B w I hd _ hS) ?_))
  clear hS
  rintro _ w ⟨rfl,hS⟩
  refine .q 1 rfl (.nil (.ret (X9 Tryz.results211 rfl ?_)))
  exact ⟨_,rfl,by rw [if_pos hb10],hS⟩
 refine .skip (.seq (.t 1 rfl (.buildSlice (cs:=[_]) hS (X5 (.of rfl) X6) X27 Qs5 Qz5 rfl rfl rfl rfl ?_)))
 clear hS; intro b14 w hS
 refine .val (.str1 (c:=c) (.of rfl) hS (k:=0) rfl rfl X27 Qu5 Qu9) rfl (.q 1 rfl (.nil (.ret (X9 Tryz.results211 rfl ?_))))
 exact ⟨_,rfl,by rw [if_neg (by rw [hb10]; simp)],hS.drop (k:=0) rfl⟩
theorem Xbo (bb:Nat) (p v:Value) (hp:p=.pointer none∨p=ptr bb 0) (B w:World) (I:Im) (F:List X8) (hS:Sat B w I (blk bb [p,v] 271::F)) :
  Calls Tryz.prog 234 [ptr bb 0].toArray w (Ret fun u w'=>u=.tuple #[]∧Sat B w' I (blk bb [ptr bb 0,v] 271::F)):=by
 rcases hp with rfl | rfl
 ·
  refine calls Tryz.func234 rfl Tryz.ntmps234 rfl (.seq (.t 2 rfl (.val (.fieldAddr 0 (.of rfl) Xa0 rfl rfl Xkk rfl) rfl (.val (.ld (.of rfl) hS (k:=0) rfl Tryz.isAgg269 rfl) rfl (.val (.eqp (.of rfl) (.of rfl) Xis) rfl (.nil (.condT (rfl) (.t 2 rfl (.val (.toUnsafe (.of rfl) hS (k:=0) rfl Xis Tryz.underlying293 X5r (by decide) (by simp)) rfl (.val (.extern Tryz.func244 (by kernel_rfl) (by kernel_rfl) (by kernel_rfl) (e:=Extern.AbiNoEscape.same) (by kernel_rfl) (X0 (.of rfl) X4) (Go.Lib.run_noEscape w _)) rfl (.val (.fromUnsafe (.of rfl) hS (k:=0) rfl Tryz.underlying293 Xis X5r (by kernel_rfl)) rfl (.q 1 rfl (.val (.fieldAddr 0 (.of rfl) Xa0 rfl rfl Xkk rfl) rfl (.st1 hS (k:=0) rfl (.of rfl) (.of rfl) rfl Xkk (by simp) ?_))))))))))))))
  clear hS; intro w hS
  refine .nil (X8g Tryz.results234 ?_)
  exact ⟨_,rfl,rfl,hS⟩
 ·
  refine calls Tryz.func234 rfl Tryz.ntmps234 rfl (.seq (.t 2 rfl (.val (.fieldAddr 0 (.of rfl) Xa0 rfl rfl Xkk rfl) rfl (.val (.ld (.of rfl) hS (k:=0) rfl Tryz.isAgg269 rfl) rfl (.val (.eqp (.of rfl) (.of rfl) Xis) rfl (.nil (.condF (rfl) (.seq (.t 2 rfl (.val (.fieldAddr 0 (.of rfl) Xa0 rfl rfl Xkk rfl) rfl (.val (.ld (.of rfl) hS (k:=0) rfl Tryz.isAgg269 rfl) rfl (.q 1 rfl (.val (.nepSame (.of rfl) (.of rfl) Xis X5r trivial) rfl (.nil (.condF (rfl) (.skip (X8g Tryz.results234 ?_)))))))))))))))))
  exact ⟨_,rfl,rfl,hS⟩
theorem X4q (bb:Nat) (p v:Value) (l s:List UInt8) (hp:p=.pointer none∨p=ptr bb 0) (B w:World) (I:Im) (F:List X8) (hS:Sat B w I (blk bb [p,v] 271::Vec 5 1 v l.length (bcs l)::F)) (hl:l.length+s.length≤140737488000000) :
  Calls Tryz.prog 225 [ptr bb 0,S s].toArray w (Ret fun u w'=>u=.tuple #[I64 s.length,.nilIface]∧∃ v',Sat B w' I (blk bb [ptr bb 0,v'] 271::Vec 5 1 v' (l ++ s).length (bcs (l ++ s))::F)):=by
 refine calls Tryz.func225 rfl Tryz.ntmps225 rfl (.seq (.q 2 rfl (.seq (.t 1 rfl (.call Tryz.func234 rfl (X0 (.of rfl) X4) rfl (Xbo bb p v hp B w I _ hS) ?_)))))
 clear hS
 rintro _ w ⟨rfl,hS⟩
 refine .nil (.seq ?_)
 obtain ⟨va,vc,rfl,hvc,_⟩:=hS.vecSlice (k:=1) rfl
 refine .t 3 rfl (.val (.fieldAddr 1 (.of rfl) Xa0 rfl rfl Xds rfl) rfl (.val (.ld (.of rfl) hS (k:=0) rfl Xi4 rfl) rfl (.q 1 rfl (.appendStr hS (.of rfl) (.of rfl) (k:=1) rfl X27 Qu9 Xdq rfl rfl rfl (by omega) rfl ?_))))
 clear hS; intro v14 w hS; dsimp only [List.set] at hS
 obtain ⟨a14,c14,rfl,hcap14,_⟩:=hS.vecSlice (k:=1) (v:=v14) rfl
 refine .q 1 rfl (.val (.fieldAddr 1 (.of rfl) Xa0 rfl rfl Xds rfl) rfl (.st1 hS (k:=0) rfl (.of rfl) (.of rfl) rfl Xds (by simp) ?_))
 clear hS; intro w hS
 refine .nil (.seq (.region (.run 4 rfl ⟨Qu9,trivial⟩ (.nil (.ret (X1m Tryz.results225 rfl rfl ?_))))))
 exact ⟨_,rfl,rfl,_,by simpa using hS⟩
set_option maxRecDepth 8000 in
theorem Xi0 (bb:Nat) (p v:Value) (l:List UInt8) (hv:l=[]→v=.slice none 0 0) (B w:World) (I:Im) (F:List X8) (hS:Sat B w I (blk bb [p,v] 271::Vec 5 1 v l.length (bcs l)::F)) :
  Calls Tryz.prog 227 [ptr bb 0].toArray w (Ret fun u w'=>u=S l∧Sat B w' I F):=by
 by_cases h0:l=[]
 ·obtain rfl:=hv h0
  subst h0
  refine calls Tryz.func227 rfl Tryz.ntmps227 rfl (.seq (.q 1 rfl (.seq (.tail 10 (by kernel_rfl) (by kernel_rfl) ?_))))
  replace hS:=hS.drew; generalize w.drew=w at hS ⊢
  refine .val (.move (.of rfl)) rfl (.val (.nilCheck (.of rfl)) rfl (.val (.fieldAddr 1 (.of rfl) Xa0 rfl rfl Xds rfl) rfl (.val (.ld (.of rfl) hS (k:=0) rfl Xi4 rfl) rfl (.val (.sliceDataNil (.of rfl)) rfl (.val (.move (.of rfl)) rfl (.val (.nilCheck (.of rfl)) rfl (.val (.fieldAddr 1 (.of rfl) Xa0 rfl rfl Xds rfl) rfl (.val (.ld (.of rfl) hS (k:=0) rfl Xi4 rfl) rfl (.val (.lenSlice (.of rfl) X27) rfl (.nil ?_))))))))))
  show WL _ _ _ _ _ _ _
  refine .val (.unsafeStringNone (.of rfl) (.of rfl)) rfl (.q 1 rfl (.nil (.ret (X9 Tryz.results227 rfl ?_))))
  exact ⟨_,rfl,rfl,(hS.drop (k:=0) rfl).drop (k:=0) rfl⟩
 ·have h1:0<l.length:=Y22.2 h0
  obtain ⟨vb,vc,r,rfl,hv1,hv2,hv3,hv4,hT⟩:=hS.vecOpen (k:=1) rfl h1
  clear hS; have hS:=hT; clear hT
  have h63:l.length≤9223372036854775807:=by unfold maxLen at hv2; omega
  refine calls Tryz.func227 rfl Tryz.ntmps227 rfl (.seq (.q 1 rfl (.seq (.tail 10 (by kernel_rfl) (by kernel_rfl) ?_))))
  replace hS:=hS.drew; generalize w.drew=w at hS ⊢
  refine .val (.move (.of rfl)) rfl (.val (.nilCheck (.of rfl)) rfl (.val (.fieldAddr 1 (.of rfl) Xa0 rfl rfl Xds rfl) rfl (.val (.ld (.of rfl) hS (k:=0) rfl Xi4 rfl) rfl (.val (.sliceData (.of rfl) (by omega)) rfl (.val (.move (.of rfl)) rfl (.val (.nilCheck (.of rfl)) rfl (.val (.fieldAddr 1 (.of rfl) Xa0 rfl rfl Xds rfl) rfl (.val (.ld (.of rfl) hS (k:=0) rfl Xi4 rfl) rfl (.val (.lenSlice (.of rfl) X27) rfl (.nil ?_))))))))))
  show WL _ _ _ _ _ _ _
  refine .unsafeString hS (k:=1) rfl (.of rfl) (.of rfl) h0 Tryz.underlying285 (by kernel_rfl) (by omega) rfl ?_
  clear hS; intro w hS
  refine .q 1 rfl (.nil (.ret (X9 Tryz.results227 rfl ?_)))
  exact ⟨_,rfl,rfl,hS.drop (k:=0) rfl⟩
theorem Xlq (c:UInt8) (B w:World) (I:Im) (hd:DigAt I) (As:List X8) (hS:Sat B w I As):Calls Tryz.prog 211 [U8 c.toNat,.bool false].toArray w (Ret fun v w'=>v=S [c]∧Sat B w' I As) :=
 (X8u c false B w I hd As hS).mono fun e w' he=>by
  obtain ⟨v,rfl,rfl,h⟩:=he
  exact ⟨_,rfl,by simp,h⟩
theorem Xji (c:UInt8) (B w:World) (I:Im) (hd:DigAt I) (As:List X8) (hS:Sat B w I As):Calls Tryz.prog 211 [U8 c.toNat,.bool true].toArray w (Ret fun v w'=>v=S (one c)∧Sat B w' I As) :=
 (X8u c true B w I hd As hS).mono fun e w' he=>by
  obtain ⟨v,rfl,rfl,h⟩:=he
  refine ⟨_,rfl,?_,h⟩
  unfold one
  cases plain c <;> rfl
theorem told_e (s:List UInt8) (i:Nat) (h1:i≤9223372036854775800) (B w:World) (I:Im) (hd:DigAt I) (As:List X8) (hS:Sat B w I As):Calls Tryz.prog 226 [S s,I64 (i:Nat)].toArray w (Ret fun v w'=>∃ tv ok,v=.tuple #[.int .u8 tv,.bool ok]∧(match Pc.told (s.drop (i+1)) with | none=>ok=false | some b=>ok=true∧tv=(b.toNat:Int))∧Sat B w' I As) :=
 (Xnf s (i:Int) (by omega) (by omega) B w I hd As hS).mono fun e w' he=>by
  obtain ⟨v,rfl,rfl,h⟩:=he
  by_cases hl:s.length≤i+2
  ·have:Pc.told (s.drop (i+1))=none:=by
    have hl:(s.drop (i+1)).length≤1:=by rw [Yn]; omega
    match s.drop (i+1),hl with
    | [],_=>rfl
    | [_],_=>rfl
   rw [if_pos (by omega),this]
   exact ⟨_,rfl,0,false,rfl,rfl,h⟩
  ·have e1:s.drop (i+1)=at_ s ((i:Int)+1)::at_ s ((i:Int)+2)::s.drop (i+3):=by
    rw [Xc s (show i+1<s.length by omega),Xc s (show i+1+1<s.length by omega)]
    rfl
   rw [if_neg (by omega),e1]
   refine ⟨_,rfl,_,_,rfl,?_,h⟩
   simp only [Pc.told]
   by_cases hn:X37 (at_ s ((i:Int)+1))<0∨X37 (at_ s ((i:Int)+2))<0
   ·rw [if_pos hn]
    simp only [Y2k,decide_eq_false_iff_not]
    omega
   ·rw [if_neg hn]
    refine ⟨?_,Xl4 _ _ (by omega) (by omega)⟩
    simp only [Yq,decide_eq_true_eq]
    omega
set_option maxHeartbeats 400000 in
set_option maxRecDepth 4000 in
theorem Xnx (s:List UInt8) (hl:s.length≤1000000) (B w:World) (I:Im) (hd:DigAt I) (As:List X8) (hS:Sat B w I As) :
  Calls Tryz.prog 210 [S s,.func (.func 211) #[] #[]].toArray w (Ret fun v w'=>v=(match X57 s with | none=>.tuple #[S [],I64 11] | some t=>.tuple #[S t,I64 0])∧Sat B w' I As):=by
 refine calls Tryz.func210 rfl Tryz.ntmps210 rfl (.seq (.q 2 rfl (.seq (.region (.allocA (cs:=[_,_]) hS Tryz.zeroValue271 rfl ?_)))))
 clear hS; intro b6 w hS
 refine .nil (.seq (.seq (.q 1 rfl (.block ?_))))
 replace hS:=(hS.vecNil 5 1).pick 1 rfl
 refine .loop (σ:=List UInt8×Value×Value×Nat) (fun ⟨out,p,v,i⟩=>[(0,S s),(1,.func (.func 211) #[] #[]),(6,ptr b6 0),(7,I64 (i:Nat))]) (fun ⟨out,p,v,i⟩ w=>i≤s.length∧out.length+(s.length - i)*3≤s.length*3∧X57 s=(X57 (s.drop i)).map (out ++ ·)∧(p=.pointer none∨p=ptr b6 0)∧(out=[]→v=.slice none 0 0)∧Sat B w I (blk b6 [p,v] 271::Vec 5 1 v (out).length (bcs (out))::As)) (fun ⟨out,p,v,i⟩=>s.length - i) ([],.pointer none,.slice none 0 0,0) ⟨rfl,rfl,rfl,rfl,trivial⟩ ⟨Yp _,by simp,by simp,.inl rfl,fun _=>rfl,hS⟩ ?_
 rintro ⟨out,p,v,i⟩ w ⟨hi,hol,hno,hp,hpv,hS⟩
 refine .seq (.seq (.region (.run 4 rfl ⟨Qu9,trivial⟩ (.nil ?_))))
 refine WC.cond rfl (fun hb13=>?_) (fun hb13=>?_)
 ·
  have hc13:=hb13; try simp only [Y6] at hc13
  refine .skip (.seq (.block (.seq (.seq (.region (.run 4 rfl ⟨⟨⟨by omega,by omega⟩,Qu9⟩,trivial⟩ (.nil ?_)))))))
  refine WC.cond rfl (fun hb19=>?_) (fun hb19=>?_)
  ·
   have hc19:=hb19; try simp only [Y6] at hc19
   refine .seq (.region (.run 4 rfl ⟨⟨⟨by omega,by omega⟩,Qu9⟩,trivial⟩ (.vcall (cap:=[]) Tryz.func211 rfl (.of rfl) (X0 (.of rfl) (X0 (.of rfl) X4)) rfl (Xlq (at_ s (i:Int)) B w I hd _ hS) ?_)))
   clear hS
   rintro _ w ⟨rfl,hS⟩
   refine WL.call Tryz.func225 rfl (X0 (.of rfl) (X0 (.of rfl) X4)) rfl (X4q b6 p v out ([at_ s (i:Int)]) hp B w I _ hS (by simp only [Y8,Yk]; omega)) ?_
   clear hS
   rintro _ w ⟨rfl,v2,hS⟩
   refine .nil (.exit (.region (.run 3 rfl ⟨⟨by omega,by omega⟩,trivial⟩ (.nil ?_))))
   have e37:at_ s (i:Int)≠37:=fun e=>by rw [e] at hb19; simp at hb19
   refine ⟨(out ++ [at_ s (i:Int)],ptr b6 0,v2,i+1),⟨rfl,rfl,rfl,rfl,trivial⟩,⟨by (try dsimp only); omega,by (try dsimp only); rw [Y0]; simp only [Y8,Yk]; omega,?_,.inr rfl,fun h=>absurd h (by simp),hS⟩,by (try dsimp only); omega⟩
   rw [hno,Xc s (by omega),X2m,if_neg e37]
   cases X57 (s.drop (i+1)) <;> simp
  have hc19:=hb19; try simp only [Y6] at hc19
  refine .skip (.seq (.t 2 rfl (.call Tryz.func226 rfl (X0 (.of rfl) (X0 (.of rfl) X4)) rfl (told_e s i (by omega) B w I hd _ hS) ?_)))
  clear hS
  rintro _ w ⟨tv,ok,rfl,htv,hS⟩
  refine .q 5 rfl (.nil (.seq (.seq (.q 2 rfl ?_))))
  refine WC.cond rfl (fun hb33=>?_) (fun hb33=>?_)
  ·
   have hc33:=hb33; try simp only [Y6] at hc33
   refine .seq (.q 2 rfl (.ret (X1m Tryz.results210 rfl rfl ?_)))
   refine ⟨_,rfl,?_,(hS.drop (k:=0) rfl).drop (k:=0) rfl⟩
   have e37:at_ s (i:Int)=37:=Y16.1 (by simp only [bne_eq_false_iff_eq] at hb19; show (at_ s (i:Int)).toNat=37; omega)
   have ht:Pc.told (s.drop (i+1))=none:=by
    cases ht:Pc.told (s.drop (i+1)) with
    | none=>rfl
    | some v=>rw [ht] at htv; rw [htv.1] at hb33; simp at hb33
   have:X57 s=none:=by rw [hno,Xc s (by omega),X2m,if_pos e37,ht]; rfl
   rw [this]
  refine .skip (.seq ?_)
  have e37:at_ s (i:Int)=37:=Y16.1 (by simp only [bne_eq_false_iff_eq] at hb19; show (at_ s (i:Int)).toNat=37; omega)
  obtain ⟨vb,hv⟩:∃ v,Pc.told (s.drop (i+1))=some v:=by
   cases ht:Pc.told (s.drop (i+1)) with
   | some v=>exact ⟨v,rfl⟩
   | none=>rw [ht] at htv; simp only at htv; rw [htv] at hb33; simp at hb33
  rw [hv] at htv
  obtain ⟨_,rfl⟩:=htv
  have hvl:=X6g hv
  rw [Yn] at hvl
  have hone3:(one vb).length≤3:=by unfold one; split <;> simp [Xh2]
  have hone0:out ++ one vb≠[]:=fun e=>by
   have:=(Y51.1 e).2
   unfold one at this; split at this <;> simp [Xh2] at this
  refine .t 2 rfl (.vcall (cap:=[]) Tryz.func211 rfl (.of rfl) (X0 (.of rfl) (X0 (.of rfl) X4)) rfl (Xji vb B w I hd _ hS) ?_)
  clear hS
  rintro _ w ⟨rfl,hS⟩
  refine .call Tryz.func225 rfl (X0 (.of rfl) (X0 (.of rfl) X4)) rfl (X4q b6 p v out (one vb) hp B w I _ hS (by omega)) ?_
  clear hS
  rintro _ w ⟨rfl,v2,hS⟩
  refine .nil (.region (.run 3 rfl ⟨⟨by omega,by omega⟩,trivial⟩ (.nil (.region (.run 3 rfl ⟨⟨by omega,by omega⟩,trivial⟩ (.nil ?_))))))
  refine ⟨(out ++ one vb,ptr b6 0,v2,i+3),⟨rfl,rfl,rfl,rfl,trivial⟩,⟨by (try dsimp only); omega,by (try dsimp only); rw [Y0]; omega,?_,.inr rfl,fun h=>absurd h hone0,hS⟩,by (try dsimp only); omega⟩
  rw [hno,Xc s (by omega),X2m,if_pos e37,hv]
  simp only [Y1i]
  cases X57 (s.drop (i+3)) <;> simp [Ye,Y3c]
 have hc13:=hb13; try simp only [Y6] at hc13
 refine .exit (.seq (.region (.call Tryz.func227 rfl (X0 (.of rfl) X4) rfl (Xi0 b6 p v out hpv B w I _ hS) ?_)))
 clear hS
 rintro _ w ⟨rfl,hS⟩
 refine .q 2 rfl (.nil (.ret (X1m Tryz.results210 rfl rfl ?_)))
 refine ⟨_,rfl,?_,hS⟩
 have:X57 s=some out:=by rw [hno,Y13 (by omega),Xc6]; simp
 rw [this]
theorem each_e (s:List UInt8) (hl:s.length≤1000000) (B w:World) (I:Im) (hd:DigAt I) (As:List X8) (hS:Sat B w I As):Calls Tryz.prog 210 [S s,.func (.func 211) #[] #[]].toArray w (Ret fun v w'=>∃ n1 n2,v=.tuple #[n1,n2]∧.tuple #[n1,n2]=(match X57 s with | none=>Value.tuple #[S [],I64 11] | some t=>.tuple #[S t,I64 0])∧Sat B w' I As) :=
 (Xnx s hl B w I hd As hS).mono fun e w' he=>by
  obtain ⟨v,rfl,rfl,h⟩:=he
  cases X57 s with
  | none=>exact ⟨_,rfl,_,_,rfl,rfl,h⟩
  | some t=>exact ⟨_,rfl,_,_,rfl,rfl,h⟩
theorem Xfw (s:List UInt8) (hl:s.length≤1000000) (B w:World) (I:Im) (hd:DigAt I) (As:List X8) (hS:Sat B w I As) :
  Calls Tryz.prog 187 [S s].toArray w (Ret fun v w'=>v=(match X57 s with | none=>.tuple #[S [],I64 11] | some t=>.tuple #[S t,I64 0])∧Sat B w' I As):=by
 refine calls Tryz.func187 rfl Tryz.ntmps187 rfl (.seq (.q 2 rfl (.seq (.t 1 rfl (.call Tryz.func210 rfl (X0 (.of rfl) (X0 (.of rfl) X4)) rfl (each_e s hl B w I hd _ hS) ?_)))))
 clear hS
 rintro _ w ⟨n1,n2,rfl,hn,hS⟩
 refine .q 4 rfl (.nil (.ret (X1m Tryz.results187 rfl rfl ?_)))
 exact ⟨_,rfl,hn,hS⟩
end Go.Proofs.YtadhiihnnkcagaaGreatDoor
namespace Go.Proofs
open Go.Shelf
open Go.RowKit in
open Go.RowKit in
open Go.RowKit in
def Tryz.lays119_ren:Go.Shelf.Ren:=⟨fun | 119=>224 | n=>n,fun | 21=>21 | 4=>4 | n=>n,fun | n=>n⟩
theorem Tryz.lays119:Go.Proofs.Lays.n119 Tryz.prog Tryz.lays119_ren:={
 mixed:=by kernel_rfl
 f119:=Qf224.trans (congrArg some (by kernel_rfl))
 t4:=Qu4
 a4:=Qg4
 z4:=Qs4
 v4:=Qz4
 t21:=Qu21
 a21:=Qg21
 z21:=Qs21
 v21:=Qz21 }
theorem Tryz.utf8_ValidRune (r:Int) (w:World) :
  Calls Tryz.prog 224 #[.int .i32 r] w fun e w'=>e=.returned (.bool (Lib.validRune r))∧w'=w:=Any.utf8_ValidRune Tryz.lays119 r w
def Tryz.lays137_ren:Go.Shelf.Ren:=⟨fun | 137=>181 | 217=>205 | 266=>223 | n=>n,fun | 9=>9 | 5=>5 | 3=>3 | n=>n,fun | n=>n⟩
theorem Tryz.lays137:Go.Proofs.Lays.n137 Tryz.prog Tryz.lays137_ren:={
 mixed:=by kernel_rfl
 f137:=Qf181.trans (congrArg some (by kernel_rfl))
 f217:=Qf205.trans (congrArg some (by kernel_rfl))
 f266:=Qf223.trans (congrArg some (by kernel_rfl))
 t3:=Qu3
 a3:=Qg3
 z3:=Qs3
 v3:=Qz3
 t5:=Qu5
 a5:=Qg5
 z5:=Qs5
 v5:=Qz5
 t9:=Qu9
 a9:=Qg9
 z9:=Qs9
 v9:=Qz9 }
open Go.RowKit in
theorem Tryz.strings_IndexByte (s:ByteArray) (c:Int) (w:World) :
  Calls Tryz.prog 181 #[.string s,.int .u8 c] w fun e w'=>e=.returned (.int .i64 (Lib.indexByte s.data.toList c.toNat.toUInt8))∧w'=w:=Any.strings_IndexByte Tryz.lays137 s c w
open Go.RowKit in
open Go.Lib in
open Go.Lib in
open Go.Lib in
open Go.Lib in
open Go.RowKit Go.Sort Go.Lib in
open Go.RowKit Go.Sort Go.Lib in
open Go.RowKit Go.Sort Go.Lib in
open Go.RowKit Go.Sort Go.Lib in
open Go.RowKit Go.Sort Go.Lib in
def Tryz.laysM171_ren:Go.Shelf.Ren:=⟨fun | 171=>189 | 243=>214 | 246=>231 | 283=>239 | 284=>240 | 285=>241 | 286=>242 | 129=>247 | 317=>246 | 318=>248 | 319=>249 | 320=>250 | 337=>251 | 338=>252 | n=>n,fun | 3=>3 | 9=>9 | 2=>2 | 4=>4 | 171=>288 | 0=>0 | 53=>118 | 37=>214 | 5=>5 | 173=>291 | 212=>296 | 51=>282 | 20=>20 | 213=>297 | 46=>238 | 232=>304 | 233=>305 | n=>n,fun | 17=>4 | 18=>7 | 19=>8 | n=>n⟩
theorem Tryz.laysM171:Go.Proofs.LaysM.n171 Tryz.prog Tryz.laysM171_ren:={
 mixed:=by kernel_rfl
 f129:=Tryz.func247.trans (congrArg some (by kernel_rfl))
 f171:=Tryz.func189.trans (congrArg some (by kernel_rfl))
 f243:=Tryz.func214.trans (congrArg some (by kernel_rfl))
 f246:=Tryz.func231.trans (congrArg some (by kernel_rfl))
 f283:=Tryz.func239.trans (congrArg some (by kernel_rfl))
 f284:=Tryz.func240.trans (congrArg some (by kernel_rfl))
 f285:=Tryz.func241.trans (congrArg some (by kernel_rfl))
 f286:=Tryz.func242.trans (congrArg some (by kernel_rfl))
 f317:=Tryz.func246.trans (congrArg some (by kernel_rfl))
 f318:=Tryz.func248.trans (congrArg some (by kernel_rfl))
 f319:=Tryz.func249.trans (congrArg some (by kernel_rfl))
 f320:=Tryz.func250.trans (congrArg some (by kernel_rfl))
 f337:=Tryz.func251.trans (congrArg some (by kernel_rfl))
 f338:=Tryz.func252.trans (congrArg some (by kernel_rfl))
 t0:=Qu0
 a0:=Qg0
 z0:=Qs0
 v0:=Qz0
 t2:=Tryz.underlying2
 a2:=Tryz.isAgg2
 z2:=Tryz.sizeOf2
 v2:=Tryz.zeroValue2
 t3:=Qu3
 a3:=Qg3
 z3:=Qs3
 v3:=Qz3
 t4:=Qu4
 a4:=Qg4
 z4:=Qs4
 v4:=Qz4
 t5:=Qu5
 a5:=Qg5
 z5:=Qs5
 v5:=Qz5
 t9:=Qu9
 a9:=Qg9
 z9:=Qs9
 v9:=Qz9
 t20:=Tryz.underlying20
 a20:=Tryz.isAgg20
 z20:=Tryz.sizeOf20
 v20:=Tryz.zeroValue20
 t37:=X27
 a37:=Xi4
 z37:=Xds
 v37:=Tryz.zeroValue214
 t46:=X7g
 a46:=Xk8
 z46:=Xll
 v46:=Xjk
 t51:=Xq3
 a51:=Tryz.isAgg282
 z51:=Tryz.sizeOf282
 v51:=Xqv
 t53:=Xad
 a53:=Tryz.isAgg118
 z53:=Xfy
 v53:=Xsk
 t171:=Tryz.underlying288
 a171:=Tryz.isAgg288
 z171:=Tryz.sizeOf288
 v171:=Tryz.zeroValue288
 t173:=Tryz.underlying291
 a173:=Tryz.isAgg291
 z173:=Tryz.sizeOf291
 v173:=Tryz.zeroValue291
 t212:=Tryz.underlying296
 a212:=Tryz.isAgg296
 z212:=Tryz.sizeOf296
 v212:=Tryz.zeroValue296
 t213:=Tryz.underlying297
 a213:=Tryz.isAgg297
 z213:=Tryz.sizeOf297
 t232:=Tryz.underlying304
 a232:=Tryz.isAgg304
 z232:=Tryz.sizeOf304
 v232:=Tryz.zeroValue304
 t233:=Tryz.underlying305
 a233:=Tryz.isAgg305
 z233:=Tryz.sizeOf305
 v233:=Tryz.zeroValue305
 g17:=by kernel_rfl
 g18:=by kernel_rfl
 g19:=by kernel_rfl
 i0:=by kernel_rfl
 i2:=by kernel_rfl
 i3:=by kernel_rfl
 i4:=by kernel_rfl
 i5:=by kernel_rfl
 i9:=by kernel_rfl
 i20:=by kernel_rfl
 i37:=by kernel_rfl
 i46:=by kernel_rfl
 i51:=by kernel_rfl
 i53:=by kernel_rfl
 i171:=by kernel_rfl
 i173:=by kernel_rfl
 i212:=by kernel_rfl
 i232:=by kernel_rfl
 i233:=by kernel_rfl
 m17:=by kernel_rfl
 m18:=by kernel_rfl
 m19:=by kernel_rfl }
open Go.RowKit Go.Sort Go.Lib in
theorem Tryz.strconv_Itoa (n : Int) (h0 : -9223372036854775808 ≤ n) (h1 : n ≤ 9223372036854775807) (w : World) (htab : Lib.TabIs Tryz.prog w "internal/strconv.uint64pow10" .u64 Lib.pow10Tab) :
  Calls Tryz.prog 189 #[.int .i64 n] w fun e w'=>e=.returned (.string ⟨(Lib.itoa n).toArray⟩)∧∃ k os,w'=grow (w.drewN k) os:=Any.strconv_Itoa Tryz.laysM171 n h0 h1 w htab
open Go.RowKit Go.Sort Go.Lib in
open Go.RowKit Go.Lib in
open Go.RowKit Go.Lib in
open Go.RowKit Go.Lib in
open Go.RowKit Go.Lib in
open Go.RowKit Go.Lib in
open Go.RowKit Go.Lib in
open Go.RowKit Go.Lib in
open Go.RowKit Go.Lib in
open Go.RowKit Go.Lib in
def Tryz.lays145_ren:Go.Shelf.Ren:=⟨fun | 145=>146 | 220=>180 | 219=>204 | 217=>205 | 225=>220 | 224=>221 | 267=>222 | 266=>223 | 314=>233 | n=>n,fun | 9=>9 | 4=>4 | 59=>204 | 3=>3 | 5=>5 | 46=>238 | 146=>283 | 51=>282 | n=>n,fun | 1=>2 | n=>n⟩
theorem Tryz.lays145:Go.Proofs.Lays.n145 Tryz.prog Tryz.lays145_ren:={
 mixed:=by kernel_rfl
 f145:=Qf146.trans (congrArg some (by kernel_rfl))
 f217:=Qf205.trans (congrArg some (by kernel_rfl))
 f219:=Tryz.func204.trans (congrArg some (by kernel_rfl))
 f220:=Tryz.func180.trans (congrArg some (by kernel_rfl))
 f224:=Qf221.trans (congrArg some (by kernel_rfl))
 f225:=Qf220.trans (congrArg some (by kernel_rfl))
 f266:=Qf223.trans (congrArg some (by kernel_rfl))
 f267:=Tryz.func222.trans (congrArg some (by kernel_rfl))
 f314:=Tryz.func233.trans (congrArg some (by kernel_rfl))
 t3:=Qu3
 a3:=Qg3
 z3:=Qs3
 v3:=Qz3
 t4:=Qu4
 a4:=Qg4
 z4:=Qs4
 v4:=Qz4
 t5:=Qu5
 a5:=Qg5
 z5:=Qs5
 v5:=Qz5
 t9:=Qu9
 a9:=Qg9
 z9:=Qs9
 v9:=Qz9
 t46:=X7g
 a46:=Xk8
 z46:=Xll
 v46:=Xjk
 t51:=Xq3
 a51:=Tryz.isAgg282
 z51:=Tryz.sizeOf282
 v51:=Xqv
 t59:=Tryz.underlying204
 a59:=Tryz.isAgg204
 z59:=Tryz.sizeOf204
 v59:=Tryz.zeroValue204
 t146:=Tryz.underlying283
 a146:=Tryz.isAgg283
 z146:=Tryz.sizeOf283
 v146:=Tryz.zeroValue283
 g1:=by kernel_rfl }
open Go.RowKit Go.Lib in
theorem Tryz.strings_Cut (s sep:ByteArray) (m:Int) (w:World) (hs:s.size<4294967281) (hm:w.cell? ⟨2,0,none⟩=some (.int .i64 m)) :
  Calls Tryz.prog 146 #[.string s,.string sep] w fun e w'=>e=.returned (.tuple #[.string ⟨(Lib.cut s.data.toList sep.data.toList).1.toArray⟩,.string ⟨(Lib.cut s.data.toList sep.data.toList).2.1.toArray⟩,.bool (Lib.cut s.data.toList sep.data.toList).2.2])∧∃ n,w'=w.drewN n:=Any.strings_Cut Tryz.lays145 s sep m w hs hm
open Go.RowKit Go.Lib in
open Go.RowKit Go.Lib in
open Go.RowKit Go.Lib in
open Go.RowKit Go.Lib in
open Go.RowKit Go.Lib in
open Go.RowKit Go.Lib in
open Go.RowKit Go.Lib in
open Go.RowKit Go.Lib in
open Go.RowKit Go.Lib in
open Go.RowKit Go.Lib in
open Go.RowKit Go.Lib in
def Tryz.lays146_ren:Go.Shelf.Ren:=⟨fun | 146=>188 | 221=>213 | 268=>228 | 138=>229 | 143=>230 | 195=>236 | 197=>237 | 218=>238 | 219=>204 | 260=>245 | 217=>205 | 225=>220 | 224=>221 | 267=>222 | 266=>223 | 314=>233 | n=>n,fun | 9=>9 | 31=>41 | 3=>3 | 4=>4 | 0=>0 | 105=>286 | 21=>21 | 5=>5 | 46=>238 | 119=>299 | 139=>302 | 138=>301 | 146=>283 | 51=>282 | n=>n,fun | 1=>2 | 3=>5 | 4=>6 | n=>n⟩
theorem Tryz.lays146:Go.Proofs.Lays.n146 Tryz.prog Tryz.lays146_ren:={
 mixed:=by kernel_rfl
 f138:=Tryz.func229.trans (congrArg some (by kernel_rfl))
 f143:=Tryz.func230.trans (congrArg some (by kernel_rfl))
 f146:=Tryz.func188.trans (congrArg some (by kernel_rfl))
 f195:=Tryz.func236.trans (congrArg some (by kernel_rfl))
 f197:=Tryz.func237.trans (congrArg some (by kernel_rfl))
 f217:=Qf205.trans (congrArg some (by kernel_rfl))
 f218:=Tryz.func238.trans (congrArg some (by kernel_rfl))
 f219:=Tryz.func204.trans (congrArg some (by kernel_rfl))
 f221:=Tryz.func213.trans (congrArg some (by kernel_rfl))
 f224:=Qf221.trans (congrArg some (by kernel_rfl))
 f225:=Qf220.trans (congrArg some (by kernel_rfl))
 f260:=Tryz.func245.trans (congrArg some (by kernel_rfl))
 f266:=Qf223.trans (congrArg some (by kernel_rfl))
 f267:=Tryz.func222.trans (congrArg some (by kernel_rfl))
 f268:=Tryz.func228.trans (congrArg some (by kernel_rfl))
 f314:=Tryz.func233.trans (congrArg some (by kernel_rfl))
 t0:=Qu0
 a0:=Qg0
 z0:=Qs0
 v0:=Qz0
 t3:=Qu3
 a3:=Qg3
 z3:=Qs3
 v3:=Qz3
 t4:=Qu4
 a4:=Qg4
 z4:=Qs4
 v4:=Qz4
 t5:=Qu5
 a5:=Qg5
 z5:=Qs5
 v5:=Qz5
 t9:=Qu9
 a9:=Qg9
 z9:=Qs9
 v9:=Qz9
 t21:=Qu21
 a21:=Qg21
 z21:=Qs21
 v21:=Qz21
 t31:=X1p
 a31:=Xio
 z31:=Xha
 v31:=Qz41
 t46:=X7g
 a46:=Xk8
 z46:=Xll
 v46:=Xjk
 t51:=Xq3
 a51:=Tryz.isAgg282
 z51:=Tryz.sizeOf282
 v51:=Xqv
 t105:=Tryz.underlying286
 a105:=Tryz.isAgg286
 z105:=Tryz.sizeOf286
 v105:=Tryz.zeroValue286
 t119:=Tryz.underlying299
 a119:=Tryz.isAgg299
 z119:=Tryz.sizeOf299
 t138:=Tryz.underlying301
 a138:=Tryz.isAgg301
 z138:=Tryz.sizeOf301
 v138:=Tryz.zeroValue301
 t139:=Tryz.underlying302
 a139:=Tryz.isAgg302
 z139:=Tryz.sizeOf302
 v139:=Tryz.zeroValue302
 t146:=Tryz.underlying283
 a146:=Tryz.isAgg283
 z146:=Tryz.sizeOf283
 v146:=Tryz.zeroValue283
 g1:=by kernel_rfl
 g3:=by kernel_rfl
 g4:=by kernel_rfl }
open Go.RowKit Go.Lib in
theorem Tryz.strings_Split (s sep:ByteArray) (m:Int) (w:World) (hs:s.size<4294967281) (hm:w.cell? ⟨2,0,none⟩=some (.int .i64 m)) (h1:1≤sep.size) :
  Calls Tryz.prog 188 #[.string s,.string sep] w fun e w' =>
   e=.returned (.slice (some ⟨w.heap.size,0,none⟩) (Lib.countB s sep+1) (Lib.countB s sep+1))∧w'=w.alloc (.cells ((Lib.splitB sep 0 (Lib.countB s sep) s).map Value.string).toArray 9):=Any.strings_Split Tryz.lays146 (by kernel_rfl) s sep m w hs hm h1
open Go.RowKit Go.Lib in
open Go.RowKit Go.Lib in
def Tryz.lays152_ren:Go.Shelf.Ren:=⟨fun | 152=>206 | 137=>181 | 119=>224 | 224=>221 | 225=>220 | 217=>205 | 266=>223 | n=>n,fun | 9=>9 | 21=>21 | 3=>3 | 4=>4 | 5=>5 | 0=>0 | 46=>238 | n=>n,fun | n=>n⟩
theorem Tryz.lays152:Go.Proofs.Lays.n152 Tryz.prog Tryz.lays152_ren:={
 mixed:=by kernel_rfl
 f119:=Qf224.trans (congrArg some (by kernel_rfl))
 f137:=Qf181.trans (congrArg some (by kernel_rfl))
 f152:=Qf206.trans (congrArg some (by kernel_rfl))
 f217:=Qf205.trans (congrArg some (by kernel_rfl))
 f224:=Qf221.trans (congrArg some (by kernel_rfl))
 f225:=Qf220.trans (congrArg some (by kernel_rfl))
 f266:=Qf223.trans (congrArg some (by kernel_rfl))
 t0:=Qu0
 a0:=Qg0
 z0:=Qs0
 v0:=Qz0
 t3:=Qu3
 a3:=Qg3
 z3:=Qs3
 v3:=Qz3
 t4:=Qu4
 a4:=Qg4
 z4:=Qs4
 v4:=Qz4
 t5:=Qu5
 a5:=Qg5
 z5:=Qs5
 v5:=Qz5
 t9:=Qu9
 a9:=Qg9
 z9:=Qs9
 v9:=Qz9
 t21:=Qu21
 a21:=Qg21
 z21:=Qs21
 v21:=Qz21
 t46:=X7g
 a46:=Xk8
 z46:=Xll
 v46:=Xjk }
open Go.RowKit Go.Lib in
theorem Tryz.strings_IndexRune_ascii (s:ByteArray) (r:Int) (w:World) (h0:0≤r) (h1:r<128) :
  Calls Tryz.prog 206 #[.string s,.int .i32 r] w fun e w'=>e=.returned (.int .i64 (Lib.indexByte s.data.toList r.toNat.toUInt8))∧w'=w:=Any.strings_IndexRune_ascii Tryz.lays152 s r w h0 h1
open Go.RowKit Go.Lib in
open Go.RowKit Go.Lib in
def Tryz.lays153_ren:Go.Shelf.Ren:=⟨fun | 153=>182 | 152=>206 | 226=>207 | 227=>208 | 228=>209 | 137=>181 | 119=>224 | 224=>221 | 225=>220 | 217=>205 | 266=>223 | n=>n,fun | 9=>9 | 3=>3 | 4=>4 | 5=>5 | 21=>21 | 117=>256 | 116=>255 | 0=>0 | 46=>238 | 124=>268 | n=>n,fun | n=>n⟩
theorem Tryz.lays153:Go.Proofs.Lays.n153 Tryz.prog Tryz.lays153_ren:={
 mixed:=by kernel_rfl
 f119:=Qf224.trans (congrArg some (by kernel_rfl))
 f137:=Qf181.trans (congrArg some (by kernel_rfl))
 f152:=Qf206.trans (congrArg some (by kernel_rfl))
 f153:=Tryz.func182.trans (congrArg some (by kernel_rfl))
 f217:=Qf205.trans (congrArg some (by kernel_rfl))
 f224:=Qf221.trans (congrArg some (by kernel_rfl))
 f225:=Qf220.trans (congrArg some (by kernel_rfl))
 f226:=Tryz.func207.trans (congrArg some (by kernel_rfl))
 f227:=Tryz.func208.trans (congrArg some (by kernel_rfl))
 f228:=Tryz.func209.trans (congrArg some (by kernel_rfl))
 f266:=Qf223.trans (congrArg some (by kernel_rfl))
 t0:=Qu0
 a0:=Qg0
 z0:=Qs0
 v0:=Qz0
 t3:=Qu3
 a3:=Qg3
 z3:=Qs3
 v3:=Qz3
 t4:=Qu4
 a4:=Qg4
 z4:=Qs4
 v4:=Qz4
 t5:=Qu5
 a5:=Qg5
 z5:=Qs5
 v5:=Qz5
 t9:=Qu9
 a9:=Qg9
 z9:=Qs9
 v9:=Qz9
 t21:=Qu21
 a21:=Qg21
 z21:=Qs21
 v21:=Qz21
 t46:=X7g
 a46:=Xk8
 z46:=Xll
 v46:=Xjk
 t116:=Tryz.underlying255
 a116:=Tryz.isAgg255
 z116:=Tryz.sizeOf255
 t117:=Tryz.underlying256
 a117:=Tryz.isAgg256
 z117:=Tryz.sizeOf256
 v117:=Tryz.zeroValue256
 t124:=Tryz.underlying268
 a124:=Tryz.isAgg268
 z124:=Tryz.sizeOf268
 v124:=Tryz.zeroValue268 }
open Go.RowKit Go.Lib in
open Go.RowKit Go.Lib in
open Go.RowKit Go.Lib in
open Go.RowKit Go.Lib in
open Go.RowKit Go.Lib in
open Go.RowKit Go.Lib in
theorem Tryz.strings_IndexAny_long (hv116:∀ w,(zeroValue 255).run Tryz.prog w=.ok (.agg (Array.replicate 256 (.bool false))) w) (s chars:ByteArray) (w:World) (h2:2≤chars.size) (h8:8<s.size) (hs:s.size<4294967281) (hcs:chars.size<4294967281) (hascii:∀ (j:Nat) b,chars.data.toList[j]?=some b→b.toNat<128) :
  Calls Tryz.prog 182 #[.string s,.string chars] w fun e w'=>e=.returned (.int .i64 (Lib.indexAny s.data.toList chars.data.toList))∧w'=((w.alloc (.cells (Lib.setCells chars.data.toList) 255)).alloc (.cells (Lib.setCells chars.data.toList) 255)):=Any.strings_IndexAny_long Tryz.lays153 hv116 (by kernel_rfl) s chars w h2 h8 hs hcs hascii
open Go.RowKit Go.Lib in
open Go.RowKit Go.Lib in
open Go.RowKit Go.Lib in
open Go.RowKit Go.Lib in
def Tryz.laysNm216_ren:Go.Shelf.Ren:=⟨fun | 16=>129 | n=>n,fun | 24=>41 | 9=>9 | 4=>4 | n=>n,fun | n=>n⟩
theorem Tryz.laysNm216:Go.Proofs.Lays2.n16 Tryz.prog Tryz.laysNm216_ren:={
 mixed:=by kernel_rfl
 f16:=Tryz.func129.trans (congrArg some (by kernel_rfl))
 t4:=Qu4
 a4:=Qg4
 z4:=Qs4
 v4:=Qz4
 t9:=Qu9
 a9:=Qg9
 z9:=Qs9
 v9:=Qz9
 t24:=X1p
 a24:=Xio
 z24:=Xha
 v24:=Qz41
 i9:=by kernel_rfl }
open Go.RowKit Go.Lib in
theorem Tryz.slices_Clone_string (b off n c:Nat) (zs:List ByteArray) (w:World) (hz:n≤zs.length) (hbig:n*16≤140737488355328) (hc:∀ j,j<zs.length→w.cell? ⟨b,off+j,none⟩=some (.string (zs.getD j ByteArray.empty))) :
  Calls Tryz.prog 129 #[.slice (some ⟨b,off,none⟩) n c] w fun e w'=>∃ v',e=.returned v'∧w'.ownsRow w.heap.size 9 1 v' n ((zs.take n).map (Value.string))∧v'≠.slice none 0 0∧Below w.heap.size w w':=Any.slices_Clone_string Tryz.laysNm216 b off n c zs w hz hbig hc
open Go.RowKit Go.Lib in
theorem Tryz.slices_Clone_string_nil (n c:Nat) (w:World) :
  Calls Tryz.prog 129 #[.slice none n c] w fun e w'=>e=.returned (.slice none 0 0)∧w'=w:=Any.slices_Clone_string_nil Tryz.laysNm216 n c w
open Go.RowKit Go.Lib in
theorem Tryz.slices_Clone_string_zero (a:Addr) (c:Nat) (w:World) :
  Calls Tryz.prog 129 #[.slice (some a) 0 c] w fun e w'=>∃ v',e=.returned v'∧w'.ownsRow w.heap.size 9 1 v' 0 []∧v'≠.slice none 0 0∧Below w.heap.size w w':=Any.slices_Clone_string_zero Tryz.laysNm216 a c w
end Go.Proofs
namespace Go.Proofs.YtadhiihnnkcagaaGreatDoor
open Gk Pc Ul
theorem X40 (s:List UInt8) (c:UInt8) (w:World):Calls Tryz.prog 181 [S s,U8 c.toNat].toArray w (Ret fun v w'=>v=I64 (Go.Lib.indexByte s c)∧w=w') :=
 (Tryz.strings_IndexByte ⟨s.toArray⟩ c.toNat w).mono fun e w' he=>by
  obtain ⟨rfl,rfl⟩:=he
  refine ⟨_,rfl,?_,rfl⟩
  congr 2
  simp
theorem Xs6 (s:List UInt8) (w:World) :
  Calls Tryz.prog 185 [S s].toArray w (Ret fun v w'=>v=I64 (ownP s:Nat)∧w=w'):=by
 refine calls Tryz.func185 rfl Tryz.ntmps185 rfl (.seq (.q 1 rfl (.seq (.seq (.q 2 rfl ?_)))))
 refine WC.cond rfl (fun hb4=>?_) (fun hb4=>?_)
 ·
  have hc4:=hb4; try simp only [Y6] at hc4
  refine .seq (.q 1 rfl (.ret (X9 Tryz.results185 rfl ?_)))
  exact ⟨_,rfl,by rw [ownP,if_pos (show s=X7b from hc4)]; rfl,rfl⟩
 have hc4:=hb4; try simp only [Y6] at hc4
 refine .skip (.seq (.q 1 rfl (.ret (X9 Tryz.results185 rfl ?_))))
 exact ⟨_,rfl,by rw [ownP,if_neg (show ¬ s=X7b from hc4)]; rfl,rfl⟩
theorem Xd3 (s:List UInt8) (hl:s.length≤1000000) (B w:World) (I:Im) (As:List X8) (hS:Sat B w I As) :
  Calls Tryz.prog 148 [S s].toArray w (Ret fun v w'=>v=S (low s)∧Sat B w' I As):=by
 refine calls Tryz.func148 rfl Tryz.ntmps148 rfl (.seq (.q 1 rfl (.seq (.t 1 rfl (.strBytes (s:=s) hS (.of rfl) Qu9 X27 Qu5 rfl ?_)))))
 clear hS; intro m7 cap7 r7 w hS
 refine .q 1 rfl (.nil (.seq (.seq (.region (.run 3 rfl ⟨⟨_,X27⟩,trivial⟩ (.nil (.block ?_)))))))
 refine WC.loop (σ:=Nat) (fun i=>[(3,.slice (some (ad m7 0)) s.length cap7),(8,.slice (some (ad m7 0)) s.length cap7),(9,I64 (s.length:Nat)),(10,I64 (i:Nat))]) (fun i w=>i≤s.length∧Sat B w I (blkM m7 (bcs (mid s i) ++ List.replicate r7 (Value.int .u8 0)) 5::As)) (fun i=>s.length - i) 0 ⟨rfl,rfl,rfl,rfl,trivial⟩ ⟨Yp _,by rw [Xow]; exact hS⟩ ?_
 rintro i w ⟨hi,hS⟩
 refine .seq (.q 1 rfl (.seq ?_))
 refine WC.cond rfl (fun hb11=>?_) (fun hb11=>?_)
 ·
  have hc11:=hb11; try simp only [Y6] at hc11
  refine .skip (.seq (.block (.seq ?_)))
  have hl1:(bcs (mid s i)).length=s.length:=by rw [Yz,Xk3]
  have hld:(bcs (mid s i) ++ List.replicate r7 (Value.int .u8 0))[i]?=some (U8 (at_ s i).toNat):=by
   rw [Yg (by omega),Yy,Xpx s i (by omega)]; rfl
  refine .t 1 rfl (.val (.indexAddr (.of rfl) (.of rfl) (by omega) (by omega) X27 Qs5) rfl ?_)
  refine WL.val (.ldM (.of rfl) hS (k:=0) rfl Qg5 (by rw [Yd,Yi,Y1k]; exact hld)) rfl ?_
  refine .q 2 rfl (.nil (.seq (.t 3 rfl (.gval rfl rfl (fun hg1=>(.move (.of rfl))) rfl (.gval rfl rfl (fun hg1=>(.leq (.gd hg1 rfl) (.of rfl))) rfl (.val (.pand (.of rfl) (.of rfl) (.of rfl)) rfl (.nil ?_)))))))
  refine WC.cond rfl (fun hb20=>?_) (fun hb20=>?_)
  ·
   have hc20:=hb20; try simp only [Y6] at hc20
   refine .t 3 rfl (.val (.addw (.of rfl) (.of rfl)) rfl (.val (.subw (.of rfl) (.of rfl)) rfl (.val (.indexAddr (.of rfl) (.of rfl) (by omega) (by omega) X27 Qs5) rfl ?_)))
   refine WL.st1M hS (k:=0) rfl (.of rfl) (.of rfl) rfl Qs5 (by rw [Y0,hl1,Y1u]; omega) ?_
   clear hS; intro w hS
   refine .nil (.region (.run 2 rfl ⟨⟨by omega,by omega⟩,trivial⟩ (.nil ?_)))
   refine ⟨i+1,⟨rfl,rfl,rfl,rfl,trivial⟩,⟨by omega,?_⟩,by omega⟩
   have e:=Xgq s i (by omega)
   rw [Yd,Yi,Y1k] at hS
   rw [Y44 _ _ (by omega),show Value.int .u8 (IntKind.u8.wrap ((IntKind.u8.wrap (((at_ s (i:Int)).toNat:Int)+97)) - 65))=U8 (lo (at_ s (i:Int))).toNat by
    have:=lo_up (c:=at_ s (i:Int)) (by simpa only [Yq,decide_eq_true_eq] using hb20)
    rw [this,IntKind.wrap_u8,IntKind.wrap_u8]; congr 1; omega,← List.map_set,e] at hS
   exact hS
  have hc20:=hb20; try simp only [Y6] at hc20
  refine .skip (.region (.run 2 rfl ⟨⟨by omega,by omega⟩,trivial⟩ (.nil ?_)))
  refine ⟨i+1,⟨rfl,rfl,rfl,rfl,trivial⟩,⟨by omega,?_⟩,by omega⟩
  rw [← Xnq s i (by omega) (lo_no (fun hh=>by
   have:(decide (65≤((at_ s (i:Int)).toNat:Int)) && decide (((at_ s (i:Int)).toNat:Int)≤90))=true:=by simp only [Yq,decide_eq_true_eq]; exact hh
   rw [this] at hb20; cases hb20))]
  exact hS
 have hc11:=hb11; try simp only [Y6] at hc11
 refine .exit (.seq (.t 1 rfl ?_))
 refine WL.val (.bytesStrM (l:=low s) (b:=m7) (o:=0) (cap:=cap7) (.of (by rw [X21]; rfl)) hS (k:=0) rfl X27 Qu5 Qu9 (fun j hj=>by
  rw [X21] at hj
  rw [Yd,Yg (by rw [Yz,Xk3]; omega),Yy,Xr7 s i (by omega),Y4 (by rw [X21]; omega)]
  rfl)) rfl ?_
 refine .q 1 rfl (.nil (.ret (X9 Tryz.results148 rfl ?_)))
 exact ⟨_,rfl,rfl,hS.drop (k:=0) rfl⟩
theorem Xn3 (s:List UInt8) (w:World) :
  Calls Tryz.prog 150 [S s].toArray w (Ret fun v w'=>v=.bool (X4y s)∧w=w'):=by
 obtain ⟨w0,hw0⟩:∃ w0,w=w0:=⟨_,rfl⟩
 rw [show (fun (v:Value) (w':World)=>v=.bool (X4y s)∧w=w')=(fun v w'=>v=.bool (X4y s)∧w0=w') by rw [hw0]]
 refine calls Tryz.func150 rfl Tryz.ntmps150 rfl (.seq (.q 1 rfl (.seq (.seq (.t 3 rfl (.gval rfl rfl (fun hg1=>(.move (.of rfl))) rfl (.gval rfl rfl (fun hg1=>(.len (.gd hg1 rfl) Qu9)) rfl (.gval rfl rfl (fun hg1=>(.gtr (.gd hg1 rfl) (.of rfl))) rfl (.val (.por (.of rfl) (.of rfl) (.of rfl)) rfl (.nil ?_))))))))))
 refine WC.cond rfl (fun hb11=>?_) (fun hb11=>?_)
 ·
  refine .seq (.q 1 rfl (.ret (X9 Xqt rfl ?_)))
  refine ⟨_,rfl,?_,hw0.symm⟩
  congr 1
  rw [X4y]
  rcases Y23.1 hb11 with h | h
  ·rw [show s=[] by simpa using h]; rfl
  ·simp only [decide_eq_true_eq] at h
   rw [show decide (64<s.length)=true from decide_eq_true (by omega)]; simp
 have hc11:=hb11; try simp only [Y6] at hc11
 refine .skip (.seq (.seq (.region (.run 3 rfl ⟨Qu9,trivial⟩ (.nil (.block (.loop (σ:=Nat) (fun i=>[(0,S s),(13,I64 (s.length:Nat)),(14,I64 (i:Nat))]) (fun i w=>i≤s.length∧(∀ j,j<i→j<s.length→Xc7 (at_ s (j:Int))=true)∧w=w0) (fun i=>s.length - i) 0 ⟨rfl,rfl,rfl,trivial⟩ ⟨Yp _,fun _ h=>absurd h (by omega),hw0⟩ ?_)))))))
 rintro i w ⟨hi,hok,hw⟩
 refine .seq (.q 1 rfl (.seq ?_))
 refine WC.cond rfl (fun hb15=>?_) (fun hb15=>?_)
 ·
  have hc15:=hb15; try simp only [Y6] at hc15
  refine .skip (.seq (.block (.seq (.q 2 rfl (.seq (.region (.run 4 rfl ⟨⟨⟨by omega,by omega⟩,Qu9⟩,trivial⟩ (.nil (.seq (.t 1 rfl (.call Tryz.func183 rfl (X0 (.of rfl) X4) rfl (Xdc _ _) ?_)))))))))))
  rintro _ _ ⟨rfl,rfl⟩
  refine .q 2 rfl (.gval rfl rfl (fun hg1=>(.move (.of rfl))) rfl (.gval rfl rfl (fun hg1=>(.eql (.gd hg1 rfl) (.of rfl))) rfl (.val (.por (.of rfl) (.of rfl) (.of rfl)) rfl (.q 1 rfl (.gval rfl rfl (fun hg1=>(.move (.of rfl))) rfl (.gval rfl rfl (fun hg1=>(.eql (.gd hg1 rfl) (.of rfl))) rfl (.val (.por (.of rfl) (.of rfl) (.of rfl)) rfl (.nil ?_))))))))
  refine WC.cond rfl (fun hb30=>?_) (fun hb30=>?_)
  ·
   have hc30:=hb30; try simp only [Y6] at hc30
   refine .seq (.q 1 rfl (.ret (X9 Xqt rfl ?_)))
   refine ⟨_,rfl,?_,hw.symm⟩
   rw [Xdg] at hb30
   rw [X4y,X77 (p:=Xc7) (i:=i) (by omega) (by simpa using hb30),Y4q]
  have hc30:=hb30; try simp only [Y6] at hc30
  refine .skip (.region (.run 2 rfl ⟨⟨by omega,by omega⟩,trivial⟩ (.nil ?_)))
  refine ⟨i+1,⟨rfl,rfl,rfl,trivial⟩,⟨by omega,fun j hj hjl=>?_,hw⟩,by omega⟩
  rcases Yr j i with h1 | h1
  ·exact hok j h1 hjl
  ·have e:j=i:=by omega
   subst e
   rw [Xdg] at hb30
   simpa using hb30
 have hc15:=hb15; try simp only [Y6] at hc15
 refine .exit (.seq (.q 1 rfl (.ret (X9 Xqt rfl ?_))))
 refine ⟨_,rfl,?_,hw.symm⟩
 rw [X4y,X7s hok (by omega),Bool.and_true]
 obtain ⟨h1,h2⟩:=(Y1c).1 hb11
 rw [show decide (64<s.length)=false from decide_eq_false (by simp only [decide_eq_false_iff_not] at h2; omega),show s.isEmpty=false by cases s with | nil=>simp at h1 | cons a b=>rfl]
 rfl
theorem Xho (s:List UInt8) (hl:s.length≤1000000) (w:World) :
  Calls Tryz.prog 186 [S s].toArray w (Ret fun v w'=>v=.bool (s.all X3h)∧w=w'):=by
 obtain ⟨w0,hw0⟩:∃ w0,w=w0:=⟨_,rfl⟩
 rw [show (fun (v:Value) (w':World)=>v=.bool (s.all X3h)∧w=w')=(fun v w'=>v=.bool (s.all X3h)∧w0=w') by rw [hw0]]
 refine calls Tryz.func186 rfl Tryz.ntmps186 rfl (.seq (.q 1 rfl (.seq (.seq (.region (.run 3 rfl ⟨Qu9,trivial⟩ (.nil (.block (.loop (σ:=Nat) (fun i=>[(0,S s),(6,I64 (s.length:Nat)),(7,I64 (i:Nat))]) (fun i w=>i≤s.length∧(∀ j,j<i→j<s.length→X3h (at_ s (j:Int))=true)∧w=w0) (fun i=>s.length - i) 0 ⟨rfl,rfl,rfl,trivial⟩ ⟨Yp _,fun _ h=>absurd h (by omega),hw0⟩ ?_)))))))))
 rintro i w ⟨hi,hok,hw⟩
 refine .seq (.q 1 rfl (.seq ?_))
 refine WC.cond rfl (fun hb8=>?_) (fun hb8=>?_)
 ·
  have hc8:=hb8; try simp only [Y6] at hc8
  refine .skip (.seq (.block (.seq (.q 2 rfl (.seq (.region (.run 4 rfl ⟨⟨⟨by omega,by omega⟩,Qu9⟩,trivial⟩ (.nil (.seq (.t 3 rfl (.gval rfl rfl (fun hg1=>(.move (.of rfl))) rfl (.gval rfl rfl (fun hg1=>(.gtr (.gd hg1 rfl) (.of rfl))) rfl (.val (.por (.of rfl) (.of rfl) (.of rfl)) rfl (.q 1 rfl (.gval rfl rfl (fun hg1=>(.move (.of rfl))) rfl ?_)))))))))))))))
  refine WL.gcall (T:=fun w=>w=w0) rfl rfl rfl Qf181 rfl (fun hg1=>(X0 (.of rfl) (X0 (.gd hg1 rfl) X4))) rfl (fun hg1=>(X40 BAD (at_ s (i:Int)) _).mono (fun e w2 he=>by obtain ⟨v,a,b,c⟩:=he; exact ⟨v,a,b,by rw [← c]; exact hw⟩)) hw ?_
  rintro w hw
  refine .gval rfl rfl (fun hg1=>(.geq (.gd hg1 rfl) (.of rfl))) rfl (.val (.por (.of rfl) (.of rfl) (.of rfl)) rfl (.nil ?_))
  refine WC.cond rfl (fun hb23=>?_) (fun hb23=>?_)
  ·
   have hc23:=hb23; try simp only [Y6] at hc23
   refine .seq (.q 1 rfl (.ret (X9 Tryz.results186 rfl ?_)))
   refine ⟨_,rfl,?_,hw.symm⟩
   rw [Xas] at hb23
   rw [X77 (p:=X3h) (i:=i) (by omega) (by simpa using hb23)]
  have hc23:=hb23; try simp only [Y6] at hc23
  refine .skip (.region (.run 2 rfl ⟨⟨by omega,by omega⟩,trivial⟩ (.nil ?_)))
  refine ⟨i+1,⟨rfl,rfl,rfl,trivial⟩,⟨by omega,fun j hj hjl=>?_,hw⟩,by omega⟩
  rcases Yr j i with h1 | h1
  ·exact hok j h1 hjl
  ·have e:j=i:=by omega
   subst e
   rw [Xas] at hb23
   simpa using hb23
 have hc8:=hb8; try simp only [Y6] at hc8
 refine .exit (.seq (.q 1 rfl (.ret (X9 Tryz.results186 rfl ?_))))
 refine ⟨_,rfl,?_,hw.symm⟩
 rw [X7s hok (by omega)]
theorem Xjp (s:List UInt8) (i:Nat) (h4:i≤4) (h:∀ j,j<i→j<s.length→Xcn (at_ s (j:Int))=true):val (s.take i)≤9999:=by
 have step:∀ k,k≤i→val (s.take k)+1≤10 ^ k:=by
  intro k
  induction k with
  | zero=>intro _; simp [val]
  | succ k ih =>
   intro hk
   have:=ih (by omega)
   rcases Yr k s.length with hl | hl
   ·rw [X3z s k hl,Y2b]
    have hd:=h k (by omega) hl
    simp only [Xcn,Yq,decide_eq_true_eq,Y1m] at hd
    have e1:(48:UInt8).toNat=48:=rfl
    have e2:(57:UInt8).toNat=57:=rfl
    rw [e1,e2] at hd
    omega
   ·rw [show s.take (k+1)=s.take k by rw [Yx (by omega),Yx (by omega)],Y2b]
    omega
 have h1:=step i (Yt _)
 have h2:10 ^ i≤10 ^ 4:=Y3g (by decide) h4
 have h3:10 ^ 4=10000:=by decide
 omega
theorem Xol (s sch:List UInt8) (hl:s.length≤1000000) (w:World) :
  Calls Tryz.prog 152 [S s,S sch].toArray w (Ret fun v w'=>v=(if X1g s then Value.tuple #[I64 (X5y s sch:Nat),.bool true] else .tuple #[I64 0,.bool false])∧w=w'):=by
 obtain ⟨w0,hw0⟩:∃ w0,w=w0:=⟨_,rfl⟩
 rw [show (fun (v:Value) (w':World)=>v=(if X1g s then Value.tuple #[I64 (X5y s sch:Nat),.bool true] else .tuple #[I64 0,.bool false])∧w=w')=(fun v w'=>v=(if X1g s then Value.tuple #[I64 (X5y s sch:Nat),.bool true] else .tuple #[I64 0,.bool false])∧w0=w') by rw [hw0]]
 refine calls Tryz.func152 rfl Tryz.ntmps152 rfl (.seq (.q 2 rfl (.seq (.q 1 rfl (.seq (.seq (.region (.run 3 rfl ⟨Qu9,trivial⟩ (.nil (.block (.loop (σ:=Nat) (fun i=>[(0,S s),(1,S sch),(6,I64 (val (s.take i):Nat)),(10,I64 (s.length:Nat)),(11,I64 (i:Nat))]) (fun i w=>i≤s.length∧i≤5∧(∀ j,j<i→j<s.length→Xcn (at_ s (j:Int))=true)∧(0<i→at_ s 0≠48)∧w=w0) (fun i=>s.length - i) 0 ⟨rfl,rfl,rfl,rfl,rfl,trivial⟩ ⟨Yp _,by decide,fun _ h=>absurd h (by omega),fun h=>absurd h (by omega),hw0⟩ ?_)))))))))))
 rintro i w ⟨hi,hi5,hok,h0,hw⟩
 refine .seq (.q 1 rfl (.seq ?_))
 refine WC.cond rfl (fun hb12=>?_) (fun hb12=>?_)
 ·
  have hc12:=hb12; try simp only [Y6] at hc12
  refine .skip (.seq (.block (.seq (.q 2 rfl (.seq (.region (.run 4 rfl ⟨⟨⟨by omega,by omega⟩,Qu9⟩,trivial⟩ (.nil (.seq (.seq (.t 3 rfl (.gval rfl rfl (fun hg1=>(.move (.of rfl))) rfl (.gval rfl rfl (fun hg1=>(.gtr (.gd hg1 rfl) (.of rfl))) rfl (.val (.por (.of rfl) (.of rfl) (.of rfl)) rfl (.q 1 rfl (.gval rfl rfl (fun hg1=>(.move (.of rfl))) rfl (.gval rfl rfl (fun hg1=>(.eql (.gd hg1 rfl) (.of rfl))) rfl (.gval rfl rfl (fun hg1=>(.move (.gd hg1 rfl))) rfl (.gval2 rfl rfl rfl (fun hg1 hg2=>(.move (.of rfl))) rfl (.gval2 rfl rfl rfl (fun hg1 hg2=>(.eql (.gd2 hg1 hg2 rfl) (.of rfl))) rfl (.gval rfl rfl (fun hg1=>(.pand (.gd hg1 rfl) (.gd hg1 rfl) (.of rfl))) rfl (.val (.por (.of rfl) (.of rfl) (.of rfl)) rfl (.q 1 rfl (.gval rfl rfl (fun hg1=>(.move (.of rfl))) rfl (.gval rfl rfl (fun hg1=>(.gtr (.gd hg1 rfl) (.of rfl))) rfl (.val (.por (.of rfl) (.of rfl) (.of rfl)) rfl (.nil ?_)))))))))))))))))))))))))))
  refine WC.cond rfl (fun hb34=>?_) (fun hb34=>?_)
  ·
   have hc34:=hb34; try simp only [Y6] at hc34
   refine .seq (.q 2 rfl (.ret (X1m Xnr rfl rfl ?_)))
   have hbad:X1g s=false:=by
    have h:=hb34
    rcases Y23.1 h with h | h
    ·rcases Y23.1 h with h | h
     ·rw [X8h] at h
      unfold X1g
      rw [X77 (p:=Xcn) (i:=i) (by omega) (by simpa using h)]
      rfl
     ·simp only [Yq,beq_iff_eq] at h
      have e0:i=0:=by omega
      subst e0
      unfold X1g
      have:s.headD 0=48:=by
       have h2:(at_ s ((0:Nat):Int)).toNat=48:=by omega
       have h3:at_ s ((0:Nat):Int)=48:=Y16.1 h2
       cases s with
       | nil=>simp at hc12
       | cons a b=>exact h3
      rw [this]
      simp
    ·simp only [decide_eq_true_eq] at h
     have e5:i=5:=by omega
     have hd0:=hok 0 (by omega) (by omega)
     unfold X1g
     rw [decide_eq_false (show ¬ val s≤65535 from fun hh=>by have:=Xqu s (by omega) hd0 (h0 (by omega)); omega)]
     simp
   refine ⟨_,rfl,?_,hw.symm⟩
   rw [if_neg (by rw [Y2i]; exact hbad)]
  have hc34:=hb34; try simp only [Y6] at hc34
  refine .skip ?_
  have hbyte:=(at_ s (i:Int)).toNat_lt
  have hnb:¬ (((decide (((at_ s (i:Int)).toNat:Int)<48) || decide (57<((at_ s (i:Int)).toNat:Int))) || ((i:Int) == 0) && (((at_ s (i:Int)).toNat:Int) == 48)) || decide (4<(i:Int)))=true:=by rw [hb34]; decide
  have hdig:Xcn (at_ s (i:Int))=true:=by
   cases hd:Xcn (at_ s (i:Int)) with
   | true=>rfl
   | false=>exact absurd (by rw [X8h,hd]; rfl) hnb
  have hrg:48≤(at_ s (i:Int)).toNat∧(at_ s (i:Int)).toNat≤57:=by
   have:=hdig
   simp only [Xcn,Yq,decide_eq_true_eq,Y1m] at this
   have e1:(48:UInt8).toNat=48:=rfl
   have e2:(57:UInt8).toNat=57:=rfl
   rw [e1,e2] at this; exact this
  have hi4:i≤4:=by
   rcases Yr 4 i with h | h
   ·exact absurd (by rw [decide_eq_true (show 4<(i:Int) by omega),Bool.or_true]) hnb
   ·exact h
  have hh0:i=0→(at_ s (i:Int)).toNat≠48:=fun e h=>absurd (by
   rw [show ((i:Int) == 0)=true by simp [e],show (((at_ s (i:Int)).toNat:Int) == 48)=true by simp [h]]; simp) hnb
  have hv4:=Xjp s i hi4 hok
  refine .region (.run 3 rfl ⟨⟨by omega,by omega⟩,trivial⟩ ?_)
  refine WL.val (.subx (.of rfl) (.of rfl) (by rw [IntKind.wrap_u8]; omega)) rfl (WL.val (.cvi (.of rfl) Qu5 Qu3 (by rw [IntKind.wrap_i64]; omega)) rfl (.run 2 rfl ⟨⟨by omega,by omega⟩,trivial⟩ (.nil (.region (.run 2 rfl ⟨⟨by omega,by omega⟩,trivial⟩ (.nil ?_))))))
  refine ⟨i+1,⟨rfl,rfl,?_,rfl,rfl,trivial⟩,⟨by omega,by omega,fun j hj hjl=>?_,fun _=>?_,hw⟩,by omega⟩
  ·rw [X3z s i (by omega)]
   show some _=some _
   congr 3
   omega
  ·rcases Yr j i with h1 | h1
   ·exact hok j h1 hjl
   ·have e:j=i:=by omega
    rw [e]; exact hdig
  ·rcases Y1n i with e | e
   ·subst e
    intro h
    exact hh0 rfl (by show (at_ s ((0:Nat):Int)).toNat=48; rw [show ((0:Nat):Int)=0 from rfl,h]; rfl)
   ·exact h0 e
 have hc12:=hb12; try simp only [Y6] at hc12
 refine .exit (.seq (.seq (.t 3 rfl (.gval rfl rfl (fun hg1=>(.move (.of rfl))) rfl (.gval rfl rfl (fun hg1=>(.gtr (.gd hg1 rfl) (.of rfl))) rfl (.val (.por (.of rfl) (.of rfl) (.of rfl)) rfl (.nil ?_)))))))
 refine WC.cond rfl (fun hb47=>?_) (fun hb47=>?_)
 ·
  have hc47:=hb47; try simp only [Y6] at hc47
  refine .seq (.q 2 rfl (.ret (X1m Xnr rfl rfl ?_)))
  have hlen:s.length=i:=by omega
  rw [← hlen,Y1b] at hb47
  have hbad:X1g s=false:=by
   unfold X1g
   rcases Y23.1 hb47 with h | h
   ·simp only [decide_eq_true_eq] at h
    rw [decide_eq_false (show ¬ 1≤val s by omega)]; simp
   ·simp only [decide_eq_true_eq] at h
    rw [decide_eq_false (show ¬ val s≤65535 by omega)]; simp
  refine ⟨_,rfl,?_,hw.symm⟩
  rw [if_neg (by rw [Y2i]; exact hbad)]
 have hc47:=hb47; try simp only [Y6] at hc47
 refine .skip (.seq (.seq (.t 2 rfl (.call Tryz.func185 rfl (X0 (.of rfl) X4) rfl (Xs6 sch _) ?_))))
 rintro _ w ⟨rfl,hw1⟩
 rw [hw] at hw1
 refine .q 1 rfl (.nil ?_)
 refine WC.cond rfl (fun hb51=>?_) (fun hb51=>?_)
 ·
  have hc51:=hb51; try simp only [Y6] at hc51
  refine .q 1 rfl (.seq (.q 3 rfl (.ret (X1m Xnr rfl rfl ?_))))
  have hlen:s.length=i:=by omega
  have hb47':=hb47
  rw [← hlen,Y1b] at hb47'
  have hgood:X1g s=true:=by
   unfold X1g
   obtain ⟨h1,h2⟩:=Y1c.1 hb47'
   simp only [decide_eq_false_iff_not] at h1 h2
   have hne:s≠[]:=fun e=>by rw [e] at h1; simp [val] at h1
   have hp:0<s.length:=Y22.2 hne
   rw [X7s hok (by omega),decide_eq_true (show 1≤val s by omega),decide_eq_true (show val s≤65535 by omega)]
   have:=h0 (by omega)
   have e:s.headD 0=at_ s 0:=by cases s with | nil=>exact absurd rfl hne | cons a b=>rfl
   rw [e]
   simp [this]
  refine ⟨_,rfl,?_,hw1⟩
  rw [if_pos hgood,X5y]
  have hb51':=hb51
  rw [← hlen,Y1b] at hb51'
  rw [if_pos (by simp only [beq_iff_eq] at hb51'; omega)]; rfl
 have hc51:=hb51; try simp only [Y6] at hc51
 refine .skip (.seq (.q 3 rfl (.ret (X1m Xnr rfl rfl ?_))))
 have hlen:s.length=i:=by omega
 have hb47':=hb47
 rw [← hlen,Y1b] at hb47'
 have hgood:X1g s=true:=by
  unfold X1g
  obtain ⟨h1,h2⟩:=Y1c.1 hb47'
  simp only [decide_eq_false_iff_not] at h1 h2
  have hne:s≠[]:=fun e=>by rw [e] at h1; simp [val] at h1
  have hp:0<s.length:=Y22.2 hne
  rw [X7s hok (by omega),decide_eq_true (show 1≤val s by omega),decide_eq_true (show val s≤65535 by omega)]
  have:=h0 (by omega)
  have e:s.headD 0=at_ s 0:=by cases s with | nil=>exact absurd rfl hne | cons a b=>rfl
  rw [e]
  simp [this]
 refine ⟨_,rfl,?_,hw1⟩
 rw [if_pos hgood,X5y]
 have hb51':=hb51
 rw [← hlen,Y1b] at hb51'
 rw [if_neg (by simp only [beq_eq_false_iff_ne] at hb51'; omega),← hlen,Y1b]
theorem Xhv (n:Int) (w:World) :
  Calls Tryz.prog 207 [I64 n].toArray w (Ret fun v w'=>v=.bool (decide (8<n))∧w=w'):=by
 refine calls Tryz.func207 rfl Tryz.ntmps207 rfl (.seq (.q 1 rfl (.seq (.q 3 rfl (.ret (X9 Tryz.results207 rfl ?_))))))
 exact ⟨_,rfl,rfl,rfl⟩
theorem Xbt (r:Int) (w:World):Calls Tryz.prog 224 [.int .i32 r].toArray w (Ret fun v w'=>v=.bool (Go.Lib.validRune r)∧w=w') :=
 (Tryz.utf8_ValidRune r w).mono fun e w' he=>by
  obtain ⟨rfl,rfl⟩:=he
  exact ⟨_,rfl,rfl,rfl⟩
theorem Xdt (cs:List UInt8) (hca:Asc cs) (hl:cs.length≤1000) (r:Int) (h0:128≤r) (h1:r≤1114111) (B w:World) (I:Im) (As:List X8) (hS:Sat B w I As) :
  Calls Tryz.prog 206 [S cs,.int .i32 r].toArray w (Ret fun v w'=>v=I64 (-1)∧Sat B w' I As):=by
 refine calls Qf206 rfl Tryz.ntmps206 rfl (.seq (.q 1 rfl (.block (.seq (.t 3 rfl (.gval rfl rfl (fun hg1=>(.move (.of rfl))) rfl (.gval rfl rfl (fun hg1=>(.lss (.gd hg1 rfl) (.of rfl))) rfl (.val (.pand (.of rfl) (.of rfl) (.of rfl)) rfl (.q 1 rfl (.nil ?_))))))))))
 refine WC.cond rfl (fun hb160=>by exfalso; simp only [Y6] at hb160; omega) (fun hb160=>?_)
 have hc160:=hb160; try simp only [Y6] at hc160
 refine .seq (.q 3 rfl ?_)
 refine WC.cond rfl (fun hb171=>?_) (fun hb171=>?_)
 ·
  refine .seq (.seq (.t 1 rfl (.range (s:=cs) hS (.of rfl) Qu9 rfl ?_)))
  clear hS; intro b175 w hS
  refine .nil (.block (.loop (σ:=Nat) (fun i=>[(175,ptr b175 0)]) (fun i w=>i≤cs.length∧Sat B w I (own b175 (.stringIter ⟨cs.toArray⟩ i)::As)) (fun i=>cs.length - i) 0 ⟨rfl,trivial⟩ ⟨Yp _,hS⟩ ?_))
  rintro i w ⟨hi,hS⟩
  refine .seq (.region ?_)
  refine WL.next (i:=i) hS (k:=0) rfl (.of rfl) rfl (fun hn=>?_) (fun hn=>?_)
  ·
   refine .q 1 rfl (.nil (.seq (.condF (rfl) (.exit (.seq (.q 1 rfl (.ret (X9 Xo1 rfl ?_))))))))
   exact ⟨_,rfl,rfl,hS.drop (k:=0) rfl⟩
  ·
   rw [X9i cs i hn (hca i _ (Xz hn))]
   have hb7:=hca i _ (Xz hn)
   clear hS; intro w hS
   refine .q 1 rfl (.nil (.seq (.condT (rfl) (.skip (.block (.seq (.q 4 rfl (.seq (.q 2 rfl ?_)))))))))
   refine WC.cond rfl (fun hb181=>by exfalso; simp only [Y6] at hb181; omega) (fun hb181=>?_)
   refine .skip ?_
   exact ⟨i+1,⟨rfl,trivial⟩,⟨by omega,hS⟩,by omega⟩
 have hc171:=hb171; try simp only [Y6] at hc171
 refine .seq (.t 1 rfl (.call Qf224 rfl (X0 (.of rfl) X4) rfl (Xbt r _) ?_))
 rintro _ _ ⟨rfl,rfl⟩
 refine .q 2 rfl (.nil ?_)
 refine WC.cond rfl (fun hb183=>?_) (fun hb183=>?_)
 ·
  refine .seq (.q 1 rfl (.ret (X9 Xo1 rfl ?_)))
  exact ⟨_,rfl,rfl,hS⟩
 have hc183:=hb183; try simp only [Y6] at hc183
 refine .scope (.seq ?_)
 have hvv:Go.Utf8.valid r=true:=Xno r (by simpa using hb183)
 obtain ⟨he2,he4,heb⟩:=Xkh r hvv h0
 refine .t 1 rfl ?_
 refine WL.val (.runeStr (.of rfl) (by rw [Qu21]; rfl) Qu9) rfl ?_
 refine .q 1 rfl (.nil (.seq (.region (.run 4 rfl ⟨Qu9,⟨by omega,by omega⟩,trivial⟩ (.nil (.seq (.q 2 rfl (.seq (.q 1 rfl (.seq (.block (.loop (σ:=Unit) (fun _=>[(0,S cs),(7,S (Xae r)),(8,I64 ((((Xae r).length:Nat):Int) - 1)),(9,I64 ((((Xae r).length:Nat):Int) - 1))]) (fun _ w=>Sat B w I As) (fun _=>0) () ⟨rfl,rfl,rfl,rfl,trivial⟩ hS ?_))))))))))))
 rintro _ w hS
 refine .seq (.seq (.region (.run 4 rfl ⟨Qu9,trivial⟩ (.nil ?_))))
 refine WC.cond rfl (fun hb26=>?_) (fun hb26=>?_)
 ·
  have hc26:=hb26; try simp only [Y6] at hc26
  refine .skip (.block (.scope (.seq (.seq ?_))))
  have hA:(at_ cs ((((Xae r).length:Nat):Int) - 1)).toNat<128:=hca ((((Xae r).length:Nat):Int) - 1).toNat _ (by rw [at_,Y7,Y4 (by omega)]; rfl)
  refine .quiet (by kernel_rfl) (by kernel_rfl) hS (.val (fun w hS=>(.move (.of rfl))) rfl (.val (fun w hS=>(.move (.of rfl))) rfl (.val (fun w hS=>(.index (.of rfl) (.of rfl) (by omega) (by omega) Qu9)) rfl (.val (fun w hS=>(.move (.of rfl))) rfl (.val (fun w hS=>(.move (.of rfl))) rfl (.val (fun w hS=>(.index (.of rfl) (.of rfl) (by omega) (by omega) Qu9)) rfl (.val (fun w hS=>(.neq (.of rfl) (.of rfl))) rfl (.nil ?_))))))))
  clear hS; intro w hS
  refine WC.cond rfl (fun hb33=>?_) (fun hb33=>by exfalso; simp only [Y6] at hb33; omega)
  have hc33:=hb33; try simp only [Y6] at hc33
  refine .seq (.quiet (by kernel_rfl) (by kernel_rfl) hS (.val (fun w hS=>(.move (.of rfl))) rfl (.val (fun w hS=>(.move (.of rfl))) rfl (.val (fun w hS=>(.add (.of rfl) (.of rfl) ⟨by omega,by omega⟩)) rfl (.val (fun w hS=>(.subFrom (.of rfl) (.of rfl) (by omega) (by omega) Qu9)) rfl (.val (fun w hS=>(.move (.of rfl))) rfl (.val (fun w hS=>(.move (.of rfl))) rfl (.val (fun w hS=>(.index (.of rfl) (.of rfl) (by omega) (by omega) Qu9)) rfl (.call Qf181 rfl (X0 (.of rfl) (X0 (.of rfl) X4)) rfl (fun w hS=>X20 (X40 _ (at_ (Xae r) ((((Xae r).length:Nat):Int) - 1)) w) hS) (.val (fun w hS=>(.assign (.of rfl))) rfl (.nil ?_)))))))))))
  clear hS; intro w hS
  refine .seq (.seq ?_)
  have hN:=Xe1 (l:=cs.drop ((((Xae r).length:Nat):Int) - 1+1).toNat) (c:=at_ (Xae r) ((((Xae r).length:Nat):Int) - 1)) heb (fun j b h=>by rw [Y1g] at h; exact hca _ _ h)
  refine .q 2 rfl ?_
  refine WC.cond rfl (fun hb43=>?_) (fun hb43=>by exfalso; simp only [Y6] at hb43; omega)
  refine .seq (.q 1 rfl (.ret (X9 Xo1 rfl ?_)))
  exact ⟨_,rfl,rfl,hS⟩
 refine .exit (.seq (.seq (.q 1 rfl (.ret (X9 Xo1 rfl ?_)))))
 exact ⟨_,rfl,rfl,hS⟩
theorem Xbh (cs:List UInt8) (hca:Asc cs) (hl:cs.length≤1000) (r:Nat) (h1:r≤1114111) (B w:World) (I:Im) (As:List X8) (hS:Sat B w I As):Calls Tryz.prog 206 [S cs,.int .i32 r].toArray w (Ret fun v w'=>v=I64 (if r<128 then Go.Lib.indexByte cs (UInt8.ofNat r) else -1)∧Sat B w' I As):=by
 rcases Yr r 128 with h | h
 ·refine (Tryz.strings_IndexRune_ascii ⟨cs.toArray⟩ r w (by omega) (by omega)).mono fun e w' he=>?_
  obtain ⟨rfl,rfl⟩:=he
  refine ⟨_,rfl,?_,hS⟩
  rw [if_pos h]
  simp
 ·rw [if_neg (by omega)]
  exact Xdt cs hca hl r (by omega) (by omega) B w I As hS
theorem Xdi (s cs:List UInt8) (hca:Asc cs) (hl:cs.length≤1000) (h2:2≤cs.length) (h8:s.length≤8) (hne:(cs == [])=false) (B w:World) (I:Im) (As:List X8) (hS:Sat B w I As) :
  Calls Tryz.prog 182 [S s,S cs].toArray w (Ret fun v w'=>v=I64 (Go.Lib.indexAny s cs)∧Sat B w' I As):=by
 refine calls Tryz.func182 rfl Tryz.ntmps182 rfl (.seq (.q 1 rfl (.seq (.seq (.q 2 rfl ?_)))))
 refine WC.condF (by show some (Value.bool (cs == []))=_; rw [hne]) ?_
 refine .skip (.seq (.seq (.region (.run 3 rfl ⟨Qu9,trivial⟩ (.nil ?_)))))
 refine WC.cond rfl (fun hb15=>by exfalso; simp only [Y6] at hb15; omega) (fun hb15=>?_)
 have hc15:=hb15; try simp only [Y6] at hc15
 refine .skip (.seq (.seq (.region (.run 2 rfl ⟨Qu9,trivial⟩ (.call Tryz.func207 rfl (X0 (.of rfl) X4) rfl (Xhv _ _) ?_)))))
 rintro _ _ ⟨rfl,rfl⟩
 refine .nil ?_
 refine WC.cond rfl (fun hb26=>by exfalso; simp only [Y6] at hb26; omega) (fun hb26=>?_)
 have hc26:=hb26; try simp only [Y6] at hc26
 refine .skip (.seq (.seq (.t 1 rfl (.range (s:=s) hS (.of rfl) Qu9 rfl ?_))))
 clear hS; intro b45 w hS
 refine .nil (.block (.loop (σ:=Nat) (fun i=>[(1,S cs),(45,ptr b45 0)]) (fun i w=>i≤s.length∧Go.Lib.NoAny s cs i∧Sat B w I (own b45 (.stringIter ⟨s.toArray⟩ i)::As)) (fun i=>s.length - i) 0 ⟨rfl,rfl,trivial⟩ ⟨Yp _,Go.Lib.NoAny.zero _ _,hS⟩ ?_))
 rintro i w ⟨hi,hno,hS⟩
 refine .seq (.region ?_)
 refine WL.next (i:=i) hS (k:=0) rfl (.of rfl) rfl (fun hn=>?_) (fun hn=>?_)
 ·
  refine .q 1 rfl (.nil (.seq (.condF (rfl) (.exit (.seq (.q 1 rfl (.ret (X9 Tryz.results182 rfl ?_))))))))
  exact ⟨_,rfl,by rw [Go.Lib.indexAny_none (by rw [show s.length=i by omega]; exact hno)],hS.drop (k:=0) rfl⟩
 ·
  clear hS; intro w hS
  refine .q 1 rfl (.nil (.seq (.condT (rfl) (.skip (.block (.seq ?_))))))
  have hdm:(Go.Utf8.decode ⟨s.toArray⟩ i).1≤1114111:=by
   rcases Yr (at_ s (i:Int)).toNat 128 with h | h
   ·rw [X9i s i hn h]; dsimp only; omega
   ·exact (Xe0 s i hn h).2.1
  obtain ⟨hyes,hnot⟩:=Xp8 hca hn hno
  unfold rv at hyes hnot
  refine .q 4 rfl (.seq (.t 2 rfl (.call Qf206 rfl (X0 (.of rfl) (X0 (.of rfl) X4)) rfl (Xbh cs hca hl (Go.Utf8.decode ⟨s.toArray⟩ i).1 hdm B _ I _ hS) ?_)))
  clear hS
  rintro _ w ⟨rfl,hS⟩
  refine .q 1 rfl (.nil ?_)
  refine WC.cond rfl (fun hb53=>?_) (fun hb53=>?_)
  ·
   have hc53:=hb53; try simp only [Y6] at hc53
   refine .seq (.q 2 rfl (.ret (X9 Tryz.results182 rfl ?_)))
   refine ⟨_,rfl,?_,hS.drop (k:=0) rfl⟩
   rw [hyes (by omega)]
   rfl
  have hc53:=hb53; try simp only [Y6] at hc53
  refine .skip ?_
  obtain ⟨hn1,hn2,hn3⟩:=hnot (by omega)
  exact ⟨_,⟨rfl,rfl,trivial⟩,⟨hn2,hn1,hS⟩,by omega⟩
theorem Xcr (s cs:List UInt8) (hs:s.length≤1000000) (hca:Asc cs) (hl:cs.length≤1000) (h2:2≤cs.length) (B w:World) (I:Im) (As:List X8) (hS:Sat B w I As):Calls Tryz.prog 182 [S s,S cs].toArray w (Ret fun v w'=>v=I64 (Go.Lib.indexAny s cs)∧Sat B w' I As):=by
 rcases Yr 8 s.length with h | h
 ·refine (Tryz.strings_IndexAny_long (zero_of_info (n:=256) (by kernel_rfl)).1 ⟨s.toArray⟩ ⟨cs.toArray⟩ w h2 h (by show s.length<_; omega) (by show cs.length<_; omega) hca).mono fun e w' he=>?_
  obtain ⟨rfl,rfl⟩:=he
  exact ⟨_,rfl,rfl,(((hS.alloc _).alloc _).drop (k:=0) rfl).drop (k:=0) rfl⟩
 ·exact Xdi s cs hca hl h2 h (by cases cs with | nil=>simp at h2 | cons a b=>rfl) B w I As hS
theorem Xlb (s cs:List UInt8) (hs:s.length≤1000000) (hca:Asc cs) (hl:cs.length≤1000) (h2:2≤cs.length) (B w:World) (I:Im) (As:List X8) (hS:Sat B w I As) :
  Calls Tryz.prog 149 [S s,S cs].toArray w (Ret fun v w'=>v=.tuple #[S (upto cs s),S (Xe cs s)]∧Sat B w' I As):=by
 refine calls Tryz.func149 rfl Tryz.ntmps149 rfl (.seq (.q 2 rfl (.seq (.seq (.t 2 rfl (.call Tryz.func182 rfl (X0 (.of rfl) (X0 (.of rfl) X4)) rfl (Xcr s cs hs hca hl h2 B _ I As hS) ?_))))))
 clear hS
 rintro _ w ⟨rfl,hS⟩
 refine .q 1 rfl (.nil (.seq ?_))
 have hge:=Go.Lib.indexAny_ge cs s
 refine .q 2 rfl (WC.cond rfl (fun hb11=>?_) (fun hb11=>?_))
 ·
  have hc11:=hb11; try simp only [Y6] at hc11
  refine .seq ?_
  obtain ⟨k,hk⟩:∃ k:Nat,Go.Lib.indexAny s cs=k:=⟨(Go.Lib.indexAny s cs).toNat,by omega⟩
  obtain ⟨hc1,hc2,hc3⟩:=Xbg hk
  rw [hk]
  refine .quiet (by kernel_rfl) (by kernel_rfl) hS (.val (fun w hS=>(.move (.of rfl))) rfl (.val (fun w hS=>(.move (.of rfl))) rfl (.val (fun w hS=>(.subTo (.of rfl) (.of rfl) (by omega) (by omega) Qu9)) rfl (.val (fun w hS=>(.move (.of rfl))) rfl (.val (fun w hS=>(.move (.of rfl))) rfl (.val (fun w hS=>(.subFrom (.of rfl) (.of rfl) (by omega) (by omega) Qu9)) rfl (.val (fun w hS=>(.assign (.of rfl))) rfl (.val (fun w hS=>(.assign (.of rfl))) rfl (.nil ?_)))))))))
  clear hS; intro w hS
  refine .ret (X1m Tryz.results149 rfl rfl ?_)
  exact ⟨_,rfl,by rw [hc1,hc2,Yi],hS⟩
 have hc11:=hb11; try simp only [Y6] at hc11
 refine .skip (.seq (.q 3 rfl (.ret (X1m Tryz.results149 rfl rfl ?_))))
 obtain ⟨hc1,hc2⟩:=X8f (s:=s) (ats:=cs) (by omega)
 exact ⟨_,rfl,by rw [hc1,hc2],hS⟩
theorem Xlm (s:List UInt8) (hl:s.length≤1000000) (B w:World) (I:Im) (hd:DigAt I) (As:List X8) (hS:Sat B w I As):Calls Tryz.prog 187 [S s].toArray w (Ret fun v w'=>∃ n1 e1,v=.tuple #[S n1,I64 e1]∧(match X57 s with | none=>n1=[]∧e1=11 | some t=>n1=t∧e1=0)∧Sat B w' I As) :=
 (Xfw s hl B w I hd As hS).mono fun e w' he=>by
  obtain ⟨v,rfl,rfl,h⟩:=he
  cases X57 s with
  | none=>exact ⟨_,rfl,_,_,rfl,⟨rfl,rfl⟩,h⟩
  | some t=>exact ⟨_,rfl,_,_,rfl,⟨rfl,rfl⟩,h⟩
theorem Xh1 (s:List UInt8) (hl:s.length≤1000000) (B w:World) (I:Im) (hd:DigAt I) (As:List X8) (hS:Sat B w I As) :
  Calls Tryz.prog 153 [S s].toArray w (Ret fun v w'=>v=(match X1w s with | none=>.tuple #[S [],I64 15] | some t=>.tuple #[S t,I64 0])∧Sat B w' I As):=by
 refine calls Tryz.func153 rfl Tryz.ntmps153 rfl (.seq (.q 2 rfl (.seq (.seq (.t 1 rfl (.call Tryz.func186 rfl (X0 (.of rfl) X4) rfl (Xho s hl _) ?_))))))
 rintro _ _ ⟨rfl,rfl⟩
 refine .q 1 rfl (.nil ?_)
 refine WC.cond rfl (fun hb8=>?_) (fun hb8=>?_)
 ·
  have hc8:=hb8; try simp only [Y6] at hc8
  refine .seq (.q 2 rfl (.ret (X1m Xq7 rfl rfl ?_)))
  exact ⟨_,rfl,by rw [X1w,if_neg (by rw [hc8]; decide)],hS⟩
 have hc8:=hb8; try simp only [Y6] at hc8
 refine .skip (.seq (.t 1 rfl (.call Tryz.func187 rfl (X0 (.of rfl) X4) rfl (Xlm s hl B _ I hd As hS) ?_)))
 clear hS
 rintro _ w ⟨n1,e1,rfl,hne,hS⟩
 refine .q 5 rfl (.nil (.seq (.seq (.q 2 rfl ?_))))
 refine WC.cond rfl (fun hb15=>?_) (fun hb15=>?_)
 ·
  have hc15:=hb15; try simp only [Y6] at hc15
  refine .seq (.q 2 rfl (.ret (X1m Xq7 rfl rfl ?_)))
  refine ⟨_,rfl,?_,hS⟩
  rw [X1w,if_pos hc8]
  cases hn:X57 s with
  | none=>rfl
  | some t=>rw [hn] at hne; exact absurd hne.2 hc15
 have hc15:=hb15; try simp only [Y6] at hc15
 refine .skip (.seq (.q 3 rfl (.ret (X1m Xq7 rfl rfl ?_))))
 refine ⟨_,rfl,?_,hS⟩
 rw [X1w,if_pos hc8]
 cases hn:X57 s with
 | none=>rw [hn] at hne; have:=hne.2; omega
 | some t=>rw [hn] at hne; obtain ⟨rfl,rfl⟩:=hne; rfl
end Go.Proofs.YtadhiihnnkcagaaGreatDoor
namespace Pat
open Go Gk
theorem Xba {α:Type} (enc:α→List Value) (s:Nat) (hs:∀ x,(enc x).length=s):∀ (l:List α) (r:List Value) (i j:Nat) (x:α),l[i]?=some x→j<s→(l.flatMap enc ++ r)[i*s+j]?=(enc x)[j]?
 | [],_,_,_,_,h,_=>by simp at h
 | y::l,r,0,j,x,h,hj=>by
  simp at h
  subst h
  simp only [Y2c,Y3n,Yd,Ye]
  rw [Yg (by rw [hs]; exact hj)]
 | y::l,r,i+1,j,x,h,hj=>by
  simp only [Y2c,Ye]
  rw [Yv (by rw [hs,Y2z]; omega),hs]
  have e:(i+1)*s+j - s=i*s+j:=by rw [Y2z]; omega
  rw [e]
  exact Xba enc s hs l r i j x (by simpa using h) hj
theorem Xgm {α:Type} (enc:α→List Value) (s:Nat) (hs:∀ x,(enc x).length=s) (f:α→α) (j:Nat) (v:Value) (hf:∀ x,enc (f x)=(enc x).set j v) (hj:j<s):∀ (l:List α) (r:List Value) (i:Nat),i<l.length→(l.flatMap enc ++ r).set (i*s+j) v=(l.modify i f).flatMap enc ++ r
 | [],_,_,h=>by simp at h
 | y::l,r,0,_=>by
  simp only [Y2c,Y3n,Yd,Ye]
  rw [Y44 _ _ (by rw [hs]; exact hj)]
  simp [hf]
 | y::l,r,i+1,h=>by
  simp only [Y2c,Ye]
  rw [Y29 _ _ (by rw [hs,Y2z]; omega),hs]
  have e:(i+1)*s+j - s=i*s+j:=by rw [Y2z]; omega
  rw [e,Xgm enc s hs f j v hf hj l r i (by simpa using h)]
  simp
theorem X6m {α:Type} (enc:α→List Value) (s:Nat) (hs:∀ x,(enc x).length=s):∀ (l:List α),(l.flatMap enc).length=l.length*s
 | []=>by simp
 | y::l=>by simp only [Y2c,Y0,hs,X6m enc s hs l,Y8,Y2z]; omega
abbrev X2a:=Int×Int×Value
abbrev Pl:=Int×Int×List Int
def enc (x:X2a):List Value:=[.int .u8 x.1,.int .u8 x.2.1,x.2.2]
theorem X61 (x:X2a):(enc x).length=3:=rfl
def X5i (P:List X2a) (i:Nat) (v:Value):List X2a:=P.modify i fun x=>(x.1,x.2.1,v)
def X11 (Q:List Pl) (i:Nat) (xs:List Int):List Pl:=Q.modify i fun x=>(x.1,x.2.1,xs)
theorem X6n (P:List X2a) (i:Nat) (v:Value):(X5i P i v).length=P.length:=by simp [X5i]
theorem to_get {P:List X2a} {i:Nat} {x:X2a} (h:P[i]?=some x) (r:List Value):(P.flatMap enc ++ r)[0+i*3+2]?=some x.2.2:=by
 rw [Yd,Xba enc 3 X61 P r i 2 x h (by omega)]; rfl
theorem Xpt {P:List X2a} {i:Nat} (h:i<P.length) (r:List Value) (v:Value):(P.flatMap enc ++ r).set (0+i*3+2) v=(X5i P i v).flatMap enc ++ r:=by
 rw [Yd]; exact Xgm enc 3 X61 (fun x=>(x.1,x.2.1,v)) 2 v (fun _=>rfl) (by omega) P r i h
def IntsI (I:Im) (v:Value) (xs:List Int):Prop:=(xs=[]→v=.slice none 0 0)∧∃ a c,v=.slice a xs.length c∧xs.length≤c∧RS I a 1 xs.length (xs.map I64)
theorem IntsI.mono {I J:Im} {v:Value} {xs:List Int} (h:IntsI I v xs) (hl:Le I J):IntsI J v xs:=let ⟨h0,a,c,e,hc,hr⟩:=h; ⟨h0,a,c,e,hc,hr.mono hl⟩
theorem IntsI.nil (I:Im):IntsI I (.slice none 0 0) []:=⟨fun _=>rfl,none,0,rfl,Yt _,RS.nil I 1⟩
def RelP (I:Im) (P:List X2a) (Q:List Pl):Prop:=P.length=Q.length∧∀ (i:Nat) (p:X2a) (q:Pl),P[i]?=some p→Q[i]?=some q→p.1=q.1∧p.2.1=q.2.1∧IntsI I p.2.2 q.2.2
theorem RelP.mono {I J:Im} {P:List X2a} {Q:List Pl} (h:RelP I P Q) (hl:Le I J):RelP J P Q:=⟨h.1,fun i p q hp hq=>let ⟨a,b,c⟩:=h.2 i p q hp hq; ⟨a,b,c.mono hl⟩⟩
theorem RelP.nil (I:Im):RelP I [] []:=⟨rfl,fun _ _ _ h=>by simp at h⟩
theorem RelP.snoc {I:Im} {P:List X2a} {Q:List Pl} (h:RelP I P Q) (k c:Int) (v:Value) (xs:List Int) (hv:IntsI I v xs):RelP I (P ++ [(k,c,v)]) (Q ++ [(k,c,xs)]):=by
 refine ⟨by simp [h.1],fun i p q hp hq=>?_⟩
 rcases Nat.lt_trichotomy i P.length with hi | hi | hi
 ·rw [Yg hi] at hp
  rw [Yg (by rw [← h.1]; exact hi)] at hq
  exact h.2 i p q hp hq
 ·subst hi
  rw [Yv (Yt _)] at hp
  rw [h.1,Yv (Yt _)] at hq
  simp at hp hq
  subst hp; subst hq
  exact ⟨rfl,rfl,hv⟩
 ·rw [Y1x (by simp; omega)] at hp
  cases hp
theorem RelP.set {I:Im} {P:List X2a} {Q:List Pl} (h:RelP I P Q) (i:Nat) (v:Value) (xs:List Int) (hv:IntsI I v xs):RelP I (X5i P i v) (X11 Q i xs):=by
 refine ⟨by simp [X5i,X11,h.1],fun j p q hp hq=>?_⟩
 unfold X5i at hp
 unfold X11 at hq
 rw [Y1l] at hp hq
 by_cases e:i=j
 ·subst e
  simp only [if_true] at hp hq
  obtain ⟨p0,hp0,rfl⟩:=Y1t.1 hp
  obtain ⟨q0,hq0,rfl⟩:=Y1t.1 hq
  obtain ⟨a,b,_⟩:=h.2 i p0 q0 hp0 hq0
  exact ⟨a,b,hv⟩
 ·simp only [e,if_false] at hp hq
  exact h.2 j p q (by simpa using hp) (by simpa using hq)
def RelX (I:Im) (o:Nat) (P:List X2a) (Q:List Pl):Prop:=P.length=Q.length∧∀ (i:Nat) (p:X2a) (q:Pl),P[i]?=some p→Q[i]?=some q→p.1=q.1∧p.2.1=q.2.1∧(i≠o→IntsI I p.2.2 q.2.2)
theorem RelX.mono {I J:Im} {o:Nat} {P:List X2a} {Q:List Pl} (h:RelX I o P Q) (hl:Le I J):RelX J o P Q:=⟨h.1,fun i p q hp hq=>let ⟨a,b,c⟩:=h.2 i p q hp hq; ⟨a,b,fun hi=>(c hi).mono hl⟩⟩
theorem RelP.x {I:Im} {P:List X2a} {Q:List Pl} (h:RelP I P Q) (o:Nat):RelX I o P Q:=⟨h.1,fun i p q hp hq=>let ⟨a,b,c⟩:=h.2 i p q hp hq; ⟨a,b,fun _=>c⟩⟩
theorem RelX.setO {I:Im} {o:Nat} {P:List X2a} {Q:List Pl} (h:RelX I o P Q) (v:Value) (xs:List Int):RelX I o (X5i P o v) (X11 Q o xs):=by
 refine ⟨by simp [X5i,X11,h.1],fun j p q hp hq=>?_⟩
 unfold X5i at hp
 unfold X11 at hq
 rw [Y1l] at hp hq
 by_cases e:o=j
 ·subst e
  simp only [if_true] at hp hq
  obtain ⟨p0,hp0,rfl⟩:=Y1t.1 hp
  obtain ⟨q0,hq0,rfl⟩:=Y1t.1 hq
  obtain ⟨a,b,_⟩:=h.2 o p0 q0 hp0 hq0
  exact ⟨a,b,fun hi=>absurd rfl hi⟩
 ·simp only [e,if_false] at hp hq
  exact h.2 j p q (by simpa using hp) (by simpa using hq)
theorem RelX.setB {I:Im} {o:Nat} {P:List X2a} {Q:List Pl} (h:RelX I o P Q) (b:Nat) (v:Value) (xs:List Int) (hv:IntsI I v xs):RelX I o (X5i P b v) (X11 Q b xs):=by
 refine ⟨by simp [X5i,X11,h.1],fun j p q hp hq=>?_⟩
 unfold X5i at hp
 unfold X11 at hq
 rw [Y1l] at hp hq
 by_cases e:b=j
 ·subst e
  simp only [if_true] at hp hq
  obtain ⟨p0,hp0,rfl⟩:=Y1t.1 hp
  obtain ⟨q0,hq0,rfl⟩:=Y1t.1 hq
  obtain ⟨a,b,_⟩:=h.2 b p0 q0 hp0 hq0
  exact ⟨a,b,fun _=>hv⟩
 ·simp only [e,if_false] at hp hq
  exact h.2 j p q (by simpa using hp) (by simpa using hq)
theorem RelX.back {I:Im} {o:Nat} {P:List X2a} {Q:List Pl} (h:RelX I o P Q) (hv:∀ p q,P[o]?=some p→Q[o]?=some q→IntsI I p.2.2 q.2.2):RelP I P Q :=
 ⟨h.1,fun i p q hp hq=>by
  obtain ⟨a,b,c⟩:=h.2 i p q hp hq
  refine ⟨a,b,?_⟩
  by_cases e:i=o
  ·subst e; exact hv p q hp hq
  ·exact c e⟩
def X1j (n:Nat) (o:Nat):List Pl→List Int→List Nat→List Pl
 | Q,_,[]=>Q
 | Q,done,b::r=>X1j n o (X11 (X11 Q o (done ++ [(b:Int)+1])) b [(n:Int)]) (done ++ [(b:Int)+1]) r
theorem X30 (n o:Nat):∀ (r:List Nat) (Q:List Pl) (done:List Int),(X1j n o Q done r).length=Q.length
 | [],_,_=>rfl
 | b::r,Q,done=>by rw [X1j,X30 n o r]; simp [X11]
theorem Xhu {B w:World} {I:Im} {As:List X8} {k E:Nat} {v:Value} {xs:List Int} (hS:Sat B w I As) (hk:As[k]?=some (Vec E 1 v xs.length (xs.map I64))) (hn:xs=[]→v=.slice none 0 0):∃ J,Le I J∧IntsI J v xs∧Sat B w J (As.eraseIdx k):=by
 rcases Y1n xs.length with h0 | h0
 ·have hx:xs=[]:=Yh h0
  subst hx
  obtain ⟨a,c,rfl,hc,_⟩:=hS.vecSlice hk
  exact ⟨I,Le.refl I,⟨hn,a,c,rfl,hc,by simp,fun h=>absurd h (by simp)⟩,hS.drop hk⟩
 ·obtain ⟨b,cap,r,rfl,h1,h2,_,_,hSo⟩:=hS.vecOpen hk h0
  have hlk:k<As.length:=(Y5.1 hk).1
  obtain ⟨J,hJ,hb,hS'⟩:=hSo.freeze (k:=k) (b:=b) (o:=Xj (xs.map I64 ++ r) E) (by simp [hlk,blk])
  refine ⟨J,hJ,⟨hn,_,_,rfl,h1,by simp,fun _=>⟨_,rfl,rfl,_,_,_,hb,?_⟩⟩,by simpa [Y3f] using hS'⟩
  intro j u hj
  have hjl:j<(xs.map I64).length:=(Y5.1 hj).1
  simp only [Yd,List.getElem?_toArray]
  rw [Yg hjl]
  exact hj
abbrev PFr:=Nat×List Nat
def cmpGo:List UInt8→Int→List Pl→List PFr→List Int→Except (Int×Int) (List Pl)
 | [],_,Q,_,ats=>if 0<ats.length then .error (23,ats.getD (ats.length - 1) 0) else .ok (Q ++ [(7,0,[])])
 | c::r,i,Q,stk,ats =>
  if c.toNat=63 then cmpGo r (i+1) (Q ++ [(1,0,[])]) stk ats
  else if c.toNat=42 then (match r with
   | d::r'=>if d.toNat=42 then cmpGo r' (i+2) (Q ++ [(2,0,[])]) stk ats else cmpGo (d::r') (i+1) (Q ++ [(3,0,[])]) stk ats
   | []=>cmpGo [] (i+1) (Q ++ [(3,0,[])]) stk ats)
  else if c.toNat=40 then (if stk.length=4 then .error (24,i) else cmpGo r (i+1) (Q ++ [(4,0,[])]) ((Q.length,[])::stk) (ats ++ [i]))
  else if c.toNat=124 then (match stk with
   | []=>.error (10,i)
   | (o,bs)::rest=>cmpGo r (i+1) (Q ++ [(5,0,[])]) ((o,bs ++ [Q.length])::rest) ats)
  else if c.toNat=41 then (match stk with
   | []=>.error (10,i)
   | (o,bs)::rest=>cmpGo r (i+1) (X1j Q.length o Q [] bs ++ [(6,0,[])]) rest (ats.take rest.length))
  else if c.toNat=92 then (match r with | []=>.error (10,i) | d::r'=>cmpGo r' (i+2) (Q ++ [(0,(d.toNat:Int),[])]) stk ats)
  else cmpGo r (i+1) (Q ++ [(0,(c.toNat:Int),[])]) stk ats
theorem X3f (i:Int) (Q:List Pl) (stk:List PFr) (ats:List Int):cmpGo [] i Q stk ats=if 0<ats.length then .error (23,ats.getD (ats.length - 1) 0) else .ok (Q ++ [(7,0,[])]):=by rw [cmpGo.eq_def]
theorem Xi (c:UInt8) (r:List UInt8) (i:Int) (Q:List Pl) (stk:List PFr) (ats:List Int):cmpGo (c::r) i Q stk ats =
  if c.toNat=63 then cmpGo r (i+1) (Q ++ [(1,0,[])]) stk ats
  else if c.toNat=42 then (match r with
   | d::r'=>if d.toNat=42 then cmpGo r' (i+2) (Q ++ [(2,0,[])]) stk ats else cmpGo (d::r') (i+1) (Q ++ [(3,0,[])]) stk ats
   | []=>cmpGo [] (i+1) (Q ++ [(3,0,[])]) stk ats)
  else if c.toNat=40 then (if stk.length=4 then .error (24,i) else cmpGo r (i+1) (Q ++ [(4,0,[])]) ((Q.length,[])::stk) (ats ++ [i]))
  else if c.toNat=124 then (match stk with
   | []=>.error (10,i)
   | (o,bs)::rest=>cmpGo r (i+1) (Q ++ [(5,0,[])]) ((o,bs ++ [Q.length])::rest) ats)
  else if c.toNat=41 then (match stk with
   | []=>.error (10,i)
   | (o,bs)::rest=>cmpGo r (i+1) (X1j Q.length o Q [] bs ++ [(6,0,[])]) rest (ats.take rest.length))
  else if c.toNat=92 then (match r with | []=>.error (10,i) | d::r'=>cmpGo r' (i+2) (Q ++ [(0,(d.toNat:Int),[])]) stk ats)
  else cmpGo r (i+1) (Q ++ [(0,(c.toNat:Int),[])]) stk ats:=by rw [cmpGo.eq_def]
def cmp (l:List UInt8):Except (Int×Int) (List Pl):=if 200<l.length then .error (2,0) else cmpGo l 0 [] [] []
def Frames (Q:List Pl):Nat→List PFr→Prop
 | _,[]=>True
 | lim,(o,bs)::r=>o<lim∧Q[o]?=some (4,0,[])∧bs.length≤Q.length∧(∀ b∈bs,o<b∧b<Q.length)∧Frames Q o r
theorem Frames.grow {Q Q':List Pl}:∀ {stk:List PFr} {lim lim':Nat},Frames Q lim stk→lim≤lim'→Q.length≤Q'.length→(∀ i,i<lim→Q[i]?=some (4,0,[])→Q'[i]?=some (4,0,[]))→Frames Q' lim' stk
 | [],_,_,_,_,_,_=>trivial
 | (o,bs)::r,lim,lim',⟨h1,h2,h3,h4,h5⟩,hl,hq,hk =>
  ⟨by omega,hk o h1 h2,by omega,fun b hb=>⟨(h4 b hb).1,by have:=(h4 b hb).2; omega⟩,h5.grow (Yt _) hq fun i hi=>hk i (by omega)⟩
theorem Frames.app {Q:List Pl} {stk:List PFr} (h:Frames Q Q.length stk) (x:Pl):Frames (Q ++ [x]) (Q ++ [x]).length stk :=
 h.grow (by simp) (by simp) fun i hi hq=>by rw [Yg hi]; exact hq
theorem X9w (n o:Nat):∀ (bs:List Nat) (Q:List Pl) (done:List Int) (i:Nat),i≠o→(∀ b∈bs,b≠i)→(X1j n o Q done bs)[i]?=Q[i]?
 | [],_,_,_,_,_=>rfl
 | b::r,Q,done,i,h,hb=>by
  rw [X1j,X9w n o r _ _ i h fun x hx=>hb x (Y2f _ hx)]
  have hbi:b≠i:=hb b (by simp)
  simp [X11,Y1l,hbi,Ne.symm h]
theorem Frames.close {Q:List Pl} {o:Nat} {bs:List Nat} {rest:List PFr} (h:Frames Q Q.length ((o,bs)::rest)) (x:Pl):Frames (X1j Q.length o Q [] bs ++ [x]) (X1j Q.length o Q [] bs ++ [x]).length rest:=by
 obtain ⟨h1,h2,h3,h4,h5⟩:=h
 refine h5.grow (by simp [X30]; omega) (by simp [X30]) fun i hi hq=>?_
 rw [Yg (by rw [X30]; omega),X9w _ _ _ _ _ _ (by omega) fun b hb=>by have:=(h4 b hb).1; omega]
 exact hq
def mks (f:PFr):List Int:=(f.1::f.2).map fun (x:Nat)=>(x:Int)
theorem Xge {st:List (Value×List Int)} {f:PFr} {rest:List PFr} (h:st.map (·.2)=(f::rest).reverse.map mks):∃ st0 mv,st=st0 ++ [(mv,mks f)]∧st0.map (·.2)=rest.reverse.map mks:=by
 have hne:st≠[]:=fun e=>by subst e; simp at h
 have hs:=Y47 hne
 rw [← hs,List.reverse_cons,Yw,Yw] at h
 simp only [Y1e,Y3o] at h
 have h2:=List.append_inj' h rfl
 refine ⟨st.dropLast,(st.getLast hne).1,?_,h2.1⟩
 have h3:(st.getLast hne).2=mks f:=by simpa using h2.2
 rw [← h3]
 exact hs.symm
theorem Xh4 {B w:World} {I:Im} {As:List X8} (hS:Sat B w I As):Sat B w I (SepAll []::As):=by
 obtain ⟨h,hs,hg⟩:=hS
 exact ⟨h,⟨[],h,rfl,rfl,hs⟩,hg⟩
def PatI (I:Im) (p:Addr) (Q:List Pl) (n:Nat):Prop:=∃ a c P,At I p [.slice a P.length c,I64 n]∧P.length≤c∧RS I a 3 P.length (P.flatMap enc)∧RelP I P Q
theorem PatI.mono {I J:Im} {p:Addr} {Q:List Pl} {n:Nat} (h:PatI I p Q n) (hl:Le I J):PatI J p Q n:=let ⟨a,c,P,h1,h2,h3,h4⟩:=h; ⟨a,c,P,h1.mono hl,h2,h3.mono hl,h4.mono hl⟩
theorem RelP.nil_of {I:Im} {P:List X2a} {Q:List Pl} (h:RelP I P Q) {o:Nat} {k c:Int} (hq:Q[o]?=some (k,c,[])):P[o]?=some (k,c,.slice none 0 0):=by
 have hlt:o<Q.length:=(Y5.1 hq).1
 obtain ⟨⟨p1,p2,p3⟩,hp⟩:∃ p,P[o]?=some p:=⟨_,Y4 (by rw [h.1]; exact hlt)⟩
 obtain ⟨a,b,h0,_⟩:=h.2 o _ _ hp hq
 have h1:=h0 rfl
 simp only at a b h1
 subst a; subst b; subst h1
 exact hp
end Pat
namespace Pat
open Gk
def iter {β:Type} (f:β→Nat→β) (b:β):Nat→β
 | 0=>b
 | k+1=>f (iter f b k) k
def X2n (s p:List UInt8):Bool:=decide ((p.length:Int)≤(s.length:Int)) && (s.take (p.length:Int).toNat == p)
def takes (kind:Int) (own c:UInt8):Bool:=kind == 2 || (kind == 1 && ((c.toNat:Int) != 47)) || (kind == 0 && ((c.toNat:Int) == (own.toNat:Int)))
def Xm3 (fr:List Bool) (many:Bool) (out:List Bool) (k:Nat):List Bool:=bif many && fr.getD (k:Int).toNat false then out.set (k:Int).toNat true else out
def Xm0 (s:List UInt8) (fr:List Bool) (kind:Int) (own:UInt8) (many:Bool) (o:List Bool) (k:Nat):List Bool :=
 bif decide (0<(k:Int)) && (takes kind own (at_ s ((k:Int) - 1)) && (fr.getD ((k:Int) - 1).toNat false || (many && o.getD ((k:Int) - 1).toNat false))) then o.set (k:Int).toNat true else o
def X4x (s:List UInt8) (fr:List Bool) (kind:Int) (own:UInt8) (many:Bool) (out:List Bool) (k:Nat):List Bool:=Xm0 s fr kind own many (Xm3 fr many out k) k
def ends (s:List UInt8) (fr:List Bool) (kind:Int) (own:UInt8) (many:Bool):List Bool:=iter (X4x s fr kind own many) (List.replicate (s.length+1) false) (s.length+1)
theorem X64 (fr:List Bool) (many:Bool) (out:List Bool) (k:Nat):(Xm3 fr many out k).length=out.length:=by unfold Xm3; cases many && fr.getD (k:Int).toNat false <;> simp
theorem Xex (s:List UInt8) (fr:List Bool) (kind:Int) (own:UInt8) (many:Bool) (o:List Bool) (k:Nat):(Xm0 s fr kind own many o k).length=o.length:=by
 unfold Xm0; generalize (decide (0<(k:Int)) && _)=c; cases c <;> simp
theorem X2g (s:List UInt8) (fr:List Bool) (kind:Int) (own:UInt8) (many:Bool) (init:List Bool):∀ k,(iter (X4x s fr kind own many) init k).length=init.length
 | 0=>rfl
 | k+1=>by rw [iter,X4x,Xex,X64,X2g s fr kind own many init k]
theorem Xf6 (s:List UInt8) (fr:List Bool) (kind:Int) (own:UInt8) (many:Bool):(ends s fr kind own many).length=s.length+1:=by
 rw [ends,X2g,Y1u]
def chkGo:List UInt8→Int→List Int→Int×Int
 | [],_,o=>if 0<o.length then (23,o.getD (o.length - 1) 0) else (0,0)
 | c::r,i,o =>
  if c.toNat=40 then (if o.length=4 then (24,i) else chkGo r (i+1) (o ++ [i]))
  else if c.toNat=41 then (if o.length=0 then (10,i) else chkGo r (i+1) (o.take (o.length - 1)))
  else if c.toNat=124 then (if o.length=0 then (10,i) else chkGo r (i+1) o)
  else if c.toNat=92 then (match r with | []=>(10,i) | _::r'=>chkGo r' (i+2) o)
  else chkGo r (i+1) o
theorem X8i (i:Int) (o:List Int):chkGo [] i o=if 0<o.length then (23,o.getD (o.length - 1) 0) else (0,0):=by rw [chkGo.eq_def]
theorem X1f (c:UInt8) (r:List UInt8) (i:Int) (o:List Int):chkGo (c::r) i o=if c.toNat=40 then (if o.length=4 then (24,i) else chkGo r (i+1) (o ++ [i]))
  else if c.toNat=41 then (if o.length=0 then (10,i) else chkGo r (i+1) (o.take (o.length - 1)))
  else if c.toNat=124 then (if o.length=0 then (10,i) else chkGo r (i+1) o)
  else if c.toNat=92 then (match r with | []=>(10,i) | _::r'=>chkGo r' (i+2) o)
  else chkGo r (i+1) o:=by rw [chkGo.eq_def]
def chk (l:List UInt8):Int×Int:=if 200<l.length then (2,0) else chkGo l 0 []
end Pat
namespace Go.Proofs.YtadhiihnnkcagaaGreatDoor
open Gk Pat
def X3g (E:Nat) (st:List (Value×List Int)):X8:=SepAll (st.map fun x=>Vec E 1 x.1 x.2.length (x.2.map I64))
theorem Xj9 {o b:Nat} {bs pre r:List Nat} (h:bs=pre ++ b::r) (rm:List Value):(((o::bs).map fun (x:Nat)=>(x:Int)).map I64 ++ rm)[1+(pre.length:Int).toNat*1]?=some (I64 b):=by
 subst h
 rw [Yi,Y1k,Yg (by simp; omega)]
 simp [Y4l 1]
theorem X1e:Tryz.prog.info? 3=some Tryz.t3:=by kernel_rfl
theorem X3v:Tryz.prog.info? 195=some Tryz.t195:=by kernel_rfl
theorem Xfl:Tryz.prog.info? 224=some Tryz.t224:=by kernel_rfl
theorem Xi9:Bld Tryz.prog 224 [(0,1),(1,1),(2,1)] [.int .u8 0,.int .u8 0,.slice none 0 0]:=X2l X65 Xo0 (fun w=>by simp [go_sem])
theorem X2q (bc n:Nat) (lv sv av:Value) (xs:List Value) (kd b:Int) (B w:World) (I:Im) (F:List X8) (hS:Sat B w I (blk bc [lv,sv,av] 248::Vec 224 3 lv n xs::F)) (hn:n≤1000) :
  Calls Tryz.prog 196 [ptr bc 0,.int .u8 kd,.int .u8 b].toArray w (Ret fun v w'=>v=.tuple #[]∧∃ lv',Sat B w' I (blk bc [lv',sv,av] 248::Vec 224 3 lv' (n+1) (xs ++ [.int .u8 kd,.int .u8 b,.slice none 0 0])::F)):=by
 refine calls X75 rfl Tryz.ntmps196 rfl (.t 3 rfl (.val (.fieldAddr 0 (.of rfl) X1u rfl rfl X5t rfl) rfl (.val (.ld (.of rfl) hS (k:=0) rfl X7i rfl) rfl (.q 2 rfl (.val (.build (cs:=[_,_,_]) (X5 (.of rfl) (X5 (.of rfl) X6)) Xi9 rfl) rfl (.buildSlice (cs:=[_,_,_]) hS (X5 (.of rfl) X6) X73 X92 Xo0 rfl rfl rfl rfl ?_))))))
 clear hS; intro b14 w hS
 refine WL.append (size:=3) (bytes:=32) hS (.of rfl) (.of rfl) (k:=1) rfl X73 Xfl rfl rfl rfl rfl rfl rfl rfl ⟨by omega,by unfold maxLen; omega⟩ rfl ?_
 clear hS; intro v15 w hS
 obtain ⟨a15,c15,rfl,hcap15,_⟩:=hS.vecSlice (k:=1) (v:=v15) rfl
 refine .q 1 rfl (.val (.fieldAddr 0 (.of rfl) X1u rfl rfl X5t rfl) rfl (.st1 hS (k:=0) rfl (.of rfl) (.of rfl) rfl X5t (by simp) ?_))
 clear hS; intro w hS
 refine .nil (X8g Tryz.results196 ?_)
 exact ⟨_,rfl,rfl,_,hS⟩
theorem Xen (bc n:Nat) (lv sv av:Value) (xs:List Value) (st:List (Value×List Int)) (ats:List Int) (at_:Int) (B w:World) (I:Im) (F:List X8) (hS:Sat B w I (blk bc [lv,sv,av] 248::Vec 224 3 lv n xs::Vec 195 1 sv st.length (st.map (·.1))::Vec 3 1 av ats.length (ats.map I64)::X3g 3 st::F)) (hn:n≤1000) (hd:st.length≤1000) (hd2:ats.length≤1000) :
  Calls Tryz.prog 197 [ptr bc 0,I64 at_].toArray w (Ret fun v w'=>v=.tuple #[]∧∃ lv' sv' av' mv,Sat B w' I (blk bc [lv',sv',av'] 248::Vec 224 3 lv' (n+1) (xs ++ [.int .u8 4,.int .u8 0,.slice none 0 0])::Vec 195 1 sv' (st.length+1) (st.map (·.1) ++ [mv])::Vec 3 1 av' (ats.length+1) (ats.map I64 ++ [I64 at_])::X3g 3 (st ++ [(mv,[(n:Int)])])::F)):=by
 refine calls Tryz.func197 rfl Tryz.ntmps197 rfl (.seq ?_)
 obtain ⟨la,lc,rfl,hlc,_⟩:=hS.vecSlice (k:=1) rfl
 obtain ⟨sa,sc,rfl,hsc,_⟩:=hS.vecSlice (k:=2) rfl
 obtain ⟨aa,ac,rfl,hac,_⟩:=hS.vecSlice (k:=3) rfl
 refine .drawn (fun w=>∃ R,Sat B w I (blk bc [.slice la n lc,.slice sa st.length sc,.slice aa ats.length ac] 248::R)) (fun j=>!([23,26].contains j)) (by kernel_rfl) ?_
 replace hS:=hS.drew; generalize w.drew=w at hS ⊢
 have hH:=(hS.pick 0 rfl)
 refine .tp (i:=0) rfl (by kernel_rfl) (fun w=>(.move (.of rfl))) rfl (.tp (i:=1) rfl (by kernel_rfl) (fun w=>(.move (.of rfl))) rfl (.tp (i:=2) rfl (by kernel_rfl) (fun w=>(.move (.of rfl))) rfl (.tp (i:=3) rfl (by kernel_rfl) (fun w=>(.nilCheck (.of rfl))) rfl (.tp (i:=4) rfl (by kernel_rfl) (fun w=>(.fieldAddr 1 (.of rfl) X1u rfl rfl X4p rfl)) rfl (.tk (i:=5) rfl (by kernel_rfl) ⟨_,hH⟩ (fun w ⟨R,hS⟩=>(.ld (.of rfl) hS (k:=0) rfl Xeu rfl)) rfl (.tp (i:=6) rfl (by kernel_rfl) (fun w=>(.move (.of rfl))) rfl (.tp (i:=7) rfl (by kernel_rfl) (fun w=>(.nilCheck (.of rfl))) rfl (.tp (i:=8) rfl (by kernel_rfl) (fun w=>(.fieldAddr 0 (.of rfl) X1u rfl rfl X5t rfl)) rfl (.tk (i:=9) rfl (by kernel_rfl) ⟨_,hH⟩ (fun w ⟨R,hS⟩=>(.ld (.of rfl) hS (k:=0) rfl X7i rfl)) rfl (.tp (i:=10) rfl (by kernel_rfl) (fun w=>(.lenSlice (.of rfl) X73)) rfl (.tp (i:=14) rfl (by kernel_rfl) (fun w=>(.move (.of rfl))) rfl (.tp (i:=15) rfl (by kernel_rfl) (fun w=>(.nilCheck (.of rfl))) rfl (.tp (i:=16) rfl (by kernel_rfl) (fun w=>(.fieldAddr 2 (.of rfl) X1u rfl rfl X1a rfl)) rfl (.tk (i:=17) rfl (by kernel_rfl) ⟨_,hH⟩ (fun w ⟨R,hS⟩=>(.ld (.of rfl) hS (k:=0) rfl X33 rfl)) rfl (.tp (i:=18) rfl (by kernel_rfl) (fun w=>(.move (.of rfl))) rfl ?_)))))))))))))))
 refine WD.branch [11,19] (by kernel_rfl) rfl (WO.cons rfl ?_ (WO.cons rfl ?_ (WO.nil)))
 ·
  refine .buildSlice (cs:=[_]) hS (X5 (.of rfl) X6) Xd Qs3 Qz3 rfl rfl rfl rfl ?_
  clear hS; intro b15 w hS
  refine .nil ?_
  clear hH
  have hH:=(hS.pick 1 rfl)
  refine And.intro (by intro _ _; exact ⟨_,hH⟩) ?_
  refine WD.branch [12,19] (by kernel_rfl) rfl (WO.cons rfl ?_ (WO.cons rfl ?_ (WO.nil)))
  ·
   refine .buildSlice (cs:=[_]) hS (X5 (.of rfl) X6) X25 X1a Xoh rfl rfl rfl rfl ?_
   clear hS; intro b16 w hS
   refine .nil ?_
   clear hH
   have hH:=(hS.pick 2 rfl)
   refine And.intro (by intro _ _; exact ⟨_,hH⟩) ?_
   refine WD.branch [13,19] (by kernel_rfl) rfl (WO.cons rfl ?_ (WO.cons rfl ?_ (WO.nil)))
   ·
    refine WL.append (size:=1) (bytes:=24) hS (.of rfl) (.of rfl) (k:=3) rfl X25 X3v rfl rfl rfl rfl rfl rfl rfl ⟨by omega,by unfold maxLen; omega⟩ rfl ?_
    clear hS; intro v17 w hS
    obtain ⟨a17,c17,rfl,hcap17,_⟩:=hS.vecSlice (k:=3) (v:=v17) rfl
    refine .nil ?_
    clear hH
    have hH:=(hS.pick 1 rfl)
    refine And.intro (by intro _ _; exact ⟨_,hH⟩) ?_
    refine WD.branch [19] (by kernel_rfl) rfl (WO.cons rfl ?_ (WO.nil))
    refine .buildSlice (cs:=[_]) hS (X5 (.of rfl) X6) Xd Qs3 Qz3 rfl rfl rfl rfl ?_
    clear hS; intro b23 w hS
    refine .nil ?_
    clear hH
    have hH:=(hS.pick 2 rfl)
    refine And.intro (by intro _ _; exact ⟨_,hH⟩) ?_
    refine WD.branch [20] (by kernel_rfl) rfl (WO.cons rfl ?_ (WO.nil))
    refine WL.append (size:=1) (bytes:=8) hS (.of rfl) (.of rfl) (k:=4) rfl Xd X1e rfl rfl rfl rfl rfl rfl rfl ⟨by omega,by unfold maxLen; omega⟩ rfl ?_
    clear hS; intro v24 w hS
    obtain ⟨a24,c24,rfl,hcap24,_⟩:=hS.vecSlice (k:=4) (v:=v24) rfl
    refine .nil ?_
    clear hH
    have hH:=(hS.pick 1 rfl)
    refine And.intro (by intro _ _; exact ⟨_,hH⟩) ?_
    refine .tp (i:=21) rfl (by kernel_rfl) (fun w=>(.nilCheck (.of rfl))) rfl (.tp (i:=22) rfl (by kernel_rfl) (fun w=>(.fieldAddr 1 (.of rfl) X1u rfl rfl X4p rfl)) rfl ?_)
    refine WD.branch [23] (by kernel_rfl) rfl (WO.cons rfl ?_ (WO.nil))
    refine .st1 hS (k:=1) rfl (.of rfl) (.of rfl) rfl X4p (by simp) ?_
    clear hS; intro w hS
    refine .nil ?_
    refine And.intro (by intro h; cases h) ?_
    refine .tp (i:=24) rfl (by kernel_rfl) (fun w=>(.nilCheck (.of rfl))) rfl (.tp (i:=25) rfl (by kernel_rfl) (fun w=>(.fieldAddr 2 (.of rfl) X1u rfl rfl X1a rfl)) rfl ?_)
    refine WD.branch [26] (by kernel_rfl) rfl (WO.cons rfl ?_ (WO.nil))
    refine .st1 hS (k:=1) rfl (.of rfl) (.of rfl) rfl X1a (by simp) ?_
    clear hS; intro w hS
    refine .nil ?_
    refine And.intro (by intro h; cases h) ?_
    refine .done (by kernel_rfl) (.t 1 rfl ?_)
    replace hS:=hS.vecOf (k:=0) (E:=3) (size:=1) (n:=1) rfl rfl (by unfold maxLen; omega)
    replace hS:=hS.push (k:=4) rfl
    refine .call X75 rfl (X0 (.of rfl) (X0 (.of rfl) (X0 (.of rfl) X4))) rfl (X2q _ _ _ _ _ _ _ _ _ _ _ _ hS (by omega)) ?_
    clear hS
    rintro _ w ⟨rfl,lv,hS⟩
    refine .nil (X8g Xpd ?_)
    replace hS:=hS.say (k:=4) (A':=X3g 3 (st ++ [(.slice (some (ad b15 0)) 1 1,[(n:Int)])])) rfl (fun h hh=>by rw [X3g,Yw]; exact hh)
    exact ⟨_,rfl,rfl,_,_,_,_,hS⟩
   ·
    refine .buildSlice (cs:=[_]) hS (X5 (.of rfl) X6) Xd Qs3 Qz3 rfl rfl rfl rfl ?_
    clear hS; intro b23 w hS
    refine .nil ?_
    clear hH
    have hH:=(hS.pick 3 rfl)
    refine And.intro (by intro _ _; exact ⟨_,hH⟩) ?_
    refine WD.branch [13] (by kernel_rfl) rfl (WO.cons rfl ?_ (WO.nil))
    replace hS:=hS.pick 1 rfl
    refine WL.append (size:=1) (bytes:=24) hS (.of rfl) (.of rfl) (k:=4) rfl X25 X3v rfl rfl rfl rfl rfl rfl rfl ⟨by omega,by unfold maxLen; omega⟩ rfl ?_
    clear hS; intro v17 w hS
    obtain ⟨a17,c17,rfl,hcap17,_⟩:=hS.vecSlice (k:=4) (v:=v17) rfl
    refine .nil ?_
    clear hH
    have hH:=(hS.pick 2 rfl)
    refine And.intro (by intro _ _; exact ⟨_,hH⟩) ?_
    refine WD.branch [20] (by kernel_rfl) rfl (WO.cons rfl ?_ (WO.nil))
    refine WL.append (size:=1) (bytes:=8) hS (.of rfl) (.of rfl) (k:=4) rfl Xd X1e rfl rfl rfl rfl rfl rfl rfl ⟨by omega,by unfold maxLen; omega⟩ rfl ?_
    clear hS; intro v24 w hS
    obtain ⟨a24,c24,rfl,hcap24,_⟩:=hS.vecSlice (k:=4) (v:=v24) rfl
    refine .nil ?_
    clear hH
    have hH:=(hS.pick 1 rfl)
    refine And.intro (by intro _ _; exact ⟨_,hH⟩) ?_
    refine .tp (i:=21) rfl (by kernel_rfl) (fun w=>(.nilCheck (.of rfl))) rfl (.tp (i:=22) rfl (by kernel_rfl) (fun w=>(.fieldAddr 1 (.of rfl) X1u rfl rfl X4p rfl)) rfl ?_)
    refine WD.branch [23] (by kernel_rfl) rfl (WO.cons rfl ?_ (WO.nil))
    refine .st1 hS (k:=1) rfl (.of rfl) (.of rfl) rfl X4p (by simp) ?_
    clear hS; intro w hS
    refine .nil ?_
    refine And.intro (by intro h; cases h) ?_
    refine .tp (i:=24) rfl (by kernel_rfl) (fun w=>(.nilCheck (.of rfl))) rfl (.tp (i:=25) rfl (by kernel_rfl) (fun w=>(.fieldAddr 2 (.of rfl) X1u rfl rfl X1a rfl)) rfl ?_)
    refine WD.branch [26] (by kernel_rfl) rfl (WO.cons rfl ?_ (WO.nil))
    refine .st1 hS (k:=1) rfl (.of rfl) (.of rfl) rfl X1a (by simp) ?_
    clear hS; intro w hS
    refine .nil ?_
    refine And.intro (by intro h; cases h) ?_
    refine .done (by kernel_rfl) (.t 1 rfl ?_)
    replace hS:=hS.vecOf (k:=0) (E:=3) (size:=1) (n:=1) rfl rfl (by unfold maxLen; omega)
    replace hS:=hS.push (k:=4) rfl
    refine .call X75 rfl (X0 (.of rfl) (X0 (.of rfl) (X0 (.of rfl) X4))) rfl (X2q _ _ _ _ _ _ _ _ _ _ _ _ hS (by omega)) ?_
    clear hS
    rintro _ w ⟨rfl,lv,hS⟩
    refine .nil (X8g Xpd ?_)
    replace hS:=hS.say (k:=4) (A':=X3g 3 (st ++ [(.slice (some (ad b15 0)) 1 1,[(n:Int)])])) rfl (fun h hh=>by rw [X3g,Yw]; exact hh)
    exact ⟨_,rfl,rfl,_,_,_,_,hS⟩
  ·
   refine .buildSlice (cs:=[_]) hS (X5 (.of rfl) X6) Xd Qs3 Qz3 rfl rfl rfl rfl ?_
   clear hS; intro b23 w hS
   refine .nil ?_
   clear hH
   have hH:=(hS.pick 2 rfl)
   refine And.intro (by intro _ _; exact ⟨_,hH⟩) ?_
   refine WD.branch [12] (by kernel_rfl) rfl (WO.cons rfl ?_ (WO.nil))
   refine .buildSlice (cs:=[_]) hS (X5 (.of rfl) X6) X25 X1a Xoh rfl rfl rfl rfl ?_
   clear hS; intro b16 w hS
   refine .nil ?_
   clear hH
   have hH:=(hS.pick 3 rfl)
   refine And.intro (by intro _ _; exact ⟨_,hH⟩) ?_
   refine WD.branch [13] (by kernel_rfl) rfl (WO.cons rfl ?_ (WO.nil))
   refine WL.append (size:=1) (bytes:=24) hS (.of rfl) (.of rfl) (k:=4) rfl X25 X3v rfl rfl rfl rfl rfl rfl rfl ⟨by omega,by unfold maxLen; omega⟩ rfl ?_
   clear hS; intro v17 w hS
   obtain ⟨a17,c17,rfl,hcap17,_⟩:=hS.vecSlice (k:=4) (v:=v17) rfl
   refine .nil ?_
   clear hH
   have hH:=(hS.pick 2 rfl)
   refine And.intro (by intro _ _; exact ⟨_,hH⟩) ?_
   refine WD.branch [20] (by kernel_rfl) rfl (WO.cons rfl ?_ (WO.nil))
   refine WL.append (size:=1) (bytes:=8) hS (.of rfl) (.of rfl) (k:=4) rfl Xd X1e rfl rfl rfl rfl rfl rfl rfl ⟨by omega,by unfold maxLen; omega⟩ rfl ?_
   clear hS; intro v24 w hS
   obtain ⟨a24,c24,rfl,hcap24,_⟩:=hS.vecSlice (k:=4) (v:=v24) rfl
   refine .nil ?_
   clear hH
   have hH:=(hS.pick 1 rfl)
   refine And.intro (by intro _ _; exact ⟨_,hH⟩) ?_
   refine .tp (i:=21) rfl (by kernel_rfl) (fun w=>(.nilCheck (.of rfl))) rfl (.tp (i:=22) rfl (by kernel_rfl) (fun w=>(.fieldAddr 1 (.of rfl) X1u rfl rfl X4p rfl)) rfl ?_)
   refine WD.branch [23] (by kernel_rfl) rfl (WO.cons rfl ?_ (WO.nil))
   refine .st1 hS (k:=1) rfl (.of rfl) (.of rfl) rfl X4p (by simp) ?_
   clear hS; intro w hS
   refine .nil ?_
   refine And.intro (by intro h; cases h) ?_
   refine .tp (i:=24) rfl (by kernel_rfl) (fun w=>(.nilCheck (.of rfl))) rfl (.tp (i:=25) rfl (by kernel_rfl) (fun w=>(.fieldAddr 2 (.of rfl) X1u rfl rfl X1a rfl)) rfl ?_)
   refine WD.branch [26] (by kernel_rfl) rfl (WO.cons rfl ?_ (WO.nil))
   refine .st1 hS (k:=1) rfl (.of rfl) (.of rfl) rfl X1a (by simp) ?_
   clear hS; intro w hS
   refine .nil ?_
   refine And.intro (by intro h; cases h) ?_
   refine .done (by kernel_rfl) (.t 1 rfl ?_)
   replace hS:=hS.vecOf (k:=0) (E:=3) (size:=1) (n:=1) rfl rfl (by unfold maxLen; omega)
   replace hS:=hS.push (k:=4) rfl
   refine .call X75 rfl (X0 (.of rfl) (X0 (.of rfl) (X0 (.of rfl) X4))) rfl (X2q _ _ _ _ _ _ _ _ _ _ _ _ hS (by omega)) ?_
   clear hS
   rintro _ w ⟨rfl,lv,hS⟩
   refine .nil (X8g Xpd ?_)
   replace hS:=hS.say (k:=4) (A':=X3g 3 (st ++ [(.slice (some (ad b15 0)) 1 1,[(n:Int)])])) rfl (fun h hh=>by rw [X3g,Yw]; exact hh)
   exact ⟨_,rfl,rfl,_,_,_,_,hS⟩
 ·
  refine .buildSlice (cs:=[_]) hS (X5 (.of rfl) X6) Xd Qs3 Qz3 rfl rfl rfl rfl ?_
  clear hS; intro b23 w hS
  refine .nil ?_
  clear hH
  have hH:=(hS.pick 1 rfl)
  refine And.intro (by intro _ _; exact ⟨_,hH⟩) ?_
  refine WD.branch [11] (by kernel_rfl) rfl (WO.cons rfl ?_ (WO.nil))
  refine .buildSlice (cs:=[_]) hS (X5 (.of rfl) X6) Xd Qs3 Qz3 rfl rfl rfl rfl ?_
  clear hS; intro b15 w hS
  refine .nil ?_
  clear hH
  have hH:=(hS.pick 2 rfl)
  refine And.intro (by intro _ _; exact ⟨_,hH⟩) ?_
  refine WD.branch [12] (by kernel_rfl) rfl (WO.cons rfl ?_ (WO.nil))
  refine .buildSlice (cs:=[_]) hS (X5 (.of rfl) X6) X25 X1a Xoh rfl rfl rfl rfl ?_
  clear hS; intro b16 w hS
  refine .nil ?_
  clear hH
  have hH:=(hS.pick 3 rfl)
  refine And.intro (by intro _ _; exact ⟨_,hH⟩) ?_
  refine WD.branch [13] (by kernel_rfl) rfl (WO.cons rfl ?_ (WO.nil))
  refine WL.append (size:=1) (bytes:=24) hS (.of rfl) (.of rfl) (k:=4) rfl X25 X3v rfl rfl rfl rfl rfl rfl rfl ⟨by omega,by unfold maxLen; omega⟩ rfl ?_
  clear hS; intro v17 w hS
  obtain ⟨a17,c17,rfl,hcap17,_⟩:=hS.vecSlice (k:=4) (v:=v17) rfl
  refine .nil ?_
  clear hH
  have hH:=(hS.pick 2 rfl)
  refine And.intro (by intro _ _; exact ⟨_,hH⟩) ?_
  refine WD.branch [20] (by kernel_rfl) rfl (WO.cons rfl ?_ (WO.nil))
  replace hS:=hS.pick 1 rfl
  refine WL.append (size:=1) (bytes:=8) hS (.of rfl) (.of rfl) (k:=4) rfl Xd X1e rfl rfl rfl rfl rfl rfl rfl ⟨by omega,by unfold maxLen; omega⟩ rfl ?_
  clear hS; intro v24 w hS
  obtain ⟨a24,c24,rfl,hcap24,_⟩:=hS.vecSlice (k:=4) (v:=v24) rfl
  refine .nil ?_
  clear hH
  have hH:=(hS.pick 1 rfl)
  refine And.intro (by intro _ _; exact ⟨_,hH⟩) ?_
  refine .tp (i:=21) rfl (by kernel_rfl) (fun w=>(.nilCheck (.of rfl))) rfl (.tp (i:=22) rfl (by kernel_rfl) (fun w=>(.fieldAddr 1 (.of rfl) X1u rfl rfl X4p rfl)) rfl ?_)
  refine WD.branch [23] (by kernel_rfl) rfl (WO.cons rfl ?_ (WO.nil))
  refine .st1 hS (k:=1) rfl (.of rfl) (.of rfl) rfl X4p (by simp) ?_
  clear hS; intro w hS
  refine .nil ?_
  refine And.intro (by intro h; cases h) ?_
  refine .tp (i:=24) rfl (by kernel_rfl) (fun w=>(.nilCheck (.of rfl))) rfl (.tp (i:=25) rfl (by kernel_rfl) (fun w=>(.fieldAddr 2 (.of rfl) X1u rfl rfl X1a rfl)) rfl ?_)
  refine WD.branch [26] (by kernel_rfl) rfl (WO.cons rfl ?_ (WO.nil))
  refine .st1 hS (k:=1) rfl (.of rfl) (.of rfl) rfl X1a (by simp) ?_
  clear hS; intro w hS
  refine .nil ?_
  refine And.intro (by intro h; cases h) ?_
  refine .done (by kernel_rfl) (.t 1 rfl ?_)
  replace hS:=hS.vecOf (k:=0) (E:=3) (size:=1) (n:=1) rfl rfl (by unfold maxLen; omega)
  replace hS:=hS.push (k:=4) rfl
  refine .call X75 rfl (X0 (.of rfl) (X0 (.of rfl) (X0 (.of rfl) X4))) rfl (X2q _ _ _ _ _ _ _ _ _ _ _ _ hS (by omega)) ?_
  clear hS
  rintro _ w ⟨rfl,lv,hS⟩
  refine .nil (X8g Xpd ?_)
  replace hS:=hS.say (k:=4) (A':=X3g 3 (st ++ [(.slice (some (ad b15 0)) 1 1,[(n:Int)])])) rfl (fun h hh=>by rw [X3g,Yw]; exact hh)
  exact ⟨_,rfl,rfl,_,_,_,_,hS⟩
theorem Xko (bc:Nat) (lv sv av mv:Value) (P0:List X2a) (Q0:List Pl) (st:List (Value×List Int)) (o:Nat) (bs:List Nat) (ats:List Int) (B w:World) (I:Im) (F:List X8)
  (hS:Sat B w I (blk bc [lv,sv,av] 248::Vec 224 3 lv P0.length (P0.flatMap enc)::Vec 195 1 sv (st.length+1) (st.map (·.1) ++ [mv])::Vec 3 1 av ats.length (ats.map I64)::X3g 3 (st ++ [(mv,(o::bs).map fun (x:Nat)=>(x:Int))])::F))
  (hR:RelP I P0 Q0) (hob:∀ b∈bs,b≠o∧b<P0.length) (ho:o<P0.length) (ko co:Int) (hPo:P0[o]?=some (ko,co,.slice none 0 0)) (hQo:Q0[o]?=some (ko,co,[])) (hn:P0.length≤1000) (hd:st.length≤1000) (hd2:ats.length=st.length+1) (hbl:bs.length≤1000) :
  Calls Tryz.prog 198 [ptr bc 0].toArray w (Ret fun v w'=>v=.tuple #[]∧∃ lv' sv' av' P' J,Le I J∧RelP J P' (X1j P0.length o Q0 [] bs ++ [(6,0,[])]) ∧
   Sat B w' J (blk bc [lv',sv',av'] 248::Vec 224 3 lv' P'.length (P'.flatMap enc)::Vec 195 1 sv' st.length (st.map (·.1))::Vec 3 1 av' st.length ((ats.take st.length).map I64)::X3g 3 st::F)):=by
 refine calls Tryz.func198 rfl Tryz.ntmps198 rfl (.seq ?_)
 have hcl:=hob
 obtain ⟨gl,cl,rl,rfl,hcl1,hcl2,hcl3,hcl4,hS⟩:=hS.vecOpen (k:=1) rfl (by omega)
 obtain ⟨gs,sc,rs,rfl,hsc1,hsc2,hsc3,hsc4,hS⟩:=hS.vecOpen (k:=2) rfl (by omega)
 obtain ⟨aa,ac,rfl,hac,_⟩:=hS.vecSlice (k:=3) rfl
 refine .t 2 rfl (.val (.fieldAddr 1 (.of rfl) X1u rfl rfl X4p rfl) rfl (.val (.ld (.of rfl) hS (k:=0) rfl Xeu rfl) rfl (.run 1 rfl ⟨⟨_,X25⟩,trivial⟩ (.val (.sub (.of rfl) (.of rfl) ⟨by omega,by omega⟩) rfl ?_))))
 rw [show ((st.length+1:Nat):Int) - 1=(st.length:Int) by omega]
 refine .q 1 rfl (.nil (.seq (.t 2 rfl (.val (.fieldAddr 1 (.of rfl) X1u rfl rfl X4p rfl) rfl (.val (.ld (.of rfl) hS (k:=0) rfl Xeu rfl) rfl (.q 1 rfl (.val (.indexAddr (.of rfl) (.of rfl) (by omega) (by omega) X25 X1a) rfl (.val (.ld (.of rfl) hS (k:=2) rfl X33 (v:=mv) (by simp)) rfl (.q 1 rfl (.nil (.seq (.drawn (fun w=>∃ R,Sat B w I (blk bc [.slice (some (ad gl 0)) P0.length cl,.slice (some (ad gs 0)) (st.length+1) sc,.slice aa ats.length ac] 248::R)) (fun j=>!([16,19].contains j)) (by kernel_rfl) ?_))))))))))))
 replace hS:=hS.drew; generalize w.drew=w at hS ⊢
 have hH:=(hS.pick 0 rfl)
 refine .tp (i:=0) rfl (by kernel_rfl) (fun w=>(.move (.of rfl))) rfl (.tp (i:=1) rfl (by kernel_rfl) (fun w=>(.move (.of rfl))) rfl (.tp (i:=2) rfl (by kernel_rfl) (fun w=>(.move (.of rfl))) rfl (.tp (i:=3) rfl (by kernel_rfl) (fun w=>(.nilCheck (.of rfl))) rfl (.tp (i:=4) rfl (by kernel_rfl) (fun w=>(.fieldAddr 1 (.of rfl) X1u rfl rfl X4p rfl)) rfl (.tk (i:=5) rfl (by kernel_rfl) ⟨_,hH⟩ (fun w ⟨R,hS⟩=>(.ld (.of rfl) hS (k:=0) rfl Xeu rfl)) rfl (.tp (i:=6) rfl (by kernel_rfl) (fun w=>(.move (.of rfl))) rfl (.tp (i:=7) rfl (by kernel_rfl) (fun w=>(.slcTo (.of rfl) (.of rfl) (by omega) (by omega) X25 X1a)) rfl (.tp (i:=8) rfl (by kernel_rfl) (fun w=>(.move (.of rfl))) rfl (.tp (i:=9) rfl (by kernel_rfl) (fun w=>(.nilCheck (.of rfl))) rfl (.tp (i:=10) rfl (by kernel_rfl) (fun w=>(.fieldAddr 2 (.of rfl) X1u rfl rfl X1a rfl)) rfl (.tk (i:=11) rfl (by kernel_rfl) ⟨_,hH⟩ (fun w ⟨R,hS⟩=>(.ld (.of rfl) hS (k:=0) rfl X33 rfl)) rfl (.tp (i:=12) rfl (by kernel_rfl) (fun w=>(.move (.of rfl))) rfl (.tp (i:=13) rfl (by kernel_rfl) (fun w=>(.slcTo (.of rfl) (.of rfl) (by omega) (by omega) Xd Qs3)) rfl (.tp (i:=14) rfl (by kernel_rfl) (fun w=>(.nilCheck (.of rfl))) rfl (.tp (i:=15) rfl (by kernel_rfl) (fun w=>(.fieldAddr 1 (.of rfl) X1u rfl rfl X4p rfl)) rfl ?_)))))))))))))))
 refine WD.branch [16] (by kernel_rfl) rfl (WO.cons rfl ?_ (WO.nil))
 refine .st1 hS (k:=0) rfl (.of rfl) (.of rfl) rfl X4p (by simp) ?_
 clear hS; intro w hS
 refine .nil ?_
 refine And.intro (by intro h; cases h) ?_
 refine .tp (i:=17) rfl (by kernel_rfl) (fun w=>(.nilCheck (.of rfl))) rfl (.tp (i:=18) rfl (by kernel_rfl) (fun w=>(.fieldAddr 2 (.of rfl) X1u rfl rfl X1a rfl)) rfl ?_)
 refine WD.branch [19] (by kernel_rfl) rfl (WO.cons rfl ?_ (WO.nil))
 refine .st1 hS (k:=0) rfl (.of rfl) (.of rfl) rfl X1a (by simp) ?_
 clear hS; intro w hS
 refine .nil ?_
 refine And.intro (by intro h; cases h) ?_
 refine .done (by kernel_rfl) (.seq (.seq ?_))
 replace hS:=hS.vecShut (k:=2) (n:=st.length+1) (cap:=sc) rfl hsc1 hsc2 hsc3 hsc4
 replace hS:=hS.vecTake (k:=2) (m:=(st.length:Int).toNat) rfl (by simp)
 obtain ⟨a2,c2,e2,hS⟩:=hS.vecTakeI (k:=3) (f:=I64) (m:=(st.length:Int).toNat) rfl (by simp; omega)
 have e3:(st.map (·.1) ++ [mv]).take ((st.length:Int).toNat*1)=st.map (·.1):=by rw [Y1k]; exact List.take_left' (by simp)
 rw [e3] at hS; rw [e2] at hS
 have e4:X3g 3 (st ++ [(mv,(o::bs).map fun (x:Nat)=>(x:Int))])=SepAll ((st.map fun x=>Vec 3 1 x.1 x.2.length (x.2.map I64)) ++ [Vec 3 1 mv ((o::bs).map fun (x:Nat)=>(x:Int)).length (((o::bs).map fun (x:Nat)=>(x:Int)).map I64)]):=by rw [X3g,Yw]; rfl
 rw [e4] at hS
 replace hS:=hS.pop (k:=4) rfl
 obtain ⟨gm,cm,rm,hmv,hcm1,hcm2,hcm3,hcm4,hT⟩:=hS.vecOpen (k:=0) rfl (by simp)
 have hml:((o::bs).map fun (x:Nat)=>(x:Int)).length=bs.length+1:=by simp
 rw [hml] at hmv; subst hmv; have hS:=hT; clear hT
 generalize sliced (some (ad gs 0)) 0 (st.length:Int).toNat sc 1=sv2 at hS
 generalize Value.slice a2 (ats.take (st.length:Int).toNat).length c2=av2 at hS
 refine .t 1 rfl (.val (.slcFrom (.of rfl) (.of rfl) (by omega) (by omega) Xd Qs3) rfl ?_)
 obtain ⟨ao,hao,e38⟩:∃ ao,(0<bs.length→ao=some (ad gm 1))∧sliced (some (ad gm 0)) (1:Int).toNat (bs.length+1) cm 1=.slice ao bs.length (cm - 1):=⟨if cm=1 then some (ad gm 0) else some (ad gm 1),fun h=>if_neg (by omega),by simp [sliced,X19]⟩
 rw [e38]
 refine .run 2 rfl ⟨⟨_,Xd⟩,trivial⟩ (.nil (.block (.loop (σ:=List Nat×List Nat×List X2a×List Pl×Value×Im) (fun ⟨pre,rem,P,Q,tv,J⟩=>[(0,ptr bc 0),(3,.slice (some (ad gm 0)) (bs.length+1) cm),(38,.slice ao bs.length (cm - 1)),(39,I64 bs.length),(40,I64 pre.length)]) (fun ⟨pre,rem,P,Q,tv,J⟩ w=>bs=pre ++ rem∧Le I J∧RelX J o P Q∧P.length=P0.length∧(∃ k c,P[o]?=some (k,c,tv))∧(∃ k c,Q[o]?=some (k,c,pre.map fun (x:Nat)=>(x:Int)+1))∧(pre=[]→tv=.slice none 0 0)∧X1j P0.length o Q (pre.map fun (x:Nat)=>(x:Int)+1) rem=X1j P0.length o Q0 [] bs∧Sat B w J (Vec 3 1 tv pre.length ((pre.map fun (x:Nat)=>(x:Int)+1).map I64)::blk gm (((o::bs).map fun (x:Nat)=>(x:Int)).map I64 ++ rm) 3::blk bc [.slice (some (ad gl 0)) P0.length cl,sv2,av2] 248::blk gl (P.flatMap enc ++ rl) 224::Vec 195 1 sv2 (st.length:Int).toNat (st.map (·.1))::Vec 3 1 av2 (ats.take (st.length:Int).toNat).length ((ats.take (st.length:Int).toNat).map I64)::X3g 3 st::F)) (fun ⟨pre,rem,P,Q,tv,J⟩=>rem.length) ([],bs,P0,Q0,.slice none 0 0,I) ⟨rfl,rfl,rfl,rfl,rfl,trivial⟩ ⟨rfl,Le.refl I,hR.x o,rfl,⟨_,_,hPo⟩,⟨_,_,hQo⟩,fun _=>rfl,rfl,hS.vecNil _ _⟩ ?_)))
 rintro ⟨pre,rem,P,Q,tv,J⟩ w ⟨hbs,hJ,hX,hPl,⟨ko,co,hPo⟩,⟨kq,cq,hQo⟩,htv,hgo,hS⟩
 have hlen:bs.length=pre.length+rem.length:=by rw [hbs,Y0]
 refine .seq (.q 1 rfl (.seq ?_))
 refine WC.cond rfl (fun hb41=>?_) (fun hb41=>?_)
 ·
  have hc41:=hb41; try simp only [Y6] at hc41
  refine .skip (.seq (.block (.seq (.region ?_))))
  obtain ⟨b,r,rfl⟩:∃ b r,rem=b::r:=by
   cases rem with
   | nil=>simp at hlen; omega
   | cons b r=>exact ⟨b,r,rfl⟩
  have hao2:=hao (by omega); subst hao2
  have hbo:=(hob b (by rw [hbs]; simp)).1
  have hbl2:=(hob b (by rw [hbs]; simp)).2
  have hpre:pre.length≤1000:=by omega
  refine .val (.indexAddr (.of rfl) (.of rfl) (by omega) (by omega) Xd Qs3) rfl (.val (.ld (.of rfl) hS (k:=1) rfl Qg3 (v:=I64 b) (Xj9 hbs rm)) rfl (.q 1 rfl (.nil (.seq (.drawn (fun w=>∃ R,Sat B w J (blk gm (((o::bs).map fun (x:Nat)=>(x:Int)).map I64 ++ rm) 3::blk bc [.slice (some (ad gl 0)) P0.length cl,sv2,av2] 248::blk gl (P.flatMap enc ++ rl) 224::R)) (fun j=>!([23].contains j)) (by kernel_rfl) ?_)))))
  replace hS:=hS.drew; generalize w.drew=w at hS ⊢
  have hH:=(((hS.pick 3 rfl).pick 3 rfl).pick 3 rfl)
  refine .tp (i:=0) rfl (by kernel_rfl) (fun w=>(.move (.of rfl))) rfl (.tp (i:=1) rfl (by kernel_rfl) (fun w=>(.nilCheck (.of rfl))) rfl (.tp (i:=2) rfl (by kernel_rfl) (fun w=>(.fieldAddr 0 (.of rfl) X1u rfl rfl X5t rfl)) rfl (.tk (i:=3) rfl (by kernel_rfl) ⟨_,hH⟩ (fun w ⟨R,hS⟩=>(.ld (.of rfl) hS (k:=1) rfl X7i rfl)) rfl (.tp (i:=4) rfl (by kernel_rfl) (fun w=>(.move (.of rfl))) rfl (.tp (i:=5) rfl (by kernel_rfl) (fun w=>(.indexAddr (.of rfl) (.of rfl) (by omega) (by omega) Xd Qs3)) rfl (.tk (i:=6) rfl (by kernel_rfl) ⟨_,hH⟩ (fun w ⟨R,hS⟩=>.ld (.of rfl) hS (k:=0) rfl Qg3 (v:=I64 (o:Nat)) rfl) rfl (.tp (i:=7) rfl (by kernel_rfl) (fun w=>(.move (.of rfl))) rfl (.tp (i:=8) rfl (by kernel_rfl) (fun w=>(.nilCheck (.of rfl))) rfl (.tp (i:=9) rfl (by kernel_rfl) (fun w=>(.fieldAddr 0 (.of rfl) X1u rfl rfl X5t rfl)) rfl (.tk (i:=10) rfl (by kernel_rfl) ⟨_,hH⟩ (fun w ⟨R,hS⟩=>(.ld (.of rfl) hS (k:=1) rfl X7i rfl)) rfl (.tp (i:=11) rfl (by kernel_rfl) (fun w=>(.move (.of rfl))) rfl (.tp (i:=12) rfl (by kernel_rfl) (fun w=>(.indexAddr (.of rfl) (.of rfl) (by omega) (by omega) Xd Qs3)) rfl (.tk (i:=13) rfl (by kernel_rfl) ⟨_,hH⟩ (fun w ⟨R,hS⟩=>.ld (.of rfl) hS (k:=0) rfl Qg3 (v:=I64 (o:Nat)) rfl) rfl (.tp (i:=14) rfl (by kernel_rfl) (fun w=>(.indexAddr (.of rfl) (.of rfl) (by omega) (by omega) X73 X92)) rfl (.tp (i:=15) rfl (by kernel_rfl) (fun w=>(.fieldAddr 2 (.of rfl) X65 rfl rfl X1a rfl)) rfl (.tk (i:=16) rfl (by kernel_rfl) ⟨_,hH⟩ (fun w ⟨R,hS⟩=>.ld (.of rfl) hS (k:=2) rfl X33 (v:=tv) (to_get hPo rl)) rfl (.tp (i:=17) rfl (by kernel_rfl) (fun w=>(.move (.of rfl))) rfl (.tp (i:=18) rfl (by kernel_rfl) (fun w=>(.add (.of rfl) (.of rfl) ⟨by omega,by omega⟩)) rfl ?_))))))))))))))))))
  refine WD.branch [19] (by kernel_rfl) rfl (WO.cons rfl ?_ (WO.nil))
  refine .buildSlice (cs:=[_]) hS (X5 (.of rfl) X6) Xd Qs3 Qz3 rfl rfl rfl rfl ?_
  clear hS; intro b63 w hS
  refine .nil ?_
  clear hH
  have hH:=(((hS.pick 4 rfl).pick 4 rfl).pick 4 rfl)
  refine And.intro (by intro _ _; exact ⟨_,hH⟩) ?_
  refine WD.branch [20] (by kernel_rfl) rfl (WO.cons rfl ?_ (WO.nil))
  refine WL.append (size:=1) (bytes:=8) hS (.of rfl) (.of rfl) (k:=0) rfl Xd X1e rfl rfl rfl rfl rfl rfl rfl ⟨by omega,by unfold maxLen; omega⟩ rfl ?_
  clear hS; intro v64 w hS
  obtain ⟨a64,c64,rfl,hcap64,_⟩:=hS.vecSlice (k:=0) (v:=v64) rfl
  refine .nil ?_
  clear hH
  have hH:=(((hS.pick 3 rfl).pick 3 rfl).pick 3 rfl)
  refine And.intro (by intro _ _; exact ⟨_,hH⟩) ?_
  refine .tp (i:=21) rfl (by kernel_rfl) (fun w=>(.indexAddr (.of rfl) (.of rfl) (by omega) (by omega) X73 X92)) rfl (.tp (i:=22) rfl (by kernel_rfl) (fun w=>(.fieldAddr 2 (.of rfl) X65 rfl rfl X1a rfl)) rfl ?_)
  refine WD.branch [23] (by kernel_rfl) rfl (WO.cons rfl ?_ (WO.nil))
  refine WL.st1 hS (k:=3) rfl (.of rfl) (.of rfl) rfl X1a (by rw [Y0,X6m enc 3 X61]; (try simp only [X6n]); omega) ?_
  clear hS; intro w hS
  simp only [Yi] at hS
  rw [Xpt (by (try simp only [X6n]); omega)] at hS
  refine .nil ?_
  refine And.intro (by intro h; cases h) ?_
  refine .done (by kernel_rfl) (.drawn (fun w=>∃ R,Sat B w J (blk bc [.slice (some (ad gl 0)) P0.length cl,sv2,av2] 248::R)) (fun j=>!([13].contains j)) (by kernel_rfl) ?_)
  replace hS:=hS.drew; generalize w.drew=w at hS ⊢
  have hH:=(hS.pick 2 rfl)
  refine .tp (i:=0) rfl (by kernel_rfl) (fun w=>(.move (.of rfl))) rfl (.tp (i:=1) rfl (by kernel_rfl) (fun w=>(.nilCheck (.of rfl))) rfl (.tp (i:=2) rfl (by kernel_rfl) (fun w=>(.fieldAddr 0 (.of rfl) X1u rfl rfl X5t rfl)) rfl (.tk (i:=3) rfl (by kernel_rfl) ⟨_,hH⟩ (fun w ⟨R,hS⟩=>(.ld (.of rfl) hS (k:=0) rfl X7i rfl)) rfl (.tp (i:=4) rfl (by kernel_rfl) (fun w=>(.move (.of rfl))) rfl (.tp (i:=5) rfl (by kernel_rfl) (fun w=>(.move (.of rfl))) rfl (.tp (i:=6) rfl (by kernel_rfl) (fun w=>(.nilCheck (.of rfl))) rfl (.tp (i:=7) rfl (by kernel_rfl) (fun w=>(.fieldAddr 0 (.of rfl) X1u rfl rfl X5t rfl)) rfl (.tk (i:=8) rfl (by kernel_rfl) ⟨_,hH⟩ (fun w ⟨R,hS⟩=>(.ld (.of rfl) hS (k:=0) rfl X7i rfl)) rfl (.tp (i:=9) rfl (by kernel_rfl) (fun w=>(.lenSlice (.of rfl) X73)) rfl ?_)))))))))
  refine WD.branch [10] (by kernel_rfl) rfl (WO.cons rfl ?_ (WO.nil))
  refine .buildSlice (cs:=[_]) hS (X5 (.of rfl) X6) Xd Qs3 Qz3 rfl rfl rfl rfl ?_
  clear hS; intro b77 w hS
  refine .nil ?_
  clear hH
  have hH:=(hS.pick 3 rfl)
  refine And.intro (by intro _ _; exact ⟨_,hH⟩) ?_
  refine .tp (i:=11) rfl (by kernel_rfl) (fun w=>(.indexAddr (.of rfl) (.of rfl) (by omega) (by omega) X73 X92)) rfl (.tp (i:=12) rfl (by kernel_rfl) (fun w=>(.fieldAddr 2 (.of rfl) X65 rfl rfl X1a rfl)) rfl ?_)
  refine WD.branch [13] (by kernel_rfl) rfl (WO.cons rfl ?_ (WO.nil))
  refine WL.st1 hS (k:=4) rfl (.of rfl) (.of rfl) rfl X1a (by rw [Y0,X6m enc 3 X61]; (try simp only [X6n]); omega) ?_
  clear hS; intro w hS
  simp only [Yi] at hS
  rw [Xpt (by (try simp only [X6n]); omega)] at hS
  obtain ⟨J2,hJ2,hb2,hS⟩:=hS.freeze (k:=0) rfl
  have hI2:IntsI J2 (.slice (some (ad b77 0)) 1 1) [(P0.length:Int)]:=⟨(fun h=>by cases h),_,_,rfl,Yt _,rfl,fun _=>⟨_,rfl,rfl,_,_,_,hb2,fun j u hj=>by simpa using hj⟩⟩
  refine .nil ?_
  refine And.intro (by intro h; cases h) ?_
  refine .done (by kernel_rfl) (.region ?_)
  skip
  refine .val (.add (.of rfl) (.of rfl) ⟨by omega,by omega⟩) rfl ?_
  rw [show ((pre.length:Nat):Int)+1=((pre ++ [b]).length:Nat) by simp]
  refine .q 1 rfl (.nil ?_)
  refine ⟨(pre ++ [b],r,X5i (X5i P o (.slice a64 (pre.length+1) c64)) b (.slice (some (ad b77 0)) 1 1),X11 (X11 Q o (pre.map (fun (x:Nat)=>(x:Int)+1) ++ [(b:Int)+1])) b [(P0.length:Int)],.slice a64 (pre.length+1) c64,J2),⟨rfl,rfl,rfl,rfl,rfl,trivial⟩,⟨by rw [hbs]; simp,hJ.trans hJ2,((hX.setO _ _).mono hJ2).setB _ _ _ hI2,by simp [X5i,hPl],⟨ko,co,?_⟩,⟨kq,cq,?_⟩,fun h=>by simp at h,?_,?_⟩,by simp⟩
  ·simp [X5i,Y1l,hPo,hbo]
  ·simp [X11,Y1l,hQo,hbo]
  ·rw [← hgo,X1j]; simp
  ·simpa using hS
 have hc41:=hb41; try simp only [Y6] at hc41
 refine .exit ?_
 have hrem:rem=[]:=by
  cases rem with
  | nil=>rfl
  | cons b r=>simp at hlen; omega
 subst hrem
 replace hS:=hS.drop (k:=1) rfl
 obtain ⟨J2,hJ2,hI2,hS⟩:=Xhu (k:=0) (xs:=pre.map fun (x:Nat)=>(x:Int)+1) hS (by rw [Yz]; rfl) (fun h=>htv (by simpa using h))
 replace hS:=hS.vecShut (k:=1) (n:=P.length) (cap:=cl) rfl (by omega) hcl2 (by rw [X6m enc 3 X61]) (by rw [X6m enc 3 X61] at hcl4 ⊢; omega)
 rw [← hPl] at hS ⊢
 refine .t 1 rfl (.call X75 rfl (X0 (.of rfl) (X0 (.of rfl) (X0 (.of rfl) X4))) rfl (X2q _ _ _ _ _ _ _ _ _ _ _ _ hS (by omega)) ?_)
 clear hS
 rintro _ w ⟨rfl,lv2,hS⟩
 refine .nil (X8g Tryz.results198 ?_)
 replace hS:=hS.say (k:=1) (A':=Vec 224 3 lv2 (P.length+1) ((P ++ [((6:Int),(0:Int),Value.slice none 0 0)]).flatMap enc)) rfl (fun h hh=>by rw [Y1p]; exact hh)
 refine ⟨_,rfl,rfl,lv2,sv2,av2,P ++ [(6,0,.slice none 0 0)],J2,hJ.trans hJ2,?_,?_⟩
 ·rw [hPl,← hgo,X1j]
  exact ((hX.mono hJ2).back (fun p q hp hq=>by rw [hPo] at hp; rw [hQo] at hq; cases hp; cases hq; exact hI2)).snoc 6 0 _ _ (IntsI.nil _)
 ·have e5:(ats.take (st.length:Int).toNat).length=st.length:=by rw [Yi,Yu]; omega
  rw [e5] at hS
  rw [Y0]
  exact hS
theorem X9j (s p:List UInt8) (w:World) (hs:s.length≤140737488351232) (hp:p.length≤140737488351232) :
  Calls Tryz.prog 184 [S s,S p].toArray w (Ret fun v w'=>v=.bool (X2n s p)∧w=w'):=by
 refine calls Tryz.func184 rfl Tryz.ntmps184 rfl (.seq (.q 1 rfl (.seq (.region (.run 6 rfl ⟨Qu9,Qu9,trivial⟩ (.gval rfl rfl (fun hg1=>(.move (.of rfl))) rfl (.gval rfl rfl (fun hg1=>(.move (.of rfl))) rfl (.gval rfl rfl (fun hg1=>(.len (.gd hg1 rfl) Qu9)) rfl ?_))))))))
 refine WL.gval rfl rfl (fun hg1=>(.subTo (.gd hg1 rfl) (.gd hg1 rfl) (by (try simp only [Y6] at hg1); omega) (by (try simp only [Y6] at hg1); omega) Qu9)) rfl ?_
 refine .gval rfl rfl (fun hg1=>(.move (.of rfl))) rfl (.gval rfl rfl (fun hg1=>(.eqs (.gd hg1 rfl) (.gd hg1 rfl))) rfl (.val (.pand (.of rfl) (.of rfl) (.of rfl)) rfl (.q 1 rfl (.nil (.ret (X9 Tryz.results184 rfl ?_))))))
 exact ⟨_,rfl,rfl,rfl⟩
theorem X3q (s p:List UInt8) (w:World) (hs:s.length≤140737488351232) (hp:p.length≤140737488351232) :
  Calls Tryz.prog 151 [S s,S p].toArray w (Ret fun v w'=>v=.bool (X2n s p)∧w=w'):=by
 refine calls Xoa rfl Tryz.ntmps151 rfl (.seq (.q 1 rfl (.seq (.t 2 rfl (.call Tryz.func184 rfl (X0 (.of rfl) (X0 (.of rfl) X4)) rfl (X9j _ _ _ hs hp) ?_)))))
 rintro _ _ ⟨rfl,rfl⟩
 refine .q 1 rfl (.nil (.ret (X9 Tryz.results151 rfl ?_)))
 exact ⟨_,rfl,rfl,rfl⟩
end Go.Proofs.YtadhiihnnkcagaaGreatDoor
namespace Go.Proofs.YtadhiihnnkcagaaGreatDoor
open Gk Pc Ul Pat
theorem X1o:Tryz.prog.info? 9=some Tryz.t9:=by kernel_rfl
structure Known (I:Im):Prop where
 dig:DigAt I
 pow : ∀ (B w : World) (As : List X8), Sat B w I As → Go.Lib.TabIs Tryz.prog w "internal/strconv.uint64pow10" .u64 Go.Lib.pow10Tab
 max:∀ (B w:World) (As:List X8),Sat B w I As→∃ m,w.cell? ⟨2,0,none⟩=some (.int .i64 m)
theorem Known.mono {I J:Im} (h:Known I) (hl:Le I J):Known J :=
 have e:∀ (B w:World) (As:List X8),Sat B w J As→Sat B w I As:=fun B w As ⟨g,h1,h2⟩=>⟨g,h1,h2.os,h2.tape,h2.output,fun b o hi=>h2.imm b o (hl b o hi),h2.own,h2.nodup,fun b o hm=>by
  cases hi:I b with
  | none=>rfl
  | some x=>have:=h2.apart b o hm; rw [hl b x hi] at this; cases this⟩
 ⟨h.dig.mono hl,fun B w As s=>h.pow B w As (e B w As s),fun B w As s=>h.max B w As (e B w As s)⟩
theorem X8p {B w:World} {I:Im} {As:List X8} (hS:Sat B w I As) (n:Nat):Sat B (w.drewN n) I As:=hS.world rfl rfl rfl rfl
theorem Xnh {B w:World} {I:Im} {As:List X8} (hS:Sat B w I As) (os:Array Obj):Sat B (Go.Sort.grow w os) I As :=
 hS.grown ⟨rfl,rfl,rfl,by simp [Go.Sort.grow],fun k hk=>by simp [Go.Sort.grow,Array.getElem?_append,hk]⟩
theorem Xma (n:Nat) (hn:n≤65535) (B w:World) (I:Im) (hK:Known I) (As:List X8) (hS:Sat B w I As):Calls Tryz.prog 189 [I64 (n:Nat)].toArray w (Ret fun v w'=>v=S (Go.Lib.decDigits n)∧Sat B w' I As) :=
 (Tryz.strconv_Itoa n (by omega) (by omega) w (hK.pow B w As hS)).mono fun e w' he=>by
  obtain ⟨rfl,k,os,rfl⟩:=he
  refine ⟨_,rfl,?_,Xnh (X8p hS k) os⟩
  unfold Go.Lib.itoa
  rw [if_neg (by omega),Yi]
theorem Xec (s:List UInt8) (hs:s.length≤1000000) (B w:World) (I:Im) (hK:Known I) (As:List X8) (hS:Sat B w I As):Calls Tryz.prog 146 [S s,S SIGN].toArray w (Ret fun v w'=>v=.tuple #[S (Go.Lib.cut s SIGN).1,S (Go.Lib.cut s SIGN).2.1,.bool (Go.Lib.cut s SIGN).2.2]∧Sat B w' I As):=by
 obtain ⟨m,hm⟩:=hK.max B w As hS
 refine (Tryz.strings_Cut ⟨s.toArray⟩ ⟨SIGN.toArray⟩ m w (by show s.length<_; omega) hm).mono fun e w' he=>?_
 obtain ⟨rfl,n,rfl⟩:=he
 exact ⟨_,rfl,rfl,X8p hS n⟩
theorem Xal (s:List UInt8) (c:UInt8) (hs:s.length≤1000000) (B w:World) (I:Im) (hK:Known I) (As:List X8) (hS:Sat B w I As):Calls Tryz.prog 146 [S s,S [c]].toArray w (Ret fun v w'=>v=.tuple #[S (upto [c] s),S ((Xe [c] s).drop 1),.bool (!(Xe [c] s).isEmpty)]∧Sat B w' I As):=by
 obtain ⟨m,hm⟩:=hK.max B w As hS
 refine (Tryz.strings_Cut ⟨s.toArray⟩ ⟨[c].toArray⟩ m w (by show s.length<_; omega) hm).mono fun e w' he=>?_
 obtain ⟨rfl,n,rfl⟩:=he
 refine ⟨_,rfl,?_,X8p hS n⟩
 show Value.tuple #[S (Go.Lib.cut s [c]).1,S (Go.Lib.cut s [c]).2.1,.bool (Go.Lib.cut s [c]).2.2]=_
 rw [Xqp]
theorem Xr6 (l:List ByteArray):l.map Value.string=(l.map (·.data.toList)).map S:=by
 rw [List.map_map]
 rfl
theorem Xjq (s:List UInt8) (hs:s.length≤1000000) (B w:World) (I:Im) (hK:Known I) (As:List X8) (hS:Sat B w I As):Calls Tryz.prog 188 [S s,S [47]].toArray w (Ret fun v w'=>∃ b,v=.slice (some (ad b 0)) (spl s).length (spl s).length∧Sat B w' I (blk b ((spl s).map S) 9::As)):=by
 obtain ⟨m,hm⟩:=hK.max B w As hS
 refine (Tryz.strings_Split ⟨s.toArray⟩ ⟨[47].toArray⟩ m w (by show s.length<_; omega) hm (by decide)).mono fun e w' he=>?_
 obtain ⟨rfl,rfl⟩:=he
 have e1:(spl s).length=Go.Lib.countB ⟨s.toArray⟩ ⟨[47].toArray⟩+1:=Xrs _ s (Yt _)
 have e2:(Go.Lib.splitB ⟨[47].toArray⟩ 0 (Go.Lib.countB ⟨s.toArray⟩ ⟨[47].toArray⟩) ⟨s.toArray⟩).map Value.string=(spl s).map S:=by
  rw [Xr6,Go.Lib.splitB_data]
  show List.map S (Go.Lib.splitK [47] 0 (Go.Lib.count s [47]) s)=_
  rw [Xhg _ s (Yt _)]
 refine ⟨_,rfl,w.heap.size,by rw [e1],?_⟩
 rw [e2]
 exact hS.alloc _
set_option maxHeartbeats 800000 in
theorem Xos (p:List UInt8) (hl:p.length≤1000000) (B w:World) (I:Im) (hK:Known I) (As:List X8) (hS:Sat B w I As) :
  Calls Tryz.prog 154 [S p].toArray w (Ret fun v w'=>v=S (X8a p)∧Sat B w' I As):=by
 refine calls Tryz.func154 rfl Tryz.ntmps154 rfl (.seq (.q 1 rfl (.scope (.seq (.seq (.t 1 rfl (.call Xoa rfl (X0 (.of rfl) (X0 (.of rfl) X4)) rfl (X3q p [47] _ (by omega) (by decide)) ?_)))))))
 rintro _ _ ⟨rfl,rfl⟩
 refine .q 1 rfl (.nil ?_)
 refine WC.cond rfl (fun hb12=>?_) (fun hb12=>?_)
 ·
  refine .seq (.q 2 rfl (.ret (X9 Xqd rfl ?_)))
  refine ⟨_,rfl,?_,hS⟩
  cases p with
  | nil=>rfl
  | cons a b=>rw [X8a,if_neg (fun e=>by subst e; simp [X2n] at hb12; omega)]
 have hc12:=hb12; try simp only [Y6] at hc12
 refine .skip (.seq (.q 1 rfl (.seq (.q 1 rfl (.seq (.label (.seq (.seq ?_))))))))
 have hp1:1≤p.length:=by cases p with | nil=>simp [X2n] at hb12 | cons a b=>simp
 have hpn:=X4r (spl (p.drop 1))
 rw [X39,Yn] at hpn
 refine .t 1 rfl (.val (.subFrom (.of rfl) (.of rfl) (by omega) (by omega) Qu9) rfl ?_)
 refine WL.call Tryz.func188 rfl (X0 (.of rfl) (X0 (.of rfl) X4)) rfl (Xjq (p.drop 1) (by rw [Yn]; omega) B _ I hK As hS) ?_
 clear hS
 rintro _ w ⟨b16,rfl,hS⟩
 refine .run 2 rfl ⟨⟨_,X1p⟩,trivial⟩ (.nil (.block ?_))
 replace hS:=hS.vecNil 9 1
 refine .loop (σ:=Value×Nat) (fun ⟨kv,i⟩=>[(3,kv),(4,.bool (decide (0<i) && X5h ((spl (p.drop 1)).getD (i - 1) []))),(16,.slice (some (ad b16 0)) (spl (p.drop 1)).length (spl (p.drop 1)).length),(17,I64 ((spl (p.drop 1)).length:Nat)),(18,I64 (i:Nat))]) (fun ⟨kv,i⟩ w=>i≤(spl (p.drop 1)).length∧Sat B w I (Vec 9 1 kv (List.foldl keep [] ((spl (p.drop 1)).take i)).length ((List.foldl keep [] ((spl (p.drop 1)).take i)).map S)::blk b16 ((spl (p.drop 1)).map S) 9::As)) (fun ⟨kv,i⟩=>(spl (p.drop 1)).length - i) (.slice none 0 0,0) ⟨rfl,rfl,rfl,rfl,rfl,trivial⟩ ⟨Yp _,hS⟩ ?_
 rintro ⟨kv,i⟩ w ⟨hi,hS⟩
 refine .seq (.q 1 rfl (.seq ?_))
 refine WC.cond rfl (fun hb19=>?_) (fun hb19=>?_)
 ·
  have hc19:=hb19; try simp only [Y6] at hc19
  refine .skip (.seq (.block (.seq ?_)))
  obtain ⟨x,hx⟩:∃ x,(spl (p.drop 1))[i]?=some x:=⟨_,Y4 (by omega)⟩
  have hKn:(List.foldl keep [] ((spl (p.drop 1)).take (i+1)))=keep (List.foldl keep [] ((spl (p.drop 1)).take i)) x:=by rw [Y15,hx,Y3u]; rfl
  have hgd:(spl (p.drop 1)).getD i []=x:=by rw [Y7,hx]; rfl
  have hop:(decide (0<i+1) && X5h ((spl (p.drop 1)).getD (i+1 - 1) []))=X5h x:=by rw [Nat.add_sub_cancel,hgd,decide_eq_true (by omega),Y31]
  obtain ⟨ka,kc,rfl,hkc,_⟩:=hS.vecSlice (k:=0) (v:=kv) rfl
  have hKl:(List.foldl keep [] ((spl (p.drop 1)).take i)).length≤1000001:=by
   have h1:=X4r (List.foldl keep [] ((spl (p.drop 1)).take i))
   have h2:=X68 ((spl (p.drop 1)).take i) []
   have h3:tot (spl (p.drop 1))=tot ((spl (p.drop 1)).take i)+tot ((spl (p.drop 1)).drop i):=by rw [← X7m,Y10]
   have h4:=X39 (p.drop 1)
   rw [Yn] at h4
   rw [show tot []=0 from rfl] at h2
   omega
  refine .region (.val (.indexAddr (.of rfl) (.of rfl) (by omega) (by omega) X1p Qs9) rfl ?_)
  refine WL.val (.ld (v:=S x) (.of rfl) hS (k:=1) rfl Qg9 (by rw [Yd,Yi,Y1k,Yy,hx]; rfl)) rfl ?_
  refine .q 1 rfl (.nil (.seq (.q 1 rfl (.seq (.seq (.q 1 rfl (.block (.seq (.q 2 rfl ?_)))))))))
  refine WC.cond rfl (fun hb23=>?_) (fun hb23=>?_)
  ·
   have hc23:=hb23; try simp only [Y6] at hc23
   refine .exit (.region (.run 2 rfl ⟨⟨by omega,by omega⟩,trivial⟩ (.nil ?_)))
   refine ⟨(_,i+1),⟨rfl,by show some (Value.bool _)=some _; rw [hop]; rw [show x=[46] by simpa using hb23]; rfl,rfl,rfl,rfl,trivial⟩,⟨by omega,?_⟩,by (try dsimp only); omega⟩
   rw [hKn,keep,if_pos (by simpa using hb23)]
   exact hS
  have hc23:=hb23; try simp only [Y6] at hc23
  refine .seq (.q 2 rfl ?_)
  refine WC.cond rfl (fun hb25=>?_) (fun hb25=>?_)
  ·
   have hc25:=hb25; try simp only [Y6] at hc25
   refine .seq (.region (.run 4 rfl ⟨⟨_,X1p⟩,⟨by omega,by omega⟩,trivial⟩ (.val (.max2 (.of rfl) (.of rfl)) rfl (.val (.slcTo (.of rfl) (.of rfl) (by omega) (by omega) X1p Qs9) rfl ?_))))
   obtain ⟨a2,c2,e2,hS⟩:=hS.vecTakeI (m:=(max 0 (((List.foldl keep [] ((spl (p.drop 1)).take i)).length:Int) - 1)).toNat) (l:=(List.foldl keep [] ((spl (p.drop 1)).take i))) (k:=0) rfl (by omega)
   rw [e2]
   rw [show (max 0 (((List.foldl keep [] ((spl (p.drop 1)).take i)).length:Int) - 1)).toNat=(List.foldl keep [] ((spl (p.drop 1)).take i)).length - 1 by omega] at hS ⊢
   refine .q 1 rfl (.nil (.exit (.region (.run 2 rfl ⟨⟨by omega,by omega⟩,trivial⟩ (.nil ?_)))))
   refine ⟨(_,i+1),⟨rfl,by show some (Value.bool _)=some _; rw [hop]; rw [show x=[46,46] by simpa using hb25]; rfl,rfl,rfl,rfl,trivial⟩,⟨by omega,?_⟩,by (try dsimp only); omega⟩
   rw [hKn,keep,if_neg (by simpa using hb23),if_pos (by simpa using hb25),List.dropLast_eq_take]
   exact hS
  have hc25:=hb25; try simp only [Y6] at hc25
  refine .skip (.seq (.q 1 rfl (.t 2 rfl (.buildSlice (cs:=[_]) hS (X5 (.of rfl) X6) X1p Qs9 Qz9 rfl rfl rfl rfl ?_))))
  clear hS; intro b35 w hS
  refine WL.append (size:=1) (bytes:=16) hS (.of rfl) (.of rfl) (k:=0) rfl X1p X1o rfl rfl rfl rfl rfl rfl rfl ⟨by omega,by unfold maxLen; omega⟩ rfl ?_
  clear hS; intro v36 w hS
  obtain ⟨a36,c36,rfl,hcap36,_⟩:=hS.vecSlice (k:=0) (v:=v36) rfl
  refine .q 1 rfl (.nil (.region (.run 2 rfl ⟨⟨by omega,by omega⟩,trivial⟩ (.nil ?_))))
  refine ⟨(_,i+1),⟨rfl,by show some (Value.bool _)=some _; rw [hop]; rw [X5h,show (x == [46])=false by simpa using hb23,show (x == [46,46])=false by simpa using hb25]; rfl,rfl,rfl,rfl,trivial⟩,⟨by omega,?_⟩,by (try dsimp only); omega⟩
  rw [hKn,keep,if_neg (by simpa using hb23),if_neg (by simpa using hb25),Yw,Y0]
  exact hS
 have hc19:=hb19; try simp only [Y6] at hc19
 refine .exit (.seq ?_)
 have hin:i=(spl (p.drop 1)).length:=by omega
 subst hin
 rw [Y1b] at hS
 obtain ⟨ka,kc,rfl,hkc,_⟩:=hS.vecSlice (k:=0) (v:=kv) rfl
 have htot:=X68 (spl (p.drop 1)) []
 rw [X39,show tot []=0 from rfl,Yd,Yn] at htot
 have hkt:=X4r (List.foldl keep [] (spl (p.drop 1)))
 refine .q 1 rfl (.seq (.seq (.region (.run 3 rfl ⟨⟨_,X1p⟩,trivial⟩ (.nil (.block (.loop (σ:=Nat) (fun j=>[(3,.slice ka (List.foldl keep [] (spl (p.drop 1))).length kc),(4,.bool (decide (0<(spl (p.drop 1)).length) && X5h ((spl (p.drop 1)).getD ((spl (p.drop 1)).length - 1) []))),(38,.slice ka (List.foldl keep [] (spl (p.drop 1))).length kc),(39,I64 ((List.foldl keep [] (spl (p.drop 1))).length:Nat)),(40,I64 (j:Nat)),(7,S (X18 ((List.foldl keep [] (spl (p.drop 1))).take j)))]) (fun j w=>j≤(List.foldl keep [] (spl (p.drop 1))).length∧Sat B w I (Vec 9 1 (.slice ka (List.foldl keep [] (spl (p.drop 1))).length kc) (List.foldl keep [] (spl (p.drop 1))).length ((List.foldl keep [] (spl (p.drop 1))).map S)::blk b16 ((spl (p.drop 1)).map S) 9::As)) (fun j=>(List.foldl keep [] (spl (p.drop 1))).length - j) 0 ⟨rfl,rfl,rfl,rfl,rfl,rfl,trivial⟩ ⟨Yp _,hS⟩ ?_)))))))
 rintro j w ⟨hj,hS⟩
 refine .seq (.q 1 rfl (.seq ?_))
 refine WC.cond rfl (fun hb41=>?_) (fun hb41=>?_)
 ·
  have hc41:=hb41; try simp only [Y6] at hc41
  refine .skip (.seq (.block (.seq ?_)))
  obtain ⟨x,hx⟩:∃ x,(List.foldl keep [] (spl (p.drop 1)))[j]?=some x:=⟨_,Y4 (by omega)⟩
  have hsn:X18 ((List.foldl keep [] (spl (p.drop 1))).take (j+1))=X18 ((List.foldl keep [] (spl (p.drop 1))).take j) ++ 47::x:=by rw [Y15,hx]; exact X90 _ _
  have hsl:(X18 ((List.foldl keep [] (spl (p.drop 1))).take j)).length+(x.length+1)≤tot (List.foldl keep [] (spl (p.drop 1))):=by
   rw [show x.length+1=(47::x).length from rfl,← Y0,← hsn,X2v]
   have:tot (List.foldl keep [] (spl (p.drop 1)))=tot ((List.foldl keep [] (spl (p.drop 1))).take (j+1))+tot ((List.foldl keep [] (spl (p.drop 1))).drop (j+1)):=by rw [← X7m,Y10]
   omega
  obtain ⟨g19,rest19,hS19⟩:∃ g rest,ka=some (ad g 0)∧Sat B w I (blk g ((List.foldl keep [] (spl (p.drop 1))).map S ++ rest) 9::blk b16 ((spl (p.drop 1)).map S) 9::As):=by
   obtain ⟨g,c,rest,hv,_,_,_,_,hs⟩:=hS.vecOpen (k:=0) rfl (by omega)
   injection hv with hv1 hv2 hv3
   exact ⟨g,rest,hv1,hs⟩
  obtain ⟨rfl,hS19⟩:=hS19
  refine .region (.val (.indexAddr (b:=g19) (o:=0) (.of rfl) (.of rfl) (by omega) (by omega) X1p Qs9) rfl ?_)
  refine WL.val (.ld (v:=S x) (.of rfl) hS19 (k:=0) rfl Qg9 (by rw [Yd,Yi,Y1k,Yg (by rw [Yz]; omega),Yy,hx]; rfl)) rfl ?_
  clear hS19
  refine .q 1 rfl (.nil (.region ?_))
  refine WL.run 5 rfl ⟨by (try simp only [Y0,Y8,Yk]); omega,by (try simp only [Y0,Y8,Yk]); omega,trivial⟩ (.nil (.region (.run 2 rfl ⟨⟨by omega,by omega⟩,trivial⟩ (.nil ?_))))
  refine ⟨j+1,⟨rfl,rfl,rfl,rfl,rfl,by show some (S _)=some _; rw [hsn]; simp,trivial⟩,⟨by omega,hS⟩,by omega⟩
 have hc41:=hb41; try simp only [Y6] at hc41
 refine .exit (.seq (.seq ?_))
 have hjn:(List.foldl keep [] (spl (p.drop 1))).take j=(List.foldl keep [] (spl (p.drop 1))):=Yx (by omega)
 have hsl2:(X18 ((List.foldl keep [] (spl (p.drop 1))).take j)).length≤tot (List.foldl keep [] (spl (p.drop 1))):=by rw [hjn,X2v]; exact Yt _
 refine .t 2 rfl (.gval rfl rfl (fun hg1=>(.move (.of rfl))) rfl (.gval rfl rfl (fun hg1=>(.lenSlice (.gd hg1 rfl) X1p)) rfl (.gval rfl rfl (fun hg1=>(.eql (.gd hg1 rfl) (.of rfl))) rfl (.val (.por (.of rfl) (.of rfl) (.of rfl)) rfl (.nil ?_)))))
 refine WC.cond rfl (fun hb54=>?_) (fun hb54=>?_)
 ·
  have hc54:=hb54; try simp only [Y6] at hc54
  refine .region (WL.run 3 rfl ⟨by (try simp only [Y0,Y8,Yk]); omega,trivial⟩ (.nil (.seq (.q 2 rfl (.ret (X9 Xqd rfl ?_))))))
  have hjn:(List.foldl keep [] (spl (p.drop 1))).take j=(List.foldl keep [] (spl (p.drop 1))):=Yx (by omega)
  rw [hjn]
  have hlast:(decide (0<(spl (p.drop 1)).length) && X5h ((spl (p.drop 1)).getD ((spl (p.drop 1)).length - 1) []))=X5h ((spl (p.drop 1)).getLastD []):=by
   have hne:=X99 (p.drop 1)
   have hp0:0<(spl (p.drop 1)).length:=Y22.2 hne
   rw [decide_eq_true hp0,Y31]
   congr 1
   rw [Y3i,Y3j,Y7]
  have hpc:p=47::p.drop 1:=by
   cases p with
   | nil=>simp [X2n] at hb12
   | cons a b=>simp [X2n] at hb12; rw [hb12.2]; rfl
  have hall:X8a p=X18 (List.foldl keep [] (spl (p.drop 1))) ++ (if X5h ((spl (p.drop 1)).getLastD []) || (List.foldl keep [] (spl (p.drop 1))).length == 0 then [47] else []):=by rw [hpc,X8a,if_pos rfl]; rfl
  refine ⟨_,rfl,?_,(hS.drop (k:=0) rfl).drop (k:=0) rfl⟩
  rw [hall]
  rw [if_pos (by rw [← hlast]; simpa using hb54)]
 have hc54:=hb54; try simp only [Y6] at hc54
 refine .skip (.seq (.q 2 rfl (.ret (X9 Xqd rfl ?_))))
 have hjn:(List.foldl keep [] (spl (p.drop 1))).take j=(List.foldl keep [] (spl (p.drop 1))):=Yx (by omega)
 rw [hjn]
 have hlast:(decide (0<(spl (p.drop 1)).length) && X5h ((spl (p.drop 1)).getD ((spl (p.drop 1)).length - 1) []))=X5h ((spl (p.drop 1)).getLastD []):=by
  have hne:=X99 (p.drop 1)
  have hp0:0<(spl (p.drop 1)).length:=Y22.2 hne
  rw [decide_eq_true hp0,Y31]
  congr 1
  rw [Y3i,Y3j,Y7]
 have hpc:p=47::p.drop 1:=by
  cases p with
  | nil=>simp [X2n] at hb12
  | cons a b=>simp [X2n] at hb12; rw [hb12.2]; rfl
 have hall:X8a p=X18 (List.foldl keep [] (spl (p.drop 1))) ++ (if X5h ((spl (p.drop 1)).getLastD []) || (List.foldl keep [] (spl (p.drop 1))).length == 0 then [47] else []):=by rw [hpc,X8a,if_pos rfl]; rfl
 refine ⟨_,rfl,?_,(hS.drop (k:=0) rfl).drop (k:=0) rfl⟩
 rw [hall]
 rw [if_neg (by rw [← hlast,Y2i]; simpa using hb54),Yc]
end Go.Proofs.YtadhiihnnkcagaaGreatDoor
namespace Go.Proofs.YtadhiihnnkcagaaGreatDoor
open Gk Ul Pc Tk Tr
def PREV:List (List UInt8):=[[],pre 1,pre 2,pre 3,pre 4,pre 5,pre 6]
def PreAt (I:Im):Prop:=At I (ad 0 0) (PREV.map S)
theorem PreAt.mono {I J:Im} (h:PreAt I) (hl:Le I J):PreAt J:=At.mono h hl
theorem Xr3 {k:Nat} (h:k<7):(((PREV.map S).drop (k*1)))[0]?=some (S (pre k)):=by
 match k,h with
 | 0,_=>rfl
 | 1,_=>rfl
 | 2,_=>rfl
 | 3,_=>rfl
 | 4,_=>rfl
 | 5,_=>rfl
 | 6,_=>rfl
def X42 (k:Int):List UInt8:=if k<1∨6<k then [] else pre k.toNat
theorem Ex.slcArr {P:Program} {n:Nat} {L:Env} {w:World} {d:Option Nat} {ty:TypeId} {pos:String} {af:Array Edge} {gg:Option (Nat×Bool)} {t e:TypeId} {x:Operand} {p:Addr} {m s:Nat} (hx:Ev n L x (.pointer (some p))) (ht:P.underlying t=some (.array m e)) (hs:∀ w,(Go.sizeOf e).run P w=.ok s w) :
  Ex P n L w ⟨d,.slice t x none none none,ty,pos,af,gg⟩ (.slice (some (if m=0 then p else p.add (0*s))) (m - 0) (m - 0)) w:=fun a ha=>by
 obtain ⟨e1,e2⟩:=Xg2 ht
 have h:=run_sliceAt_array_all (P:=P) w t p (by rw [e1,e2]; exact ht)
 rw [e1,e2,hs] at h
 simp [execOp,hx a ha,h,slicedAt]
def Xfu (p:List UInt8):List (List UInt8)→Nat→Int
 | [],_=>-1
 | x::r,i=>if p=x then (i:Int) else Xfu p r (i+1)
theorem X8z (p:List UInt8):∀ (n:Nat) (r:List (List UInt8)) (i:Nat),(∀ (j:Nat) x,j<n→r[j]?=some x→p≠x)→Xfu p r i=Xfu p (r.drop n) (i+min n r.length)
 | 0,r,i,_=>by simp
 | n+1,[],i,_=>by simp [Xfu]
 | n+1,x::r,i,h=>by
  rw [Xfu,if_neg (h 0 x (by omega) rfl),X8z p n r (i+1) (fun j y hj hy=>h (j+1) y (by omega) (by simpa using hy)),Y9,Y8]
  congr 1
  omega
theorem Xnc {p:List UInt8} {l:List (List UInt8)} {i:Nat} (h:∀ (j:Nat) x,j<i→l[j]?=some x→p≠x) (hs:l[i]?=some p):Xfu p l 0=(i:Int):=by
 have hi:=(Y5.1 hs).1
 rw [X8z p i l 0 h,Yd,Y3b (by omega),Y1d hi,(Y5.1 hs).2,Xfu,if_pos rfl]
theorem Xkg {p:List UInt8} {l:List (List UInt8)} (h:∀ (j:Nat) x,l[j]?=some x→p≠x):Xfu p l 0=-1:=by
 rw [X8z p l.length l 0 (fun j x _ hx=>h j x hx),Y34]
 rfl
theorem Xgo (p:List UInt8):(1≤Xfu p PREV 0→X35 p≠0∧Xfu p PREV 0=(X35 p:Int))∧(¬ 1≤Xfu p PREV 0→X35 p=0):=by
 unfold PREV X35
 simp only [Xfu]
 by_cases h0:p=[]
 ·subst h0
  exact ⟨fun h=>by simp at h,fun _=>by decide⟩
 rw [if_neg h0]
 by_cases h1:p=pre 1
 ·rw [if_pos h1,if_pos h1]; exact ⟨fun _=>⟨by decide,by decide⟩,fun h=>absurd (by decide) h⟩
 rw [if_neg h1,if_neg h1]
 by_cases h2:p=pre 2
 ·rw [if_pos h2,if_pos h2]; exact ⟨fun _=>⟨by decide,by decide⟩,fun h=>absurd (by decide) h⟩
 rw [if_neg h2,if_neg h2]
 by_cases h3:p=pre 3
 ·rw [if_pos h3,if_pos h3]; exact ⟨fun _=>⟨by decide,by decide⟩,fun h=>absurd (by decide) h⟩
 rw [if_neg h3,if_neg h3]
 by_cases h4:p=pre 4
 ·rw [if_pos h4,if_pos h4]; exact ⟨fun _=>⟨by decide,by decide⟩,fun h=>absurd (by decide) h⟩
 rw [if_neg h4,if_neg h4]
 by_cases h5:p=pre 5
 ·rw [if_pos h5,if_pos h5]; exact ⟨fun _=>⟨by decide,by decide⟩,fun h=>absurd (by decide) h⟩
 rw [if_neg h5,if_neg h5]
 by_cases h6:p=pre 6
 ·rw [if_pos h6,if_pos h6]; exact ⟨fun _=>⟨by decide,by decide⟩,fun h=>absurd (by decide) h⟩
 rw [if_neg h6,if_neg h6]
 exact ⟨fun h=>absurd h (by decide),fun _=>rfl⟩
theorem X76 (a:Option Addr) (c:Nat) (l:List (List UInt8)) (hll:l.length≤100000) (p:List UInt8) (B w:World) (I:Im) (hA:RS I a 1 l.length (l.map S)) (As:List X8) (hS:Sat B w I As) :
  Calls Tryz.prog 141 [.slice a l.length c,S p].toArray w (Ret fun v w'=>v=I64 (Xfu p l 0)∧Sat B w' I As):=by
 refine calls Xoc rfl Tryz.ntmps141 rfl (.seq (.q 1 rfl (.seq (.seq (.region (.run 3 rfl ⟨⟨_,X1p⟩,trivial⟩ (.nil (.block (.loop (σ:=Nat) (fun i=>[(0,.slice a l.length c),(1,S p),(7,I64 (l.length:Nat)),(8,I64 (i:Nat))]) (fun i w=>i≤l.length∧(∀ (j:Nat) x,j<i→l[j]?=some x→p≠x)∧Sat B w I As) (fun i=>l.length - i) 0 ⟨rfl,rfl,rfl,rfl,trivial⟩ ⟨Yp _,fun _ _ h=>absurd h (by omega),hS⟩ ?_)))))))))
 rintro i w ⟨hi,hno,hS⟩
 refine .seq (.q 1 rfl (.seq ?_))
 refine WC.cond rfl (fun hb9=>?_) (fun hb9=>?_)
 ·
  have hc9:=hb9; try simp only [Y6] at hc9
  refine .skip (.seq (.block (.seq ?_)))
  obtain ⟨x,hx⟩:∃ x,l[i]?=some x:=⟨_,Y4 (by omega)⟩
  obtain ⟨q,rfl,hq⟩:=hA.2 (by omega)
  have hqx:((l.map S).drop ((i:Int).toNat*1))[0]?=some (S x):=by rw [Y1g,Yi,Y1k,Y2h,Yy,hx]; rfl
  refine .q 2 rfl (.seq (.t 3 rfl (.val (.indexAddrI (.of rfl) (.of rfl) (by omega) (by omega) X1p Qs9) rfl (.val (.ldI (v:=S x) (.of rfl) hS (hq.add _) Qg9 hqx) rfl (.q 1 rfl (.nil ?_))))))
  refine WC.cond rfl (fun hb16=>?_) (fun hb16=>?_)
  ·
   refine .seq (.q 2 rfl (.ret (X9 Tryz.results141 rfl ?_)))
   have e:p=x:=by simpa using hb16
   subst e
   exact ⟨_,rfl,by rw [Xnc hno hx],hS⟩
  have hc16:=hb16; try simp only [Y6] at hc16
  refine .skip (.region (.run 2 rfl ⟨⟨by omega,by omega⟩,trivial⟩ (.nil ?_)))
  refine ⟨i+1,⟨rfl,rfl,rfl,rfl,trivial⟩,⟨by omega,fun j y hj hy=>?_,hS⟩,by omega⟩
  rcases Yr j i with h1 | h1
  ·exact hno j y h1 hy
  ·have e:j=i:=by omega
   subst e
   rw [hx] at hy; cases hy
   simpa using hb16
 have hc9:=hb9; try simp only [Y6] at hc9
 refine .exit (.seq (.q 1 rfl (.ret (X9 Tryz.results141 rfl ?_))))
 exact ⟨_,rfl,by rw [Xkg (fun j x hx=>hno j x (by have:=(Y5.1 hx).1; omega) hx)],hS⟩
theorem Xam (k:Int) (B w:World) (I:Im) (hP:PreAt I) (As:List X8) (hS:Sat B w I As) :
  Calls Tryz.prog 137 [I64 k].toArray w (Ret fun v w'=>v=S (X42 k)∧Sat B w' I As):=by
 refine calls Tryz.func137 rfl Tryz.ntmps137 rfl (.seq (.q 1 rfl (.seq (.seq (.t 3 rfl (.gval rfl rfl (fun hg1=>(.move (.of rfl))) rfl (.gval rfl rfl (fun hg1=>(.gtr (.gd hg1 rfl) (.of rfl))) rfl (.val (.por (.of rfl) (.of rfl) (.of rfl)) rfl (.nil ?_)))))))))
 refine WC.cond rfl (fun hb8=>?_) (fun hb8=>?_)
 ·
  have hc8:=hb8; try simp only [Y6] at hc8
  refine .seq (.q 1 rfl (.ret (X9 Tryz.results137 rfl ?_)))
  exact ⟨_,rfl,by rw [X42,if_pos (by omega)],hS⟩
 have hc8:=hb8; try simp only [Y6] at hc8
 refine .skip (.seq ?_)
 have hk7:k.toNat<7:=by omega
 refine .t 1 rfl (.val (.arrAddrI (i:=k) (.of rfl) (.of rfl) (by omega) (by omega) Xnu Qs9) rfl (.val (.ldI (v:=S (pre k.toNat)) (.of rfl) hS (At.add hP _) Qg9 (Xr3 hk7)) rfl (.q 1 rfl (.nil (.ret (X9 Tryz.results137 rfl ?_))))))
 exact ⟨_,rfl,by rw [X42,if_neg (by omega)],hS⟩
abbrev HEXD:List UInt8:=[48,49,50,51,52,53,54,55,56,57,97,98,99,100,101,102]
theorem hx_idx (c:UInt8):(match hx c with | some d=>Go.Lib.indexByte HEXD c=(d:Int) | none=>Go.Lib.indexByte HEXD c=-1):=by
 have:=Xx (p:=fun c=>match hx c with | some d=>Go.Lib.indexByte HEXD c == (d:Int) | none=>Go.Lib.indexByte HEXD c == -1) (by decide +kernel) c
 cases h:hx c with
 | some d=>rw [h] at this; simpa using this
 | none=>rw [h] at this; simpa using this
theorem Xmg {s:List UInt8} {i:Nat} {n d:Nat} (hi:i<s.length) (hn:hxS 0 (s.take i)=some n) (hd:hx (at_ s (i:Int))=some d):hxS 0 (s.take (i+1))=some (16*n+d):=by
 have:s[i]?=some (at_ s (i:Int)):=Xz hi
 rw [Y15,this,Y20,Xef,hn,Y33]
 simp only [hxS,hd]
theorem Xkx:∀ (s:List UInt8) (i n:Nat),i<s.length→hx (at_ s (i:Int))=none→hxS n s=none
 | [],i,_,h,_=>by simp at h
 | c::r,0,n,_,h=>by
  rw [hxS,show hx c=none from h]
 | c::r,i+1,n,hi,h=>by
  rw [hxS]
  cases hx c with
  | none=>rfl
  | some d=>exact Xkx r i _ (by simpa using hi) (by
    have e:at_ (c::r) ((i+1:Nat):Int)=at_ r (i:Int):=by simp [at_]
    rw [e] at h; exact h)
theorem or_low {n d:Nat} (hd:d<16):(16*n) ||| d=16*n+d:=by
 have:=Y4b (i:=4) (b:=d) hd n
 simpa using this.symm
theorem Xm8 (s:List UInt8) (hs:s.length≤1000000) (B w:World) (I:Im) (As:List X8) (hS:Sat B w I As) :
  Calls Tryz.prog 147 [S s].toArray w (Ret fun v w'=>v=(match X4c s with | some d=>.tuple #[U64 (d:Nat),.bool true] | none=>.tuple #[U64 0,.bool false])∧Sat B w' I As):=by
 refine calls Tryz.func147 rfl Tryz.ntmps147 rfl (.seq (.q 2 rfl (.seq (.seq (.region (.run 3 rfl ⟨Qu9,trivial⟩ (.nil ?_)))))))
 refine WC.cond rfl (fun hb9=>?_) (fun hb9=>?_)
 ·
  have hc9:=hb9; try simp only [Y6] at hc9
  refine .seq (.q 2 rfl (.ret (X1m Xqk rfl rfl ?_)))
  exact ⟨_,rfl,by rw [X4c,if_neg (by omega)],hS⟩
 have hc9:=hb9; try simp only [Y6] at hc9
 refine .skip (.seq (.q 1 rfl (.seq (.seq (.region (.run 3 rfl ⟨Qu9,trivial⟩ (.nil (.block (.loop (σ:=Nat×Nat) (fun ⟨i,n⟩=>[(0,S s),(4,U64 (n:Nat)),(11,I64 (s.length:Nat)),(12,I64 (i:Nat))]) (fun ⟨i,n⟩ w=>i≤s.length∧hxS 0 (s.take i)=some n∧n<16 ^ i∧Sat B w I As) (fun ⟨i,n⟩=>s.length - i) (0,0) ⟨rfl,rfl,rfl,rfl,trivial⟩ ⟨Yp _,rfl,by decide,hS⟩ ?_)))))))))
 rintro ⟨i,n⟩ w ⟨hi,hn,hn16,hS⟩
 refine .seq (.q 1 rfl (.seq ?_))
 refine WC.cond rfl (fun hb13=>?_) (fun hb13=>?_)
 ·
  have hc13:=hb13; try simp only [Y6] at hc13
  refine .skip (.seq (.block (.seq (.q 2 rfl (.seq (.region (.run 3 rfl ⟨⟨⟨by omega,by omega⟩,Qu9⟩,trivial⟩ (.call Qf181 rfl (X0 (.of rfl) (X0 (.of rfl) X4)) rfl (X40 HEXD (at_ s (i:Int)) _) ?_))))))))
  rintro _ _ ⟨rfl,rfl⟩
  refine .q 1 rfl (.nil (.seq (.seq ?_)))
  have hxi:=hx_idx (at_ s (i:Int))
  refine .q 2 rfl (WC.cond rfl (fun hb20=>?_) (fun hb20=>?_))
  ·
   have hc20:=hb20; try simp only [Y6] at hc20
   refine .seq (.q 2 rfl (.ret (X1m Xqk rfl rfl ?_)))
   refine ⟨_,rfl,?_,hS⟩
   have hdn:hx (at_ s (i:Int))=none:=by
    cases hd:hx (at_ s (i:Int)) with
    | none=>rfl
    | some d=>exfalso; rw [hd] at hxi; simp only at hxi; rw [hxi] at hb20; simp at hb20; omega
   rw [X4c,if_pos (by omega),Xkx s i 0 (by omega) hdn]
  have hc20:=hb20; try simp only [Y6] at hc20
  refine .skip ?_
  obtain ⟨d,hd⟩:∃ d,hx (at_ s (i:Int))=some d:=by
   cases hd:hx (at_ s (i:Int)) with
   | none=>exfalso; rw [hd] at hxi; simp only at hxi; rw [hxi] at hb20; simp at hb20
   | some d=>exact ⟨d,rfl⟩
  rw [hd] at hxi
  simp only at hxi
  have hd16:=hx_lt hd
  rw [hxi]
  have hn15:n<16 ^ 15:=Y2q hn16 (Y3g (by decide) (by omega))
  have hn60:n<1152921504606846976:=by simpa using hn15
  refine .t 1 rfl (.val (.shl (.of rfl) (.of rfl) (by decide) (by decide)) rfl ?_)
  rw [show IntKind.u64.wrap ((n:Int)*2 ^ (4:Int).toNat)=((16*n:Nat):Int) by rw [IntKind.wrap_u64]; simp; omega]
  refine .q 1 rfl (WL.val (.cvi (.of rfl) Qu3 Xad (by rw [IntKind.wrap_u64]; omega)) rfl (.val (.or64 (a:=16*n) (b:=d) (by omega) (by omega) (.of rfl) (.of rfl)) rfl ?_))
  rw [or_low hd16]
  refine .q 1 rfl (.nil (.region (.run 2 rfl ⟨⟨by omega,by omega⟩,trivial⟩ (.nil ?_))))
  refine ⟨(i+1,16*n+d),⟨rfl,rfl,rfl,rfl,trivial⟩,⟨by (try dsimp only); omega,Xmg (by omega) hn hd,?_,hS⟩,by (try dsimp only); omega⟩
  rw [Y2b]; omega
 have hc13:=hb13; try simp only [Y6] at hc13
 refine .exit (.seq (.q 3 rfl (.ret (X1m Xqk rfl rfl ?_))))
 refine ⟨_,rfl,?_,hS⟩
 rw [Yx (by omega)] at hn
 rw [X4c,if_pos (by omega),hn]
theorem Xcv (s:List UInt8) (hs:s.length≤1000000) (B w:World) (I:Im) (hK:Known I) (hP:PreAt I) (As:List X8) (hS:Sat B w I As) :
  Calls Tryz.prog 111 [S s].toArray w (Ret fun v w'=>v=(match X10 s with | some (k,d)=>.tuple #[I64 (k:Nat),U64 (d:Nat),.bool true] | none=>.tuple #[I64 0,U64 0,.bool false])∧Sat B w' I As):=by
 refine calls Tryz.func111 rfl Tryz.ntmps111 rfl (.seq (.q 3 rfl (.seq (.t 1 rfl (.call Qf146 rfl (X0 (.of rfl) (X0 (.of rfl) X4)) rfl (Xal s 45 hs B _ I hK _ hS) ?_)))))
 clear hS
 rintro _ w ⟨rfl,hS⟩
 refine .q 7 rfl (.nil (.seq (.t 1 rfl ?_)))
 refine WL.call Tryz.func147 rfl (X0 (.of rfl) X4) rfl (Xm8 _ (by have:=Xb8 [45] s; rw [Yn]; omega) B _ I _ hS) ?_
 clear hS
 rintro _ w ⟨rfl,hS⟩
 rcases hdr:X4c ((Xe [45] s).drop 1) with _ | d
 ·
  refine .val (.move (.of rfl)) rfl (.q 4 rfl (.nil (.seq (.region (.val (Ex.slcArr (m:=7) (s:=1) (.of rfl) Xnu Qs9) rfl (.q 1 rfl (.call Xoc rfl (X0 (.of rfl) (X0 (.of rfl) X4)) rfl (X76 (some (ad 0 0)) 7 PREV (by decide) (upto [45] s) B _ I ⟨rfl,fun _=>⟨_,rfl,hP⟩⟩ As hS) ?_)))))))
  clear hS
  rintro _ w ⟨rfl,hS⟩
  refine .q 1 rfl (.nil (.seq (.seq (.t 3 rfl (.gval rfl rfl (fun hg1=>(.move (.of rfl))) rfl (.gval rfl rfl (fun hg1=>(.lss (.gd hg1 rfl) (.of rfl))) rfl (.val (.por (.of rfl) (.of rfl) (.of rfl)) rfl (.nil ?_))))))))
  refine WC.cond rfl (fun hb30=>?_) (fun hb30=>?_)
  ·
   refine .seq (.q 3 rfl (.ret (X6r Xna rfl rfl rfl ?_)))
   refine ⟨_,rfl,?_,hS⟩
   have:X10 s=none:=by
    unfold X10
    split
    ·rfl
    ·rw [hdr]; rfl
   rw [this]
  refine .skip (.seq (.q 5 rfl (.ret (X6r Xna rfl rfl rfl ?_))))
  exfalso; simp at hb30
 refine .val (.move (.of rfl)) rfl (.q 4 rfl (.nil (.seq (.region (.val (Ex.slcArr (m:=7) (s:=1) (.of rfl) Xnu Qs9) rfl (.q 1 rfl (.call Xoc rfl (X0 (.of rfl) (X0 (.of rfl) X4)) rfl (X76 (some (ad 0 0)) 7 PREV (by decide) (upto [45] s) B _ I ⟨rfl,fun _=>⟨_,rfl,hP⟩⟩ As hS) ?_)))))))
 clear hS
 rintro _ w ⟨rfl,hS⟩
 refine .q 1 rfl (.nil (.seq (.seq (.t 3 rfl (.gval rfl rfl (fun hg1=>(.move (.of rfl))) rfl (.gval rfl rfl (fun hg1=>(.lss (.gd hg1 rfl) (.of rfl))) rfl (.val (.por (.of rfl) (.of rfl) (.of rfl)) rfl (.nil ?_))))))))
 refine WC.cond rfl (fun hb30=>?_) (fun hb30=>?_)
 ·
  refine .seq (.q 3 rfl (.ret (X6r Xna rfl rfl rfl ?_)))
  refine ⟨_,rfl,?_,hS⟩
  have h0:=(Xgo (upto [45] s)).2 (by simp at hb30; omega)
  rw [X10,if_pos h0]
 refine .skip (.seq (.q 5 rfl (.ret (X6r Xna rfl rfl rfl ?_))))
 refine ⟨_,rfl,?_,hS⟩
 obtain ⟨h0,h1⟩:=(Xgo (upto [45] s)).1 (by simp at hb30; omega)
 rw [X10,if_neg h0,hdr,h1]
 rfl
theorem Is_any (s:List UInt8) (kind:Int) (hs:s.length≤1000000) (B w:World) (I:Im) (hK:Known I) (hP:PreAt I) (As:List X8) (hS:Sat B w I As) :
  Calls Tryz.prog 144 [S s,I64 kind].toArray w (Ret fun v w'=>v=.bool (isT s kind)∧Sat B w' I As):=by
 refine calls Tryz.func144 rfl Tryz.ntmps144 rfl (.seq (.q 1 rfl (.seq (.t 1 rfl (.call Tryz.func111 rfl (X0 (.of rfl) X4) rfl (Xcv s hs B _ I hK hP _ hS) ?_)))))
 clear hS
 rintro _ w ⟨rfl,hS⟩
 rcases hps:X10 s with _ | ⟨k,d⟩
 ·
  refine .val (.move (.of rfl)) rfl (.q 6 rfl (.nil (.seq (.t 2 rfl (.gval rfl rfl (fun hg1=>(.move (.of rfl))) rfl (.gval rfl rfl (fun hg1=>(.move (.of rfl))) rfl (.gval rfl rfl (fun hg1=>(.eql (.gd hg1 rfl) (.gd hg1 rfl))) rfl (.val (.pand (.of rfl) (.of rfl) (.of rfl)) rfl (.q 1 rfl (.nil (.ret (X9 Tryz.results144 rfl ?_))))))))))))
  exact ⟨_,rfl,by rw [isT,hps]; rfl,hS⟩
 refine .val (.move (.of rfl)) rfl (.q 6 rfl (.nil (.seq (.t 2 rfl (.gval rfl rfl (fun hg1=>(.move (.of rfl))) rfl (.gval rfl rfl (fun hg1=>(.move (.of rfl))) rfl (.gval rfl rfl (fun hg1=>(.eql (.gd hg1 rfl) (.gd hg1 rfl))) rfl (.val (.pand (.of rfl) (.of rfl) (.of rfl)) rfl (.q 1 rfl (.nil (.ret (X9 Tryz.results144 rfl ?_))))))))))))
 exact ⟨_,rfl,by rw [isT,hps]; rfl,hS⟩
theorem X96 (kind of:Int) (w:World) :
  Calls Tryz.prog 179 [I64 kind,I64 of].toArray w (Ret fun v w'=>v=.bool (X6a kind of)∧w=w'):=by
 refine calls Xnj rfl Tryz.ntmps179 rfl (.seq (.q 1 rfl (.seq (.seq (.q 1 rfl (.block (.seq (.block (.seq (.block (.block (.seq (.block (.seq (.block (.block (.seq (.seq (.seq (.q 2 rfl ?_))))))))))))))))))))
 refine WC.cond rfl (fun hb6=>?_) (fun hb6=>?_)
 ·
  refine .exit (.seq (.seq (.q 3 rfl (.ret (X9 Xes rfl ?_)))))
  refine ⟨_,rfl,congrArg Value.bool ?_,rfl⟩
  simp only [beq_iff_eq,beq_eq_false_iff_ne] at *
  (subst_vars; simp [X6a]; done)
 refine .skip (.seq (.seq (.q 2 rfl ?_)))
 refine WC.cond rfl (fun hb8=>?_) (fun hb8=>?_)
 ·
  refine .exit (.seq (.seq (.q 3 rfl (.ret (X9 Xes rfl ?_)))))
  refine ⟨_,rfl,congrArg Value.bool ?_,rfl⟩
  simp only [beq_iff_eq,beq_eq_false_iff_ne] at *
  (subst_vars; simp [X6a]; done)
 refine .skip (.seq (.seq (.q 2 rfl ?_)))
 refine WC.cond rfl (fun hb10=>?_) (fun hb10=>?_)
 ·
  refine .exit (.seq (.seq (.q 3 rfl (.ret (X9 Xes rfl ?_)))))
  refine ⟨_,rfl,congrArg Value.bool ?_,rfl⟩
  simp only [beq_iff_eq,beq_eq_false_iff_ne] at *
  (subst_vars; simp [X6a]; done)
 refine .skip (.seq (.seq (.q 2 rfl ?_)))
 refine WC.cond rfl (fun hb12=>?_) (fun hb12=>?_)
 ·
  refine .exit (.seq (.seq (.q 3 rfl (.ret (X9 Xes rfl ?_)))))
  refine ⟨_,rfl,congrArg Value.bool ?_,rfl⟩
  simp only [beq_iff_eq,beq_eq_false_iff_ne] at *
  (subst_vars; simp [X6a]; done)
 refine .skip (.seq (.seq (.q 2 rfl ?_)))
 refine WC.cond rfl (fun hb14=>?_) (fun hb14=>?_)
 ·
  refine .exit (.seq (.seq (.q 3 rfl (.ret (X9 Xes rfl ?_)))))
  refine ⟨_,rfl,congrArg Value.bool ?_,rfl⟩
  simp only [beq_iff_eq,beq_eq_false_iff_ne] at *
  (subst_vars; simp [X6a]; done)
 refine .skip (.seq (.q 2 rfl ?_))
 refine WC.cond rfl (fun hb16=>?_) (fun hb16=>?_)
 ·
  refine .exit (.seq (.seq (.t 3 rfl (.gval rfl rfl (fun hg1=>(.move (.of rfl))) rfl (.gval rfl rfl (fun hg1=>(.eql (.gd hg1 rfl) (.of rfl))) rfl (.val (.por (.of rfl) (.of rfl) (.of rfl)) rfl (.q 1 rfl (.nil (.ret (X9 Xes rfl ?_))))))))))
  refine ⟨_,rfl,congrArg Value.bool ?_,rfl⟩
  simp only [beq_iff_eq,beq_eq_false_iff_ne] at *
  (subst_vars; simp [X6a]; done)
 refine .skip (.exit (.seq (.q 1 rfl (.ret (X9 Xes rfl ?_)))))
 refine ⟨_,rfl,congrArg Value.bool ?_,rfl⟩
 simp only [beq_iff_eq,beq_eq_false_iff_ne] at *
 (simp [X6a, *]; done)
theorem Xhr (kind:Int) (s:List UInt8) (hs:s.length≤1000000) (B w:World) (I:Im) (hK:Known I) (hP:PreAt I) (As:List X8) (hS:Sat B w I As) :
  Calls Tryz.prog 145 [I64 kind,S s].toArray w (Ret fun v w'=>v=.bool (X34 kind s)∧Sat B w' I As):=by
 refine calls Tryz.func145 rfl Tryz.ntmps145 rfl (.seq (.q 1 rfl (.seq (.seq (.q 2 rfl ?_)))))
 refine WC.cond rfl (fun hb9=>?_) (fun hb9=>?_)
 ·
  refine .seq (.t 1 rfl (.call Xnj rfl (X0 (.of rfl) (X0 (.of rfl) X4)) rfl (X96 kind 0 _) ?_))
  rintro _ _ ⟨rfl,rfl⟩
  refine .q 1 rfl (.nil (.ret (X9 Xpz rfl ?_)))
  exact ⟨_,rfl,by rw [X34,if_pos (by simpa using hb9)],hS⟩
 refine .skip (.seq (.t 1 rfl (.call Tryz.func111 rfl (X0 (.of rfl) X4) rfl (Xcv s hs B _ I hK hP _ hS) ?_)))
 clear hS
 rintro _ w ⟨rfl,hS⟩
 rcases hps:X10 s with _ | ⟨k,d⟩
 ·
  refine .val (.move (.of rfl)) rfl (.q 6 rfl (.nil (.seq (.t 2 rfl (.gval rfl rfl (fun hg1=>(.move (.of rfl))) rfl (.gval rfl rfl (fun hg1=>(.move (.of rfl))) rfl (.gcall (T:=fun w=>Sat B w I As) rfl rfl rfl Xnj rfl (fun hg1=>(X0 (.gd hg1 rfl) (X0 (.gd hg1 rfl) X4))) rfl (fun hg1=>X20 (X96 _ _ w) hS) hS ?_)))))))
  clear hS; rintro w hS
  refine .val (.pand (.of rfl) (.of rfl) (.of rfl)) rfl (.q 1 rfl (.nil (.ret (X9 Xpz rfl ?_))))
  exact ⟨_,rfl,by rw [X34,if_neg (by simpa using hb9),hps]; rfl,hS⟩
 refine .val (.move (.of rfl)) rfl (.q 6 rfl (.nil (.seq (.t 2 rfl (.gval rfl rfl (fun hg1=>(.move (.of rfl))) rfl (.gval rfl rfl (fun hg1=>(.move (.of rfl))) rfl (.gcall (T:=fun w=>Sat B w I As) rfl rfl rfl Xnj rfl (fun hg1=>(X0 (.gd hg1 rfl) (X0 (.gd hg1 rfl) X4))) rfl (fun hg1=>X20 (X96 _ _ w) hS) hS ?_)))))))
 clear hS; rintro w hS
 refine .val (.pand (.of rfl) (.of rfl) (.of rfl)) rfl (.q 1 rfl (.nil (.ret (X9 Xpz rfl ?_))))
 exact ⟨_,rfl,by rw [X34,if_neg (by simpa using hb9),hps]; rfl,hS⟩
def X7 (r:Rec):List Value:=[I64 r.kind,S r.name,S r.parent,S r.user,S r.service,S r.url,I64 r.made,I64 r.used,I64 r.uses,.bool r.fresh]
theorem Xcx (r:Rec) (hn:r.name.length≤1000000) (hp:r.parent.length≤1000000) (B w:World) (I:Im) (hK:Known I) (hP:PreAt I) (As:List X8) (hS:Sat B w I As) :
  Calls Tryz.prog 106 [.agg (X7 r).toArray].toArray w (Ret fun v w'=>v=.bool (Xr r)∧Sat B w' I As):=by
 refine calls Tryz.func106 rfl Tryz.ntmps106 rfl (.seq (.region (.boxA (cs:=[_,_,_,_,_,_,_,_,_,_]) hS (.of rfl) rfl ?_)))
 clear hS; intro b1 w hS
 refine .q 1 rfl (.nil (.seq (.region ?_)))
 refine WL.val (.fieldAddr 3 (.of rfl) X15 rfl rfl Qs9 rfl) rfl (.val (.ld (.of rfl) hS (k:=0) rfl Qg9 rfl) rfl (.run 3 rfl ⟨Qu9,trivial⟩ ?_))
 refine WL.gval rfl rfl (fun hg1=>(by exact .fieldAddr 4 (.of rfl) X15 rfl rfl Qs9 rfl)) rfl ?_
 refine .gval rfl rfl (fun hg1=>(.ld (.gd hg1 rfl) hS (k:=0) rfl Qg9 rfl)) rfl (.gval rfl rfl (fun hg1=>(.len (.gd hg1 rfl) Qu9)) rfl (.gval rfl rfl (fun hg1=>(.leq (.gd hg1 rfl) (.of rfl))) rfl (.val (.pand (.of rfl) (.of rfl) (.of rfl)) rfl (.q 1 rfl ?_))))
 refine WL.gval rfl rfl (fun hg1=>(by exact .fieldAddr 5 (.of rfl) X15 rfl rfl Qs9 rfl)) rfl ?_
 refine .gval rfl rfl (fun hg1=>(.ld (.gd hg1 rfl) hS (k:=0) rfl Qg9 rfl)) rfl (.gval rfl rfl (fun hg1=>(.len (.gd hg1 rfl) Qu9)) rfl (.gval rfl rfl (fun hg1=>(.leq (.gd hg1 rfl) (.of rfl))) rfl (.val (.pand (.of rfl) (.of rfl) (.of rfl)) rfl (.q 1 rfl (.nil (.seq (.region ?_)))))))
 refine WL.val (.fieldAddr 6 (.of rfl) X15 rfl rfl Qs3 rfl) rfl (.val (.ld (.of rfl) hS (k:=0) rfl Qg3 rfl) rfl (.q 2 rfl ?_))
 refine WL.gval rfl rfl (fun hg1=>(by exact .fieldAddr 7 (.of rfl) X15 rfl rfl Qs3 rfl)) rfl ?_
 refine .gval rfl rfl (fun hg1=>(.ld (.gd hg1 rfl) hS (k:=0) rfl Qg3 rfl)) rfl (WL.gval rfl rfl (fun hg1=>(by exact .fieldAddr 6 (.of rfl) X15 rfl rfl Qs3 rfl)) rfl ?_)
 refine .gval rfl rfl (fun hg1=>(.ld (.gd hg1 rfl) hS (k:=0) rfl Qg3 rfl)) rfl (.gval rfl rfl (fun hg1=>(.geq (.gd hg1 rfl) (.gd hg1 rfl))) rfl (.val (.pand (.of rfl) (.of rfl) (.of rfl)) rfl (.q 1 rfl ?_)))
 refine WL.gval rfl rfl (fun hg1=>(by exact .fieldAddr 7 (.of rfl) X15 rfl rfl Qs3 rfl)) rfl ?_
 refine .gval rfl rfl (fun hg1=>(.ld (.gd hg1 rfl) hS (k:=0) rfl Qg3 rfl)) rfl (.gval rfl rfl (fun hg1=>(.leq (.gd hg1 rfl) (.of rfl))) rfl (.val (.pand (.of rfl) (.of rfl) (.of rfl)) rfl (.q 1 rfl ?_)))
 refine WL.gval rfl rfl (fun hg1=>(by exact .fieldAddr 8 (.of rfl) X15 rfl rfl Qs3 rfl)) rfl ?_
 refine .gval rfl rfl (fun hg1=>(.ld (.gd hg1 rfl) hS (k:=0) rfl Qg3 rfl)) rfl (.gval rfl rfl (fun hg1=>(.geq (.gd hg1 rfl) (.of rfl))) rfl (.val (.pand (.of rfl) (.of rfl) (.of rfl)) rfl (.q 1 rfl ?_)))
 refine WL.gval rfl rfl (fun hg1=>(by exact .fieldAddr 8 (.of rfl) X15 rfl rfl Qs3 rfl)) rfl ?_
 refine .gval rfl rfl (fun hg1=>(.ld (.gd hg1 rfl) hS (k:=0) rfl Qg3 rfl)) rfl (.gval rfl rfl (fun hg1=>(.leq (.gd hg1 rfl) (.of rfl))) rfl (.val (.pand (.of rfl) (.of rfl) (.of rfl)) rfl (.q 1 rfl (.nil (.seq (.t 2 rfl (.gval rfl rfl (fun hg1=>(.move (.of rfl))) rfl (.val (.pand (.of rfl) (.of rfl) (.of rfl)) rfl (.q 1 rfl ?_)))))))))
 refine WL.gval rfl rfl (fun hg1=>(by exact .fieldAddr 1 (.of rfl) X15 rfl rfl Qs9 rfl)) rfl ?_
 refine .gval rfl rfl (fun hg1=>(.ld (.gd hg1 rfl) hS (k:=0) rfl Qg9 rfl)) rfl (WL.gval rfl rfl (fun hg1=>(by exact .fieldAddr 0 (.of rfl) X15 rfl rfl Qs3 rfl)) rfl ?_)
 refine .gval rfl rfl (fun hg1=>(.ld (.gd hg1 rfl) hS (k:=0) rfl Qg3 rfl)) rfl (.gcall (T:=fun w=>Sat B w I (blk b1 [I64 r.kind,S r.name,S r.parent,S r.user,S r.service,S r.url,I64 r.made,I64 r.used,I64 r.uses,.bool r.fresh] 45::As)) rfl rfl rfl Tryz.func144 rfl (fun hg1=>(X0 (.gd hg1 rfl) (X0 (.gd hg1 rfl) X4))) rfl (fun hg1=>Is_any r.name r.kind hn B _ I hK hP _ hS) hS ?_)
 clear hS; rintro w hS
 refine .val (.pand (.of rfl) (.of rfl) (.of rfl)) rfl (.q 1 rfl ?_)
 refine WL.gval rfl rfl (fun hg1=>(by exact .fieldAddr 0 (.of rfl) X15 rfl rfl Qs3 rfl)) rfl ?_
 refine .gval rfl rfl (fun hg1=>(.ld (.gd hg1 rfl) hS (k:=0) rfl Qg3 rfl)) rfl (WL.gval rfl rfl (fun hg1=>(by exact .fieldAddr 2 (.of rfl) X15 rfl rfl Qs9 rfl)) rfl ?_)
 refine .gval rfl rfl (fun hg1=>(.ld (.gd hg1 rfl) hS (k:=0) rfl Qg9 rfl)) rfl (.gcall (T:=fun w=>Sat B w I (blk b1 [I64 r.kind,S r.name,S r.parent,S r.user,S r.service,S r.url,I64 r.made,I64 r.used,I64 r.uses,.bool r.fresh] 45::As)) rfl rfl rfl Tryz.func145 rfl (fun hg1=>(X0 (.gd hg1 rfl) (X0 (.gd hg1 rfl) X4))) rfl (fun hg1=>Xhr r.kind r.parent hp B _ I hK hP _ hS) hS ?_)
 clear hS; rintro w hS
 refine .val (.pand (.of rfl) (.of rfl) (.of rfl)) rfl (.q 1 rfl (.nil (.ret (X9 Tryz.results106 rfl ?_))))
 exact ⟨_,rfl,rfl,hS.drop (k:=0) rfl⟩
end Go.Proofs.YtadhiihnnkcagaaGreatDoor
namespace Gk
open Go Go.RowKit Go.WideShapes Go.ChangeShapes
def im0 (W:World):Im:=fun b=>W.heap[b]?
theorem sat0 (W:World):Sat W W (im0 W) []:=⟨[],rfl,rfl,rfl,rfl,fun _ _ h=>h,fun _ _ h=>by simp at h,List.nodup_nil,fun _ _ h=>by simp at h⟩
theorem Sat.below {W w:World} {I:Im} {As:List X8} (hS:Sat W w I As) (hl:Le (im0 W) I):Below W.heap.size W w:=by
 obtain ⟨h,_,g⟩:=hS
 have hb:∀ k,k<W.heap.size→w.heap[k]?=W.heap[k]?:=fun k hk=>by
  rw [Y19 hk]
  exact g.imm k _ (hl k _ (Y19 hk))
 refine ⟨g.os,g.tape,g.output,?_,hb⟩
 rcases Y1n W.heap.size with h0 | h0
 ·omega
 ·have h1:=hb (W.heap.size - 1) (by omega)
  rw [Y19 (show W.heap.size - 1<W.heap.size by omega)] at h1
  have:=(Y18.1 h1).1
  omega
theorem Xlc {H:Type} {enc:TypeId×Value→H} {P:Program} {f:Func} {s:ChangeSpec} {apart fresh handsOn:Bool} {W W':World} {args:Array Value} {v:Value} {ds gs:List (DataW H)} {before pa pv:List MemPlace}
  (hW:DataW.Whole enc P f.params.toList s.vars apart W args.toList ds gs before) (hb:Below W.heap.size W W')
  (hres:∀ (b:Nat) (sp:Nat→Bool) (hd:Bool),DataW.TrodAll enc P W' b sp hd f.resultTypes.toList (v.resultList f.resultTypes.size) (s.fn H (ds ++ gs)).results [])
  (hargs:DataW.TrodAll enc P W' 0 (fun b=>decide (b<W.heap.size)) true f.params.toList args.toList (s.fn H (ds ++ gs)).args pa)
  (hvars:DataW.TrodVars enc P W' (fun b=>decide (b<W.heap.size)) s.vars (s.fn H (ds ++ gs)).vars pv) (hps:before=pa ++ pv) :
  s.post enc P f apart fresh handsOn false W args v W':=by
 refine ⟨ds,gs,before,[],pa,pv,hW,hres _ _ _,hargs,hvars,World.keptBut_mono (fun p hp=>⟨hp,?_⟩) (hb.frame (·∈before)),fun h=>(by cases h)⟩
 rw [hps,Y12] at hp
 exact Or.inr hp
end Gk
