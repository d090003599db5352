/- Part 2 of what the proof stands on. -/
import Derived.Test.YtbciobiiejpdgaaGreatDoorMEA
import Derived.Lib.IndexAny
import Derived.Lib.IndexLaws
import Derived.Lib.CountLaws
import Derived.Lib.Split
import Derived.Lib.ItoaNum
import Derived.Lib.IndexBytes
import Derived.Test.YtbciobiiejpdgaaGreatDoorChecked
import Derived.Shelf.Strings.Builder1
import Derived.Shelf.Strings.Builder2
import Derived.Shelf.Small.Utf8
import Derived.Shelf.Small.Strs
import Derived.Shelf.Small.Wraps
import Derived.Shelf.Utf8.RuneCount
import Derived.Shelf.Strconv.Atoi
import Derived.Shelf.Strconv.Itoa0
import Derived.Shelf.Strconv.Itoa1
import Derived.Shelf.LaysM
import Derived.Shelf.Strconv.Itoa2
import Derived.Shelf.Strconv.Itoa3
import Derived.Shelf.Strconv.AtoiErrFast
import Derived.Shelf.Strconv.ParseIntEmpty
import Derived.Shelf.Strconv.AtoiFail
import Derived.Shelf.Strconv.Clone
import Derived.Shelf.Strconv.SyntaxError
import Derived.Shelf.LaysC
import Derived.Shelf.Strconv.ToError
import Derived.Shelf.Strconv.Lower
import Derived.Shelf.Strconv.ParseUint10
import Derived.Shelf.Strconv.ParseUint10Empty
import Derived.Shelf.Strconv.ParseUint10Any
import Derived.Shelf.Strconv.ParseInt10
import Derived.Shelf.Strconv.AtoiLong
import Derived.Shelf.Strconv.AtoiInnerAll
import Derived.Shelf.Strconv.RangeError
import Derived.Shelf.Strconv.ToErrorRange
import Derived.Shelf.Strconv.AtoiAll
import Derived.Shelf.Strconv.ErrVarAll
import Derived.Shelf.Strings.Search1
import Derived.Shelf.Strings.Search2
import Derived.Shelf.Strings.Search3
import Derived.Shelf.Strings.Cut
import Derived.Shelf.Strings.Count
import Derived.Shelf.Strings.Shaped
import Derived.Shelf.Strings.Prefix
import Derived.Shelf.Strings.Split
import Derived.Shelf.Strings.Replace
import Derived.Shelf.Strings.SplitShaped
import Derived.Shelf.Unicode.Decode
import Derived.Shelf.Strings.Runes
import Derived.Shelf.Strings.RuneCount
import Derived.Shelf.Strings.IndexAny
import Derived.Shelf.Strings.AsciiSet
import Derived.Shelf.Strings.IndexAnyAll
import Derived.Shelf.Unicode.DecodeSlow
import Derived.Shelf.Unicode.DecodeAny
import Derived.Ground.Names2Prog
import Derived.Shelf.Slices.Clone
import Derived.Test.YtbciobiiejpdgaaGreatDoorProg
set_option linter.unusedVariables false
set_option linter.unusedSimpArgs false
namespace Ul
open Pc Gk
def lo (c:UInt8):UInt8:=if 65<=c && c<=90 then c+32 else c
def low (s:List UInt8):List UInt8:=s.map lo
theorem X2b (s:List UInt8):(low s).length=s.length:=Y14 ..
def mid (s:List UInt8) (i:Nat):List UInt8:=low (s.take i) ++ s.drop i
theorem Xt0 (s:List UInt8):mid s 0=s:=by simp [mid,low]
theorem Xwq (s:List UInt8) (i:Nat) (h:s.length<=i):mid s i=low s:=by
 simp [mid,Yx h,Y11 h]
theorem Xp1 (s:List UInt8) (i:Nat):(mid s i).length=s.length:=by
 simp [mid,low]; omega
theorem Xue (s:List UInt8) (i:Nat) (h:i<s.length):(mid s i)[i]?=some (at_ s i):=by
 have e:(low (s.take i)).length=i:=by rw [X2b,Yr]; omega
 unfold mid;rw [Yt (by omega),e,Y3k,Xe s h];rfl
theorem Xjh (s:List UInt8) (i:Nat) (h:i<s.length):(mid s i).set i (lo (at_ s i))=mid s (i+1):=by
 have e:(low (s.take i)).length=i:=by rw [X2b,Yr]; omega
 unfold mid;rw [Y2c _ _ (by omega),e,Y3k,Xe s h,Y58,Yz,low,low,Yw,Yd]
 congr 1
 have:s[i]?=some (at_ s i):=by
  rw [Y4 h,at_,Yf,Y8,Y4 h]; rfl
 rw [this];rfl
theorem lo_up {c:UInt8} (h:65<=(c.toNat:Int)/\(c.toNat:Int)<=90):((lo c).toNat:Int)=c.toNat+32:=by
 have h1:(65<=c && c<=90)=true:=by
  simp only [Yn,decide_eq_true_eq,Y1o]
  have e1:(65:UInt8).toNat=65:=rfl;have e2:(90:UInt8).toNat=90:=rfl;rw [e1,e2]; omega
 rw [lo,if_pos h1,UInt8.toNat_add]
 have:(32:UInt8).toNat=32:=rfl
 rw [this]; omega
theorem lo_no {c:UInt8} (h:¬ (65<=(c.toNat:Int)/\(c.toNat:Int)<=90)):lo c=c:=by
 have h1:¬ (65<=c && c<=90)=true:=by
  simp only [Yn,decide_eq_true_eq,Y1o]
  have e1:(65:UInt8).toNat=65:=rfl;have e2:(90:UInt8).toNat=90:=rfl;rw [e1,e2]; omega
 rw [lo,if_neg h1]
theorem Xto {α:Type} {l:List α} {i:Nat} {a:α} (h:l[i]?=some a):l.set i a=l:=by
 apply Y1x
 intro j;rw [Y23];split
 ·rename_i e
  subst e;rw [h,if_pos (Y5.1 h).1]
 ·rfl
theorem Xsz (s:List UInt8) (i:Nat) (h:i<s.length) (hn:lo (at_ s i)=at_ s i):mid s i=mid s (i+1):=by
 rw [<- Xjh s i h,hn];exact (Xto (Xue s i h)).symm
def Xdc (c:UInt8):Bool:=plain c && !(c == 95 || c == 126)
def X4t (s:List UInt8):Bool:=!(s.isEmpty || decide (64<s.length)) && s.all Xdc
theorem Xfh (c:UInt8):((!plain c || ((c.toNat:Int) == 95)) || ((c.toNat:Int) == 126))=!Xdc c :=
 eq_of_beq (Xh (p:=fun c=>((!plain c || ((c.toNat:Int) == 95)) || ((c.toNat:Int) == 126)) == !Xdc c) (by decide +kernel) c)
def BAD:List UInt8:=[34,60,62,35,92,94,123,124,125,96]
def X3e (c:UInt8):Bool:=(33<=c && c<=126) && !BAD.contains c
theorem Xcj (c:UInt8):((decide ((c.toNat:Int)<33) || decide (126<(c.toNat:Int))) || decide (0<=Go.Lib.indexByte BAD c))=!X3e c :=
 eq_of_beq (Xh (p:=fun c=>((decide ((c.toNat:Int)<33) || decide (126<(c.toNat:Int))) || decide (0<=Go.Lib.indexByte BAD c)) == !X3e c) (by decide +kernel) c)
theorem X69 {p:UInt8->Bool} {s:List UInt8} {i:Nat} (h:∀ j,j<i->j<s.length->p (at_ s (j:Int))=true) (hi:s.length<=i):s.all p=true:=by
 rw [Y1c];intro x hx;obtain ⟨j,hj,e⟩:=Y4s.1 hx
 have:=h j (by omega) hj
 rw [at_,Yf,Y8,Y4 hj] at this;rw [<- e]; exact this
theorem X5a {p:UInt8->Bool} {s:List UInt8} {i:Nat} (hi:i<s.length) (h:p (at_ s (i:Int))=false):s.all p=false:=by
 rw [Y33];refine ⟨at_ s (i:Int),?_,by rw [h]; decide⟩;rw [at_,Yf,Y8,Y4 hi];exact Y36 _
def X7w (c:UInt8):Bool:=48<=c && c<=57
def val (s:List UInt8):Nat:=s.foldl (fun n c=>10*n+(c.toNat - 48)) 0
def X1h (s:List UInt8):Bool:=s.all X7w && !(s.headD 0 == 48) && decide (1<=val s) && decide (val s<=65535)
theorem X9h (c:UInt8):(decide ((c.toNat:Int)<48) || decide (57<(c.toNat:Int)))=!X7w c :=
 eq_of_beq (Xh (p:=fun c=>(decide ((c.toNat:Int)<48) || decide (57<(c.toNat:Int))) == !X7w c) (by decide +kernel) c)
theorem Xq5 (s:List UInt8) (c:UInt8):val (s ++ [c])=10*val s+(c.toNat - 48):=by simp [val,Y2r]
theorem X4r (s:List UInt8) (i:Nat) (h:i<s.length):val (s.take (i+1))=10*val (s.take i)+((at_ s (i:Int)).toNat - 48):=by
 have:s[i]?=some (at_ s i):=by
  rw [Y4 h,at_,Yf,Y8,Y4 h]; rfl
 rw [Yz,this];exact Xq5 _ _
theorem Xk1 (s:List UInt8):∀ (i j:Nat),i<=j->val (s.take i)<=val (s.take j):=by
 intro i j h
 induction j with
 | zero=>rw [show i=0 by omega]; exact Yq _
 | succ j ih =>
  by_cases e:i=j+1
  ·rw [e]; exact Yq _
  ·by_cases hj:j<s.length
   ·have:=ih (by omega)
    rw [X4r s j hj]; omega
   ·have:=ih (by omega)
    have e2:s.take (j+1)=s.take j:=by rw [Yx (by omega),Yx (by omega)]
    rw [e2]; exact this
theorem Xxp (s:List UInt8) (h:6<=s.length) (h0:X7w (at_ s 0)=true) (h1:at_ s 0≠48):65535<val s:=by
 have h2:1<=val (s.take 1):=by
  rw [X4r s 0 (by omega)];have hd:=h0;simp only [X7w,Yn,decide_eq_true_eq,Y1o] at hd
  have e1:(48:UInt8).toNat=48:=rfl;rw [e1] at hd
  have:(at_ s 0).toNat≠48:=fun e=>h1 (Y18.1 e)
  show 1<=_+((at_ s 0).toNat - 48)
  omega
 have step:∀ i,i<s.length->10*val (s.take i)<=val (s.take (i+1)):=fun i hi=>by rw [X4r s i hi]; omega
 have a1:10*val (s.take 1)<=val (s.take 2):=step 1 (by omega);have a2:10*val (s.take 2)<=val (s.take 3):=step 2 (by omega);have a3:10*val (s.take 3)<=val (s.take 4):=step 3 (by omega);have a4:10*val (s.take 4)<=val (s.take 5):=step 4 (by omega);have a5:10*val (s.take 5)<=val (s.take 6):=step 5 (by omega);have a6:=Xk1 s 6 s.length h;rw [Y15] at a6;omega
def Xl9:List UInt8:=[104,116,116,112]
def X7a:List UInt8:=[104,116,116,112,115]
def Xwx (s:List UInt8):Nat:=if s=X7a then 443 else 80
def X6q (s sch:List UInt8):Nat:=if val s=Xwx sch then 0 else val s
def upto (ats s:List UInt8):List UInt8:=s.takeWhile fun c=>!ats.contains c
def X6 (ats s:List UInt8):List UInt8:=s.dropWhile fun c=>!ats.contains c
theorem X1l (ats s:List UInt8):upto ats s ++ X6 ats s=s:=Y4l
theorem Xa7 {ats:List UInt8}:∀ {s:List UInt8} {i:Nat},Go.Lib.indexAny s ats=i->upto ats s=s.take i/\X6 ats s=s.drop i/\i<s.length
 | [],i,h=>by simp [Go.Lib.indexAny] at h
 | b::l,i,h=>by
  rw [Go.Lib.indexAny] at h;split at h
  ·rename_i hb
   have:i=0:=by omega
   subst this;have hb':b∈ats:=by simpa using hb
   simp [upto,X6,hb']
  ·rename_i hb
   have hb':ats.contains b=false:=by simpa using hb
   split at h
   ·omega
   ·have hge:=Go.Lib.indexAny_ge ats l
    rename_i hne
    have hne':Go.Lib.indexAny l ats≠-1:=fun e=>hne (beq_iff_eq.2 e)
    obtain ⟨k,hk⟩:∃ k:Nat,Go.Lib.indexAny l ats=k:=⟨(Go.Lib.indexAny l ats).toNat,by omega⟩
    obtain ⟨a,b',c⟩:=Xa7 hk
    have:i=k+1:=by omega
    subst this;refine ⟨?_,?_,by simp; omega⟩
    ·show (b::l).takeWhile _=_
     rw [Y2j];simp only [hb',Y3q,if_true,Y1l]
     rw [<- a]; rfl
    ·show (b::l).dropWhile _=_
     rw [Y34];simp only [hb',Y3q,if_true,Y7]
     rw [<- b']; rfl
theorem X74 {ats:List UInt8}:∀ {s:List UInt8},Go.Lib.indexAny s ats=-1->upto ats s=s/\X6 ats s=[]
 | [],_=>⟨rfl,rfl⟩
 | b::l,h=>by
  rw [Go.Lib.indexAny] at h;split at h
  ·omega
  ·rename_i hb
   have hb':ats.contains b=false:=by simpa using hb
   split at h
   ·rename_i hne
    obtain ⟨a,c⟩:=X74 (s:=l) (ats:=ats) (beq_iff_eq.1 hne);refine ⟨?_,?_⟩
    ·show (b::l).takeWhile _=_
     rw [Y2j];simp only [hb',Y3q,if_true]
     show b::upto ats l=_
     rw [a]
    ·show (b::l).dropWhile _=_
     rw [Y34];simp only [hb',Y3q,if_true]
     exact c
   ·have hge:=Go.Lib.indexAny_ge ats l;omega
theorem Xfj {l:List UInt8} {c:UInt8} (h:128<=c.toNat) (hl:∀ (j:Nat) b,l[j]?=some b->b.toNat<128):Go.Lib.indexByte l c=-1:=by
 have hge:=Go.Lib.indexByte_ge l c
 by_cases e:Go.Lib.indexByte l c=-1
 ·exact e
 ·obtain ⟨k,hk⟩:∃ k:Nat,Go.Lib.indexByte l c=k:=⟨(Go.Lib.indexByte l c).toNat,by omega⟩
  have:=(Go.Lib.indexByte_some hk).1
  have:=hl _ _ this
  omega
theorem indexByte_in {l:List UInt8} {c:UInt8}:(0<=Go.Lib.indexByte l c) ↔ l.contains c=true:=by
 have hge:=Go.Lib.indexByte_ge l c;constructor
 ·intro h;obtain ⟨k,hk⟩:∃ k:Nat,Go.Lib.indexByte l c=k:=⟨(Go.Lib.indexByte l c).toNat,by omega⟩
  have:=(Go.Lib.indexByte_some hk).1
  rw [Y2k];exact Yl this
 ·intro h
  by_cases e:Go.Lib.indexByte l c=-1
  ·have:=Go.Lib.indexByte_none e
   rw [Y2k] at h;obtain ⟨k,hk⟩:=Yy.1 h;exact absurd hk (this k)
  ·omega
theorem Xy {s:List UInt8} {i:Nat} (h:i<s.length):s[i]?=some (at_ s i):=by
 rw [Y4 h,at_,Yf,Y8,Y4 h]; rfl
def Asc (s:List UInt8):Prop:=∀ (j:Nat) b,s[j]?=some b->b.toNat<128
def rv (s cs:List UInt8) (i:Nat):Int:=if (Go.Utf8.decode ⟨s.toArray⟩ i).1<128 then Go.Lib.indexByte cs (UInt8.ofNat (Go.Utf8.decode ⟨s.toArray⟩ i).1) else -1
theorem Xrk {s cs:List UInt8} (hcs:Asc cs) {i:Nat} (hi:i<s.length) (hno:Go.Lib.NoAny s cs i) :
  (0<=rv s cs i->Go.Lib.indexAny s cs=i)/\(rv s cs i<0->Go.Lib.NoAny s cs (i+(Go.Utf8.decode ⟨s.toArray⟩ i).2)/\i+(Go.Utf8.decode ⟨s.toArray⟩ i).2<=s.length/\1<=(Go.Utf8.decode ⟨s.toArray⟩ i).2):=by
 unfold rv;rcases Yp (at_ s (i:Int)).toNat 128 with h | h
 ·rw [Xa9 s i hi h];dsimp only
  rw [if_pos h,show UInt8.ofNat (at_ s (i:Int)).toNat=at_ s (i:Int) by simp,indexByte_in];refine ⟨fun hc=>Go.Lib.indexAny_hit hno (Xy hi) hc,fun hc=>⟨hno.succ (Xy hi) ?_,by omega,by omega⟩⟩;cases hb:cs.contains (at_ s (i:Int)) with
  | false=>rfl
  | true=>have:=indexByte_in.2 hb; omega
 ·obtain ⟨h1,h2,h3,h4,h5⟩:=Xf3 s i hi h;rw [if_neg (by omega)];refine ⟨fun hc=>by omega,fun _=>⟨fun j b hj hb=>?_,h4,h3⟩⟩;rcases Yp j i with hji | hji
  ·exact hno j b hji hb
  ·have hb2:=h5 j hji hj;have hjl:j<s.length:=(Y5.1 hb).1;rw [Xy hjl] at hb;cases hb
   cases hc:cs.contains (at_ s (j:Int)) with
   | false=>rfl
   | true =>
    rw [Y2k] at hc;obtain ⟨k,hk⟩:=Yy.1 hc
    have:=hcs k _ hk
    omega
def X22 (s:List UInt8):Option (List UInt8):=if s.all X3e then X4c s else none
def spl:List UInt8->List (List UInt8)
 | []=>[[]]
 | c::r=>if c=47 then []::spl r else match spl r with
  | []=>[[c]]
  | h::t=>(c::h)::t
theorem Xb1 (s:List UInt8):spl s≠[]:=by
 cases s with
 | nil=>simp [spl]
 | cons c r =>
  simp only [spl]
  split
  ·simp
  ·split <;> simp
theorem X9o:∀ (s:List UInt8),(∀ x∈s,x≠47)->spl s=[s]
 | [],_=>rfl
 | c::r,h=>by
  rw [spl,if_neg (h c (by simp)),X9o r (fun x hx=>h x (by simp [hx]))]
theorem Xpu:∀ (a b:List UInt8),(∀ x∈a,x≠47)->spl (a ++ 47::b)=a::spl b
 | [],b,_=>by show spl (47::b)=_; rw [spl,if_pos rfl]
 | c::r,b,h=>by
  show spl (c::(r ++ 47::b))=_
  rw [spl,if_neg (h c (by simp)),Xpu r b (fun x hx=>h x (by simp [hx]))]
theorem Xdw {s:List UInt8} {i:Nat} (h:s[i]?=some 47) (hno:∀ k,k<i->s[k]?≠some 47):spl s=s.take i::spl (s.drop (i+1)):=by
 have hi:i<s.length:=(Y5.1 h).1;have e:s=s.take i ++ 47::s.drop (i+1):=by
  conv=>lhs; rw [<- Yv i s]
  rw [Y13 hi,(Y5.1 h).2]
 conv=>lhs; rw [e]
 refine Xpu _ _ fun x hx ex=>?_
 obtain ⟨k,hk⟩:=Yy.1 hx;rw [Y1r] at hk;split at hk
 ·rename_i hki
  exact hno k hki (by rw [hk,ex])
 ·cases hk
theorem Xlu:∀ (n:Nat) (s:List UInt8),s.length<=n->Go.Lib.splitK [47] 0 (Go.Lib.count s [47]) s=spl s:=by
 intro n
 induction n with
 | zero =>
  intro s h
  have:s=[]:=Yj (by omega)
  subst this;rfl
 | succ n ih =>
  intro s h;have hge:=Go.Lib.indexByte_ge s 47
  by_cases e:Go.Lib.indexByte s 47=-1
  ·have hi:Go.Lib.index s [47]=-1:=by rw [Go.Lib.index_one]; exact e
   rw [Go.Lib.count_miss hi];refine (X9o s fun x hx ex=>?_).symm;obtain ⟨k,hk⟩:=Yy.1 hx;exact Go.Lib.indexByte_none e k (by rw [hk,ex])
  ·obtain ⟨i,hk⟩:∃ k:Nat,Go.Lib.indexByte s 47=k:=⟨(Go.Lib.indexByte s 47).toNat,by omega⟩
   have hi:Go.Lib.index s [47]=i:=by rw [Go.Lib.index_one]; exact hk
   obtain ⟨h1,h2⟩:=Go.Lib.indexByte_some hk;have hlt:i<s.length:=(Y5.1 h1).1;rw [Go.Lib.count_hit (by simp) hi,Y4q 1,Go.Lib.splitK,hi,if_neg (by simp),Xdw h1 h2];show s.take ((i:Int).toNat+0)::Go.Lib.splitK [47] 0 (Go.Lib.count (s.drop (i+1)) [47]) (s.drop ((i:Int).toNat+1))=_
   rw [Yf,Y21,ih (s.drop (i+1)) (by rw [Yg]; omega)]
theorem Xxf:∀ (n:Nat) (s:List UInt8),s.length<=n->(spl s).length=Go.Lib.count s [47]+1:=by
 intro n
 induction n with
 | zero =>
  intro s h
  have:s=[]:=Yj (by omega)
  subst this;rfl
 | succ n ih =>
  intro s h;have hge:=Go.Lib.indexByte_ge s 47
  by_cases e:Go.Lib.indexByte s 47=-1
  ·have hi:Go.Lib.index s [47]=-1:=by rw [Go.Lib.index_one]; exact e
   rw [Go.Lib.count_miss hi,X9o s fun x hx ex=>?_]
   ·rfl
   ·obtain ⟨k,hk⟩:=Yy.1 hx;exact Go.Lib.indexByte_none e k (by rw [hk,ex])
  ·obtain ⟨i,hk⟩:∃ k:Nat,Go.Lib.indexByte s 47=k:=⟨(Go.Lib.indexByte s 47).toNat,by omega⟩
   have hi:Go.Lib.index s [47]=i:=by rw [Go.Lib.index_one]; exact hk
   obtain ⟨h1,h2⟩:=Go.Lib.indexByte_some hk;have hlt:i<s.length:=(Y5.1 h1).1;rw [Go.Lib.count_hit (by simp) hi,Xdw h1 h2,List.length_cons,ih (s.drop (i+1)) (by rw [Yg]; omega)];show _=1+Go.Lib.count (s.drop (i+1)) [47]+1
   omega
def keep (k:List (List UInt8)) (x:List UInt8):List (List UInt8):=if x=[46] then k else if x=[46,46] then k.dropLast else k ++ [x]
theorem Xoo {k:List (List UInt8)} {x:List UInt8} (h:x=[46]\/x=[46,46]) (h2:x=[46,46]->k=[]):keep k x=k:=by
 unfold keep
 by_cases e1:x=[46]
 ·rw [if_pos e1]
 ·have e2:=h.resolve_left e1;rw [if_neg e1,if_pos e2,h2 e2]; rfl
def X18 (k:List (List UInt8)):List UInt8:=(k.map (47::·)).flatten
def X65 (x:List UInt8):Bool:=x == [46] || x == [46,46]
def X9c:List UInt8->List UInt8
 | []=>[]
 | c::r=>if c=47 then X18 ((spl r).foldl keep []) ++ (if X65 ((spl r).getLastD []) || ((spl r).foldl keep []).length == 0 then [47] else []) else c::r
theorem Xs0 (p:List UInt8):(X9c p == [])=(p == []):=by
 cases p with
 | nil=>rfl
 | cons c r =>
  rw [show ((c::r:List UInt8) == [])=false from rfl];rw [X9c];split
  ·cases hk:(spl r).foldl keep [] with
   | nil=>simp [X18]
   | cons a b=>simp [X18]
  ·rfl
theorem Xay (k:List (List UInt8)) (x:List UInt8):X18 (k ++ [x])=X18 k ++ 47::x:=by simp [X18]
def tot (k:List (List UInt8)):Nat:=(k.map (fun x=>x.length+1)).sum
theorem X3d (k:List (List UInt8)):(X18 k).length=tot k:=by
 induction k with
 | nil=>rfl
 | cons a b ih =>
  rw [tot,Y1b,Y5k,X18,Y1b,Y1q,Y0,List.length_cons];show _+(X18 b).length=_
  rw [ih]; rfl
theorem X3r:∀ (s:List UInt8),tot (spl s)=s.length+1
 | []=>rfl
 | c::r=>by
  have ih:=X3r r;simp only [spl]
  split
  ·simp only [tot,Y1b,Y5k] at ih ⊢
   simp only [List.length_nil,List.length_cons]
   omega
  ·split
   ·rename_i h; exact absurd h (Xb1 r)
   ·rename_i h
    rw [h] at ih;simp only [tot,Y1b,Y5k,List.length_cons] at ih ⊢
    omega
theorem X57 (k:List (List UInt8)):k.length<=tot k:=by
 induction k with
 | nil=>exact Yq _
 | cons a b ih =>
  simp only [tot,Y1b,Y5k,List.length_cons] at ih ⊢
  omega
theorem X8p (a b:List (List UInt8)):tot (a ++ b)=tot a+tot b:=by simp [tot]
theorem Xtu (k:List (List UInt8)) (x:List UInt8):tot (keep k x)<=tot k+(x.length+1):=by
 unfold keep;split
 ·omega
 ·split
  ·rcases List.eq_nil_or_concat k with e | ⟨a,b,e⟩
   ·subst e; simp [tot]
   ·subst e;rw [List.concat_eq_append,List.dropLast_concat,X8p];omega
  ·rw [X8p]; simp [tot]
theorem X7s (l:List (List UInt8)):∀ k,tot (l.foldl keep k)<=tot k+tot l:=by
 induction l with
 | nil=>intro k; simp [tot]
 | cons a b ih =>
  intro k;have h1:=ih (keep k a);have h2:=Xtu k a;rw [Y3i]
  have:tot (a::b)=a.length+1+tot b:=by simp [tot]
  omega
def X1y (s:List UInt8):Option (List UInt8×List UInt8) :=
 if low (s.take 7)=[104,116,116,112,58,47,47] then some (Xl9,s.drop 7)
 else if low (s.take 8)=[104,116,116,112,115,58,47,47] then some (X7a,s.drop 8) else none
structure U where
 sch:List UInt8
 host:List UInt8
 port:Nat
 path:List UInt8
 query:List UInt8
 ask:Bool
def U0:U:=⟨[],[],0,[],[],false⟩
def uc (u:U):List Go.Value:=[S u.sch,S u.host,I64 (u.port:Nat),S u.path,S u.query,.bool u.ask]
def X6s (sch host:List UInt8) (port:Nat) (r:List UInt8):U×Nat :=
 match X22 (upto [63] r) with
 | none=>(U0,15)
 | some p=>match X22 ((X6 [63] r).drop 1) with
  | none=>(U0,15)
  | some q=>(⟨sch,host,port,if p=[] then [47] else X9c p,q,!(X6 [63] r).isEmpty⟩,0)
def X39 (r:List UInt8):List UInt8:=low (upto [47,63,35,58] r)
def behind (sch host:List UInt8) (r:List UInt8):U×Nat :=
 if r.take 1=[58] then
  if X1h (upto [47,63,35] (r.drop 1)) then X6s sch host (X6q (upto [47,63,35] (r.drop 1)) sch) (X6 [47,63,35] (r.drop 1)) else (U0,14)
 else X6s sch host 0 r
def pU (s:List UInt8):U×Nat :=
 if 2000<s.length then (U0,2) else match X1y s with
 | none=>(U0,12)
 | some (sch,r)=>if X4t (X39 r) then behind sch (X39 r) (X6 [47,63,35,58] r) else (U0,13)
def X7f (u:U):List UInt8:=u.sch ++ [58,47,47] ++ u.host ++ (if u.port=0 then [] else 58::Go.Lib.decDigits u.port)
def Xxg (u:U):List UInt8:=X7f u ++ u.path ++ (if u.ask then 63::u.query else [])
def nU (s:List UInt8):List UInt8×Nat:=if (pU s).2=0 then (Xxg (pU s).1,0) else ([],(pU s).2)
theorem Xhj {c:UInt8} (h:lo c=58\/lo c=47):c=lo c:=by
 have:=Xh (p:=fun c=>!(lo c == 58 || lo c == 47) || c == lo c) (by decide +kernel) c
 simp only [Y1j,Y3h,Y10,beq_eq_false_iff_ne,beq_iff_eq] at this
 rcases this with h1 | h1
 ·rcases h with h | h
  ·exact absurd h h1.1
  ·exact absurd h h1.2
 ·exact h1
theorem Xsu (s:List UInt8) (k:Nat):low (s.drop k)=(low s).drop k:=by simp [low]
theorem Xjf (s:List UInt8) (k:Nat):low (s.take k)=(low s).take k:=by simp [low]
theorem Xsv:∀ (s:List UInt8),low s=[58,47,47]->s=[58,47,47]
 | [],h=>by simp [low] at h
 | [_],h=>by simp [low] at h
 | [_,_],h=>by simp [low] at h
 | [a,b,c],h=>by
  simp only [low,Y1b,Y3a,List.cons.injEq,and_true] at h
  obtain ⟨h1,h2,h3⟩:=h;rw [Xhj (.inl h1),h1,Xhj (.inr h2),h2,Xhj (.inr h3),h3]
 | _::_::_::_::_,h=>by simp [low] at h
abbrev SIGN:List UInt8:=[58,47,47]
theorem occ_of {s:List UInt8} {i:Nat} (h:(s.drop i).take 3=SIGN):Go.Lib.occAt s SIGN i=true:=by
 unfold Go.Lib.occAt;rw [Y41];rw [<- h];exact List.take_prefix _ _
theorem Xug {s:List UInt8} {i:Nat} (h:Go.Lib.occAt s SIGN i=true):(s.drop i).take 3=SIGN:=by
 unfold Go.Lib.occAt at h;rw [Y41] at h;obtain ⟨t,e⟩:=h;rw [<- e]; rfl
theorem Xpr {s:List UInt8} {k:Nat} {h:List UInt8} (hk:h.length=k) (hl:low (s.take (k+3))=h ++ SIGN) (hh:h.all (· != 58)=true):Go.Lib.index s SIGN=k/\low (s.take k)=h:=by
 have e1:low (s.take k)=h:=by
  have:=congrArg (List.take k) hl
  rw [<- Xjf,Y5e,Y2h (by omega),Y2i (by omega),Yx (l:=h) (by omega)] at this;exact this
 have e2:(s.drop k).take 3=SIGN:=by
  apply Xsv
  have:=congrArg (List.drop k) hl
  rw [<- Xsu,List.drop_take,show k+3 - k=3 by omega,Y2w (by omega),Y11 (l:=h) (by omega)] at this;exact this
 have hlen:k<=s.length:=by
  have:=congrArg List.length e1
  rw [X2b,Yr,hk] at this;omega
 refine ⟨Go.Lib.index_first hlen (occ_of e2) (fun j hj=>?_),e1⟩;cases ho:Go.Lib.occAt s SIGN j with
 | false=>rfl
 | true =>
  have h3:=Xug ho;have h0:s[j]?=some 58:=by
   have:=congrArg (fun l=>l[0]?) h3
   simpa [Y1r,Y1d] using this
  have h4:h[j]?=some 58:=by
   rw [<- e1,low,Yu,Y1r,if_pos hj,h0]; rfl
  have:=Y1c.1 hh 58 (Yl h4)
  simp at this
theorem Xlt (s:List UInt8):X1y s=(let c:=Go.Lib.cut s SIGN; if c.2.2=true/\(low c.1=Xl9\/low c.1=X7a) then some (low c.1,c.2.1) else none):=by
 have none_of:∀ (h:List UInt8) (k:Nat),h.length=k->Go.Lib.index s SIGN=(k:Nat)->low (s.take k)=h->low (s.take (k+3))=h ++ SIGN:=by
  intro h k hk hi e;have ho:Go.Lib.occAt s SIGN k=true:=by
   rcases Go.Lib.index_spec s SIGN with ⟨h1,_⟩ | ⟨j,h1,_,h2,_⟩
   ·omega
   ·have:j=k:=by omega
    subst this; exact h2
  have h3:=Xug ho;rw [List.take_add,low,Yw,h3];show low (s.take k) ++ _=_
  rw [e]; rfl
 simp only [X1y]
 split
 ·rename_i h
  obtain ⟨hi,e⟩:=Xpr (s:=s) (k:=4) (h:=Xl9) rfl h (by decide);have hc:Go.Lib.cut s SIGN=(s.take 4,s.drop 7,true):=by
   unfold Go.Lib.cut;rw [hi,if_pos (by decide)]; rfl
  rw [hc];simp only
  rw [if_pos ⟨trivial,.inl e⟩,e]
 ·rename_i hn
  split
  ·rename_i h
   obtain ⟨hi,e⟩:=Xpr (s:=s) (k:=5) (h:=X7a) rfl h (by decide);have hc:Go.Lib.cut s SIGN=(s.take 5,s.drop 8,true):=by
    unfold Go.Lib.cut;rw [hi,if_pos (by decide)]; rfl
   rw [hc];simp only
   rw [if_pos ⟨trivial,.inr e⟩,e]
  ·rename_i hn2
   refine (if_neg ?_).symm;rintro ⟨hc,ho⟩;unfold Go.Lib.cut at hc ho;split at hc
   ·rename_i hi
    rw [if_pos hi] at ho;obtain ⟨k,hk⟩:∃ k:Nat,Go.Lib.index s SIGN=k:=⟨(Go.Lib.index s SIGN).toNat,by omega⟩
    rw [hk,Yf] at ho;simp only at ho
    have hkl:k<=s.length:=by
     have:=Go.Lib.index_le s SIGN
     omega
    have hlen:(low (s.take k)).length=k:=by rw [X2b,Yr]; omega
    rcases ho with ho | ho
    ·have k4:k=4:=by rw [<- hlen,ho]; rfl
     subst k4;exact hn (none_of Xl9 4 rfl hk ho)
    ·have k5:k=5:=by rw [<- hlen,ho]; rfl
     subst k5;exact hn2 (none_of X7a 5 rfl hk ho)
   ·cases hc
theorem Xo3 (s:List UInt8) (c:UInt8):Go.Lib.cut s [c]=(upto [c] s,(X6 [c] s).drop 1,!(X6 [c] s).isEmpty):=by
 have hge:=Go.Lib.indexByte_ge s c;have key:Go.Lib.indexAny s [c]=Go.Lib.indexByte s c:=by
  clear hge
  induction s with
  | nil=>rfl
  | cons b l ih =>
   rw [Go.Lib.indexAny,Go.Lib.indexByte,ih]
   have:([c].contains b)=(b == c):=by rw [List.contains_cons]; simp
   rw [this]
 unfold Go.Lib.cut;rw [Go.Lib.index_one]
 by_cases e:Go.Lib.indexByte s c=-1
 ·rw [e,if_neg (by decide)];obtain ⟨h1,h2⟩:=X74 (s:=s) (ats:=[c]) (by rw [key]; exact e);rw [h1,h2]; rfl
 ·obtain ⟨k,hk⟩:∃ k:Nat,Go.Lib.indexByte s c=k:=⟨(Go.Lib.indexByte s c).toNat,by omega⟩
  obtain ⟨h1,h2,h3⟩:=Xa7 (s:=s) (ats:=[c]) (i:=k) (by rw [key]; exact hk);rw [hk,if_pos (by omega),h1,h2,Yf,Y1i]
  have:(s.drop k).isEmpty=false:=by
   cases hd:s.drop k with
   | nil =>
    have:=congrArg List.length hd
    rw [Yg,List.length_nil] at this;omega
   | cons a b=>rfl
  rw [this];rfl
theorem Xrz (p:List UInt8):(X9c p).length<=p.length+1:=by
 cases p with
 | nil=>simp [X9c]
 | cons c r =>
  rw [X9c];split
  ·have h1:=X7s (spl r) [];rw [X3r,show tot []=0 from rfl] at h1;rw [Y0,X3d,List.length_cons]
   have:(if (X65 ((spl r).getLastD []) || ((spl r).foldl keep []).length == 0)=true then [47] else ([]:List UInt8)).length<=1:=by split <;> simp
   omega
  ·simp
theorem Xb8 (a s:List UInt8):(upto a s).length<=s.length:=by
 have:=congrArg List.length (X1l a s)
 rw [Y0] at this; omega
theorem X2l (a s:List UInt8):(X6 a s).length<=s.length:=by
 have:=congrArg List.length (X1l a s)
 rw [Y0] at this; omega
theorem Xpc {s t:List UInt8} (h:X22 s=some t):t.length<=s.length:=by
 unfold X22 at h;split at h
 ·exact Xdj s t h
 ·cases h
def X8t (u:U):Prop:=u.sch.length<=1000000/\u.host.length<=1000000/\u.port<=65535/\u.path.length<=10000000/\u.query.length<=10000000
theorem Xch:X8t U0:=⟨by decide,by decide,by decide,by decide,by decide⟩
theorem Xci (sch host:List UInt8) (port:Nat) (r:List UInt8) (h1:sch.length<=1000000) (h2:host.length<=1000000) (h3:port<=65535) (h4:r.length<=100000):X8t (X6s sch host port r).1:=by
 unfold X6s;split
 ·exact Xch
 ·rename_i p hp
  split
  ·exact Xch
  ·rename_i q hq
   have a1:=Xpc hp;have a2:=Xpc hq;have a3:=Xb8 [63] r;have a4:=X2l [63] r;have a5:=Xrz p;rw [Yg] at a2;refine ⟨h1,h2,h3,?_,by show q.length<=_; omega⟩;show (if p=[] then [47] else X9c p).length<=_
   split
   ·simp
   ·omega
theorem Xx1 {s sch:List UInt8} (hp:X1h s=true):X6q s sch<=65535:=by
 unfold X6q;split
 ·decide
 ·unfold X1h at hp;simp only [Yn,decide_eq_true_eq] at hp
  exact hp.2
theorem Xju (s:List UInt8):X8t (pU s).1:=by
 unfold pU;split
 ·exact Xch
 ·split
  ·exact Xch
  ·rename_i sch r hs
   split
   ·have hr:r.length<=2000/\sch.length<=5:=by
     unfold X1y at hs;split at hs
     ·injection hs with hs; injection hs with e1 e2; subst e1; subst e2; rw [Yg]; exact ⟨by omega,by decide⟩
     ·split at hs
      ·injection hs with hs; injection hs with e1 e2; subst e1; subst e2; rw [Yg]; exact ⟨by omega,by decide⟩
      ·cases hs
    have hh:(X39 r).length<=1000000:=by unfold X39; rw [X2b]; have:=Xb8 [47,63,35,58] r; omega
    have a3:=X2l [47,63,35,58] r;unfold behind;split
    ·split
     ·rename_i hp
      refine Xci _ _ _ _ (by omega) hh (Xx1 hp) ?_
      have:=X2l [47,63,35] ((X6 [47,63,35,58] r).drop 1)
      rw [Yg] at this;omega
     ·exact Xch
    ·exact Xci _ _ _ _ (by omega) hh (by decide) (by omega)
   ·exact Xch
theorem Xb9 (a s:List UInt8):s.take (upto a s).length=upto a s:=by
 have h:=Y2d (l₁:=upto a s) (l₂:=X6 a s);rw [X1l] at h; exact h
theorem X78 (a s:List UInt8):s.drop (upto a s).length=X6 a s:=by
 have h:=Y45 (l₁:=upto a s) (l₂:=X6 a s);rw [X1l] at h; exact h
theorem X12 (a s:List UInt8):(upto a s).length+(X6 a s).length=s.length:=by
 have:=congrArg List.length (X1l a s)
 rw [Y0] at this; omega
theorem Xje {s X:List UInt8} {n:Nat} (hX:X.length=n):(decide ((n:Int)<=(s.length:Int)) && (low (s.take n) == X))=true ↔ low (s.take n)=X:=by
 constructor
 ·intro h;simp only [Yn,beq_iff_eq] at h
  exact h.2
 ·intro h
  have:=congrArg List.length h
  rw [X2b,Yr,hX] at this;simp only [Yn,beq_iff_eq,decide_eq_true_eq]
  exact ⟨by omega,h⟩
theorem Xt8 {s:List UInt8} (h1:low (s.take 7)=[104,116,116,112,58,47,47]) (h2:low (s.take 8)=[104,116,116,112,115,58,47,47]):False:=by
 have:=congrArg (List.take 7) h2
 rw [<- Xjf,Y5e,show min 7 8=7 from rfl,h1] at this;simp at this
theorem Xfi (d:UInt8):(((((decide (((lo d).toNat:Int)<97) || decide (122<((lo d).toNat:Int))) && (decide (((lo d).toNat:Int)<48) || decide (57<((lo d).toNat:Int)))) && (((lo d).toNat:Int) != 45)) && (((lo d).toNat:Int) != 46)))=!Xdc (lo d) :=
 eq_of_beq (Xh (p:=fun d=>(((((decide (((lo d).toNat:Int)<97) || decide (122<((lo d).toNat:Int))) && (decide (((lo d).toNat:Int)<48) || decide (57<((lo d).toNat:Int)))) && (((lo d).toNat:Int) != 45)) && (((lo d).toNat:Int) != 46))) == !Xdc (lo d)) (by decide +kernel) d)
theorem Xnk (s:List UInt8) (i:Nat) (h:i<s.length):at_ (low s) (i:Int)=lo (at_ s (i:Int)):=by
 rw [at_,at_,Yf,low,Y8,Yu,Xy h,Y8,Xy h];rfl
theorem Xkw {c:UInt8} (h:X7w c=true):48<=c.toNat/\c.toNat<=57:=by
 simp only [X7w,Yn,decide_eq_true_eq,Y1o] at h
 have e1:(48:UInt8).toNat=48:=rfl;have e2:(57:UInt8).toNat=57:=rfl;rw [e1,e2] at h; exact h
end Ul
namespace Tk
open Pc Gk Ul
def pre:Nat->List UInt8
 | 1=>[84,71,84]
 | 2=>[83,84]
 | 3=>[80,84]
 | 4=>[80,71,84]
 | 5=>[80,71,84,73,79,85]
 | 6=>[76,84]
 | _=>[]
def hx (c:UInt8):Option Nat:=if 48<=c && c<=57 then some (c.toNat - 48) else if 97<=c && c<=102 then some (c.toNat - 87) else none
def hxS (n:Nat):List UInt8->Option Nat
 | []=>some n
 | c::r=>match hx c with
  | some d=>hxS (16*n+d) r
  | none=>none
def X41 (s:List UInt8):Option Nat:=if s.length=16 then hxS 0 s else none
def X3b (p:List UInt8):Nat:=if p=pre 1 then 1 else if p=pre 2 then 2 else if p=pre 3 then 3 else if p=pre 4 then 4 else if p=pre 5 then 5 else if p=pre 6 then 6 else 0
def Xt (s:List UInt8):Option (Nat×Nat) :=
 if X3b (upto [45] s)=0 then none else (X41 ((X6 [45] s).drop 1)).map fun d=>(X3b (upto [45] s),d)
theorem hx_lt {c:UInt8} {d:Nat} (h:hx c=some d):d<16:=by
 have:=Xh (p:=fun c=>match hx c with | some d=>decide (d<16) | none=>true) (by decide +kernel) c
 rw [h] at this;simpa using this
theorem Xu9:∀ (s:List UInt8) (n m k:Nat),n<16 ^ k->hxS n s=some m->m<16 ^ (k+s.length)
 | [],n,m,k,hn,h=>by
  simp only [hxS,Option.some.injEq] at h
  subst h; exact hn
 | c::r,n,m,k,hn,h=>by
  rw [hxS] at h;cases hc:hx c with
  | none=>rw [hc] at h; cases h
  | some d =>
   rw [hc] at h;have hd:=hx_lt hc
   have:=Xu9 r (16*n+d) m (k+1) (by rw [Y22]; omega) h
   rw [List.length_cons,show k+(r.length+1)=k+1+r.length by omega]; exact this
theorem Xw4 {s:List UInt8} {d:Nat} (h:X41 s=some d):d<18446744073709551616:=by
 unfold X41 at h;split at h
 ·rename_i hl
  have:=Xu9 s 0 d 0 (by decide) h
  rw [hl] at this;exact this
 ·cases h
def Xky:Nat->Nat->List UInt8
 | 0,_=>[]
 | k+1,n=>Xky k (n / 16) ++ [if n % 16<10 then UInt8.ofNat (48+n % 16) else UInt8.ofNat (87+n % 16)]
theorem Xd6:∀ (k n:Nat),(Xky k n).length=k
 | 0,_=>rfl
 | k+1,n=>by rw [Xky,Y0,Xd6 k]; rfl
theorem Xhd:∀ (s t:List UInt8) (n:Nat),hxS n (s ++ t)=(hxS n s).bind fun m=>hxS m t
 | [],_,_=>rfl
 | c::r,t,n=>by
  rw [Ys,hxS,hxS];cases hx c with
  | none=>rfl
  | some d=>exact Xhd r t _
theorem Xtj {k:Nat}:∀ c∈pre k,c≠45:=by
 intro c hc e;subst e
 match k,hc with
 | 0,h=>simp [pre] at h
 | 1,h=>simp [pre] at h
 | 2,h=>simp [pre] at h
 | 3,h=>simp [pre] at h
 | 4,h=>simp [pre] at h
 | 5,h=>simp [pre] at h
 | 6,h=>simp [pre] at h
 | k+7,h=>simp [pre] at h
theorem Xrw {p r:List UInt8} (h:∀ c∈p,c≠45):upto [45] (p ++ 45::r)=p/\X6 [45] (p ++ 45::r)=45::r:=by
 induction p with
 | nil=>simp [upto,X6]
 | cons c p ih =>
  have h1:c≠45:=h c (by simp);obtain ⟨h2,h3⟩:=ih (fun x hx=>h x (by simp [hx]));simp only [upto,X6] at h2 h3 ⊢
  rw [Ys,Y2j,Y34]
  have:(!([45]:List UInt8).contains c)=true:=by simp [h1]
  rw [if_pos this,if_pos this];exact ⟨congrArg (c::·) h2,h3⟩
theorem Xsp {k:Nat} (h1:1<=k) (h2:k<=6):X3b (pre k)=k:=by
 have:=(by decide:∀ k:Fin 7,1<=k.val->X3b (pre k.val)=k.val) ⟨k,by omega⟩ h1
 exact this
theorem Xor (p:List UInt8):X3b p<=6:=by
 unfold X3b
 by_cases h1:p=pre 1
 ·rw [if_pos h1]; decide
 by_cases h2:p=pre 2
 ·rw [if_neg h1,if_pos h2]; decide
 by_cases h3:p=pre 3
 ·rw [if_neg h1,if_neg h2,if_pos h3]; decide
 by_cases h4:p=pre 4
 ·rw [if_neg h1,if_neg h2,if_neg h3,if_pos h4]; decide
 by_cases h5:p=pre 5
 ·rw [if_neg h1,if_neg h2,if_neg h3,if_neg h4,if_pos h5]; decide
 by_cases h6:p=pre 6
 ·rw [if_neg h1,if_neg h2,if_neg h3,if_neg h4,if_neg h5,if_pos h6]; decide
 ·rw [if_neg h1,if_neg h2,if_neg h3,if_neg h4,if_neg h5,if_neg h6]; decide
theorem Xhi {p:List UInt8} (h:X3b p≠0):p=pre (X3b p):=by
 unfold X3b at h ⊢
 by_cases h1:p=pre 1
 ·rw [if_pos h1]; exact h1
 by_cases h2:p=pre 2
 ·rw [if_neg h1,if_pos h2]; exact h2
 by_cases h3:p=pre 3
 ·rw [if_neg h1,if_neg h2,if_pos h3]; exact h3
 by_cases h4:p=pre 4
 ·rw [if_neg h1,if_neg h2,if_neg h3,if_pos h4]; exact h4
 by_cases h5:p=pre 5
 ·rw [if_neg h1,if_neg h2,if_neg h3,if_neg h4,if_pos h5]; exact h5
 by_cases h6:p=pre 6
 ·rw [if_neg h1,if_neg h2,if_neg h3,if_neg h4,if_neg h5,if_pos h6]; exact h6
 ·rw [if_neg h1,if_neg h2,if_neg h3,if_neg h4,if_neg h5,if_neg h6] at h; exact absurd rfl h
theorem X35 {s:List UInt8} {k d:Nat} (h:Xt s=some (k,d)):1<=k/\k<=6/\d<18446744073709551616/\s.length<=23/\s≠[]:=by
 unfold Xt at h;split at h
 ·cases h
 ·rename_i hk
  obtain ⟨x,hx,e⟩:=Y1f.1 h;simp only [Prod.mk.injEq] at e
  obtain ⟨rfl,rfl⟩:=e;have hl:=Xor (upto [45] s);refine ⟨by omega,hl,Xw4 hx,?_,fun e=>by subst e; exact hk rfl⟩;unfold X41 at hx;split at hx
  ·rename_i h16
   have h3:=X12 [45] s;have h4:(upto [45] s).length<=6:=by
    rw [Xhi hk]
    have:=(by decide:∀ k:Fin 7,(pre k.val).length<=6) ⟨X3b (upto [45] s),by omega⟩
    exact this
   rw [Yg] at h16;omega
  ·cases hx
end Tk
namespace Tr
open Tk
structure Rec where
 kind:Int
 name:List UInt8
 parent:List UInt8
 user:List UInt8
 service:List UInt8
 url:List UInt8
 made:Int
 used:Int
 uses:Int
 fresh:Bool
 deriving DecidableEq
def r0:Rec:=⟨0,[],[],[],[],[],0,0,0,false⟩
def X73 (kind of:Int):Bool:=(kind == 1 && of == 0) || (kind == 6 && of == 0) || (kind == 2 && of == 1) || (kind == 3 && of == 4) || (kind == 4 && of == 2) || (kind == 4 && of == 3) || (kind == 5 && of == 4)
def X3n (kind:Int) (name:List UInt8):Bool:=if name=[] then X73 kind 0 else match Xt name with
 | some (of,_)=>X73 kind (of:Nat)
 | none=>false
def isT (s:List UInt8) (kind:Int):Bool:=match Xt s with
 | some (k,_)=>((k:Nat):Int) == kind
 | none=>false
def Xw (r:Rec):Bool :=
 (decide ((r.user.length:Int)<=32) && decide ((r.service.length:Int)<=100) && decide ((r.url.length:Int)<=100)) && (decide (0<=r.made) && decide (r.made<=r.used) && decide (r.used<=1099511627776) && decide (0<=r.uses) && decide (r.uses<=255)) && isT r.name r.kind && X3n r.kind r.parent
def atN (name:List UInt8):List Rec->Nat->Int
 | [],_=>-1
 | r::l,i=>if r.name=name then (i:Int) else atN name l (i+1)
def at0 (l:List Rec) (name:List UInt8):Int:=atN name l 0
theorem Xiq (name:List UInt8):∀ (l:List Rec) (i:Nat),(atN name l i=-1/\∀ r∈l,r.name≠name)\/∃ (j:Nat) (r:Rec),atN name l i=((i+j:Nat):Int)/\l[j]?=some r/\r.name=name/\∀ (q:Nat) (t:Rec),q<j->l[q]?=some t->t.name≠name
 | [],_=>.inl ⟨rfl,fun r h=>by simp at h⟩
 | a::l,i=>by
  rw [atN]
  by_cases h:a.name=name
  ·rw [if_pos h];exact .inr ⟨0,a,rfl,rfl,h,fun q t hq=>absurd hq (by omega)⟩
  ·rw [if_neg h];rcases Xiq name l (i+1) with ⟨h1,h2⟩ | ⟨j,r,h1,h2,h3,h4⟩
   ·refine .inl ⟨h1,fun r hr=>?_⟩;rcases Y17.1 hr with e | e
    ·subst e; exact h
    ·exact h2 r e
   ·refine .inr ⟨j+1,r,by rw [h1]; congr 1; omega,h2,h3,fun q t hq ht=>?_⟩;cases q with
    | zero=>simp at ht; subst ht; exact h
    | succ q=>exact h4 q t (by omega) (by simpa using ht)
theorem X3p (l:List Rec) (name:List UInt8):(at0 l name=-1/\∀ r∈l,r.name≠name)\/∃ (j:Nat) (r:Rec),at0 l name=(j:Int)/\l[j]?=some r/\r.name=name/\∀ (q:Nat) (t:Rec),q<j->l[q]?=some t->t.name≠name:=by
 rcases Xiq name l 0 with h | ⟨j,r,h1,h2⟩
 ·exact .inl h
 ·exact .inr ⟨j,r,by rw [at0,h1,Yc],h2⟩
theorem Xnl (l:List Rec) (name:List UInt8):at0 l name<l.length:=by
 rcases X3p l name with ⟨h,_⟩ | ⟨j,r,h,hr,_⟩
 ·rw [h]; omega
 ·have:=(Y5.1 hr).1
  rw [h]; omega
theorem at_ge (l:List Rec) (name:List UInt8):-1<=at0 l name:=by
 rcases X3p l name with ⟨h,_⟩ | ⟨j,r,h,_⟩ <;> rw [h] <;> omega
def get (l:List Rec) (name:List UInt8):Option Rec:=l.find? fun r=>decide (r.name=name)
theorem get_at (l:List Rec) (name:List UInt8):(at0 l name=-1/\get l name=none)\/∃ (j:Nat) (r:Rec),at0 l name=(j:Int)/\l[j]?=some r/\r.name=name/\get l name=some r:=by
 rcases X3p l name with ⟨h1,h2⟩ | ⟨j,r,h1,h2,h3,h4⟩
 ·refine .inl ⟨h1,?_⟩;unfold get;rw [Y57];intro r hr;simpa using h2 r hr
 ·refine .inr ⟨j,r,h1,h2,h3,?_⟩;unfold get
  have:∀ (l:List Rec) (j:Nat),l[j]?=some r->(∀ (q:Nat) (t:Rec),q<j->l[q]?=some t->t.name≠name)->l.find? (fun r=>decide (r.name=name))=some r:=by
   intro l
   induction l with
   | nil=>intro j h; simp at h
   | cons a l ih =>
    intro j h hno;rw [Y2v];cases j with
    | zero=>simp at h; subst h; rw [decide_eq_true h3]
    | succ j =>
     rw [decide_eq_false (hno 0 a (by omega) rfl)];exact ih j (by simpa using h) (fun q t hq ht=>hno (q+1) t (by omega) (by simpa using ht))
  exact this l j h2 h4
def X6z (room:Int) (l:List Rec) (r:Rec):Nat:=if Xw r=false then 1 else if 0<=at0 l r.name then 7 else if r.parent≠[]/\at0 l r.parent<0 then 6 else if room<=l.length then 5 else 0
def add (room:Int) (l:List Rec) (r:Rec):List Rec:=if X6z room l r=0 then l ++ [r] else l
def putE (l:List Rec) (r:Rec):Nat:=if Xw r=false then 1 else match get l r.name with
 | none=>6
 | some t=>if t.parent≠r.parent then 8 else 0
def put (l:List Rec) (r:Rec):List Rec:=if putE l r=0 then l.set (at0 l r.name).toNat r else l
structure Wf (l:List Rec):Prop where
 right:∀ r∈l,Xw r=true
 one:∀ (i j:Nat) (r s:Rec),l[i]?=some r->l[j]?=some s->r.name=s.name->i=j
 up:∀ (i:Nat) (r:Rec),l[i]?=some r->(r.parent=[]\/0<=at0 l r.parent)/\at0 l r.parent<i
theorem Wf.nil:Wf []:=⟨fun r h=>by simp at h,fun i j r s h=>by simp at h,fun i r h=>by simp at h⟩
theorem Wf.at_ {l:List Rec} (h:Wf l) {i:Nat} {r:Rec} (hr:l[i]?=some r):at0 l r.name=(i:Int):=by
 rcases X3p l r.name with ⟨_,h2⟩ | ⟨j,t,h1,h2,h3,_⟩
 ·exact absurd rfl (h2 r (Yl hr))
 ·rw [h1,h.one j i t r h2 hr h3]
theorem X8n {r:Rec} (h:Xw r=true):r.name≠[]:=by
 intro e;unfold Xw at h;simp only [Yn] at h
 have h1:=h.1.2;unfold isT at h1;rw [e] at h1;cases hp:Xt [] with
 | none=>rw [hp] at h1; cases h1
 | some x=>exact (X35 (k:=x.1) (d:=x.2) hp).2.2.2.2 rfl
theorem Xnh (name:List UInt8):∀ (l m:List Rec) (i:Nat),atN name (l ++ m) i=if atN name l i=-1 then atN name m (i+l.length) else atN name l i
 | [],m,i=>by simp [atN]
 | a::l,m,i=>by
  rw [Ys,atN,atN];split
  ·rw [if_neg (by omega)]
  ·rw [Xnh name l m (i+1),List.length_cons,show i+1+l.length=i+(l.length+1) by omega]
theorem Xvu (l:List Rec) (r:Rec) (name:List UInt8):at0 (l ++ [r]) name=if at0 l name=-1 then (if r.name=name then (l.length:Int) else -1) else at0 l name:=by
 unfold at0;rw [Xnh];simp [atN]
theorem X9j {l:List Rec} {r:Rec} {i:Nat} {t:Rec} (h:(l ++ [r])[i]?=some t):l[i]?=some t\/(i=l.length/\t=r):=by
 rcases Yp i l.length with h1 | h1
 ·rw [Yi h1] at h; exact .inl h
 ·rw [Yt h1] at h;have h2:=(Y5.1 h).1;simp at h2
  have h3:i=l.length:=by omega
  subst h3;simp at h
  exact .inr ⟨rfl,h.symm⟩
theorem Xu3 {room:Int} {l:List Rec} {r:Rec} (h:X6z room l r=0):Xw r=true/\at0 l r.name=-1/\(r.parent=[]\/0<=at0 l r.parent)/\(l.length:Int)<room:=by
 unfold X6z at h;split at h
 ·cases h
 ·rename_i h1
  split at h
  ·cases h
  ·rename_i h2
   split at h
   ·cases h
   ·rename_i h3
    split at h
    ·cases h
    ·refine ⟨by simpa using h1,by have:=at_ge l r.name; omega,?_,by omega⟩
     by_cases e:r.parent=[]
     ·exact .inl e
     ·refine .inr ?_
      have:¬ at0 l r.parent<0:=fun h4=>h3 ⟨e,h4⟩
      omega
theorem Wf.snoc {l:List Rec} (h:Wf l) {r:Rec} (hr:Xw r=true) (hm1:at0 l r.name=-1) (hp:r.parent=[]\/0<=at0 l r.parent):Wf (l ++ [r]):=by
 have hno:∀ t∈l,t.name≠r.name:=by
  rcases X3p l r.name with ⟨_,h4⟩ | ⟨j,t,h4,_⟩
  ·exact h4
  ·rw [h4] at hm1; omega
 have hnil:∀ l:List Rec,(∀ r∈l,Xw r=true)->at0 l []=-1:=fun l hl=>by
  rcases X3p l [] with ⟨h4,_⟩ | ⟨j,t,_,ht,he,_⟩
  ·exact h4
  ·exact absurd he (X8n (hl t (Yl ht)))
 refine ⟨fun t ht=>?_,fun i j s t hi hj he=>?_,fun i t hi=>?_⟩
 ·rcases Y12.1 ht with e | e
  ·exact h.right t e
  ·simp at e; subst e; exact hr
 ·rcases X9j hi with hi1 | ⟨hi1,hi2⟩
  ·rcases X9j hj with hj1 | ⟨hj1,hj2⟩
   ·exact h.one i j s t hi1 hj1 he
   ·rw [hj2] at he; exact absurd he (hno s (Yl hi1))
  ·rcases X9j hj with hj1 | ⟨hj1,hj2⟩
   ·rw [hi2] at he; exact absurd he.symm (hno t (Yl hj1))
   ·omega
 ·have key:∀ (t:Rec),(t.parent=[]\/0<=at0 l t.parent)->at0 (l ++ [r]) t.parent=at0 l t.parent:=fun t ht=>by
   rw [Xvu];rcases ht with e | e
   ·rw [e,hnil l h.right,if_pos rfl,if_neg (X8n hr)]
   ·rw [if_neg (by omega)]
  rcases X9j hi with hi1 | ⟨hi1,hi2⟩
  ·obtain ⟨h1,h2⟩:=h.up i t hi1;rw [key t h1]; exact ⟨h1,h2⟩
  ·subst hi1; subst hi2;rw [key t hp]; exact ⟨hp,Xnl l t.parent⟩
theorem Wf.add {l:List Rec} (h:Wf l) {room:Int} {r:Rec}:Wf (add room l r):=by
 unfold Tr.add;split
 ·rename_i he
  obtain ⟨h1,h2,h3,_⟩:=Xu3 he;exact h.snoc h1 h2 h3
 ·exact h
theorem Xni (name:List UInt8) {r:Rec}:∀ (l:List Rec) (k i:Nat) (t:Rec),l[k]?=some t->t.name=r.name->atN name (l.set k r) i=atN name l i
 | [],k,i,t,h,_=>by simp at h
 | a::l,0,i,t,h,he=>by
  simp at h; subst h
  rw [Y58,atN,atN,he]
 | a::l,k+1,i,t,h,he=>by
  rw [Y4c,atN,atN,Xni name l k (i+1) t (by simpa using h) he]
theorem put_ok {l:List Rec} {r:Rec} (h:putE l r=0):Xw r=true/\∃ (j:Nat) (t:Rec),at0 l r.name=(j:Int)/\l[j]?=some t/\t.name=r.name/\t.parent=r.parent/\get l r.name=some t:=by
 unfold putE at h;split at h
 ·cases h
 ·rename_i h1
  refine ⟨by simpa using h1,?_⟩;rcases get_at l r.name with ⟨_,h2⟩ | ⟨j,t,h2,h3,h4,h5⟩
  ·rw [h2] at h; cases h
  ·rw [h5] at h;simp only at h
   split at h
   ·cases h
   ·rename_i h6
    exact ⟨j,t,h2,h3,h4,by simpa using h6,h5⟩
theorem Wf.set {l:List Rec} (h:Wf l) {j:Nat} {t r:Rec} (ht:l[j]?=some t) (hn:t.name=r.name) (hp:t.parent=r.parent) (hr:Xw r=true):Wf (l.set j r):=by
 have hj:=(Y5.1 ht).1;have e:∀ name,at0 (l.set j r) name=at0 l name:=fun name=>Xni name l j 0 t ht hn
 have g:∀ (i:Nat) (s:Rec),(l.set j r)[i]?=some s->∃ u,l[i]?=some u/\u.name=s.name/\u.parent=s.parent:=fun i s hs=>by
  rw [Y23] at hs;split at hs
  ·rename_i hij
   subst hij;cases hs
   exact ⟨t,ht,hn,hp⟩
  ·exact ⟨s,hs,rfl,rfl⟩
 refine ⟨fun s hs=>?_,fun i k s u hi hk he=>?_,fun i s hi=>?_⟩
 ·rcases List.mem_or_eq_of_mem_set hs with h1 | h1
  ·exact h.right s h1
  ·subst h1; exact hr
 ·obtain ⟨s',h1,h2,_⟩:=g i s hi;obtain ⟨u',h3,h4,_⟩:=g k u hk;exact h.one i k s' u' h1 h3 (by rw [h2,h4,he])
 ·obtain ⟨s',h1,_,h2⟩:=g i s hi;rw [e,<- h2];exact h.up i s' h1
theorem Wf.put {l:List Rec} (h:Wf l) {r:Rec}:Wf (put l r):=by
 unfold Tr.put;split
 ·rename_i he
  obtain ⟨h1,j,t,h2,h3,h4,h5,_⟩:=put_ok he;rw [h2,Yf];exact h.set h3 h4 h5 h1
 ·exact h
def pathF (l:List Rec):Nat->Int->List Rec
 | 0,_=>[]
 | f+1,i=>if i<0 then [] else match l[i.toNat]? with
  | some r=>r::pathF l f (at0 l r.parent)
  | none=>[]
def pathI (l:List Rec) (i:Int):List Rec:=pathF l (i.toNat+1) i
def path (l:List Rec) (name:List UInt8):List Rec:=pathI l (at0 l name)
def Xlc (l:List Rec) (name:List UInt8):List Rec:=l.filter fun r=>decide (name≠[]) && decide (r.parent=name)
def kids (l:List Rec) (name:List UInt8):List (List UInt8):=(Xlc l name).map Rec.name
def Xo (l:List Rec):Nat->List UInt8->List (List UInt8)
 | 0,_=>[]
 | f+1,name=>name::(kids l name).flatMap (Xo l f)
def below (l:List Rec) (name:List UInt8):List (List UInt8):=if 0<=at0 l name then Xo l l.length name else []
def drop (l:List Rec) (name:List UInt8):List Rec:=l.filter fun r=>!(below l name).contains r.name
def Xx {α:Type} (pr:α->Bool):List α->Nat->Int
 | [],_=>-1
 | s::r,i=>if pr s then (i:Int) else Xx pr r (i+1)
theorem X6o {α:Type} (pr:α->Bool):∀ (n:Nat) (r:List α) (i:Nat),(∀ (j:Nat) s,j<n->r[j]?=some s->pr s=false)->Xx pr r i=Xx pr (r.drop n) (i+min n r.length)
 | 0,r,i,_=>by simp
 | n+1,[],i,_=>by simp [Xx]
 | n+1,s::r,i,h=>by
  rw [Xx,if_neg (by rw [h 0 s (by omega) rfl]; decide),X6o pr n r (i+1) (fun j t hj ht=>h (j+1) t (by omega) (by simpa using ht)),Y7,List.length_cons]
  congr 1
  omega
theorem X2k {α:Type} {pr:α->Bool} {l:List α} {i:Nat} {s:α} (h:∀ (j:Nat) t,j<i->l[j]?=some t->pr t=false) (hs:l[i]?=some s) (hp:pr s=true):Xx pr l 0=(i:Int):=by
 have hi:=(Y5.1 hs).1;rw [X6o pr i l 0 h,Yc,Y2h (by omega),Y13 hi,(Y5.1 hs).2,Xx,if_pos hp]
theorem X21 {α:Type} {pr:α->Bool} {l:List α} (h:∀ (j:Nat) t,l[j]?=some t->pr t=false):Xx pr l 0=-1:=by
 rw [X6o pr l.length l 0 (fun j t _ ht=>h j t ht),Y2x];rfl
theorem X24 {α:Type} (pr:α->Bool):∀ (l:List α) (i:Nat),decide (0<=Xx pr l i)=l.any pr
 | [],i=>rfl
 | s::r,i=>by
  rw [Xx,Y5w];split
  ·rename_i h
   rw [h,Bool.true_or,decide_eq_true_eq]; omega
  ·rename_i h
   rw [Y4i.2 h,Y3m,X24 pr r (i+1)]
theorem X9i (name:List UInt8):∀ (l:List Rec) (i:Nat),Xx (fun r=>decide (r.name=name)) l i=atN name l i
 | [],i=>rfl
 | s::r,i=>by
  rw [Xx,atN,X9i name r (i+1)];simp only [decide_eq_true_eq]
def getD (l:List Rec) (name:List UInt8):Rec:=(get l name).getD r0
end Tr
section
open Go Go.Proofs Gk
abbrev Cz (f : FuncId) (l : List Value) (w : World) (Q : Value -> World -> Prop) : Prop := Calls Tryz.prog f l.toArray w (Ret Q)
theorem Cz.mono {f : FuncId} {l : List Value} {w : World} {Q : Value -> World -> Prop} {R : Ending -> World -> Prop} (h : Cz f l w Q) (k : ∀ e w', Ret Q e w' -> R e w') : Calls Tryz.prog f l.toArray w R := Calls.mono h k
end
section
open Go.Proofs
abbrev Qf111:=@Tryz.func111
abbrev Xqq:=@Tryz.func118
abbrev Xqr:=@Tryz.func119
abbrev Xk7:=@Tryz.func127
abbrev Xmm:=@Tryz.func141
abbrev Xk8:=@Tryz.func144
abbrev Xmn:=@Tryz.func145
abbrev Xgl:=@Tryz.func148
abbrev Qf15:=@Tryz.func15
abbrev Qf155:=@Tryz.func155
abbrev Xmo:=@Tryz.func163
abbrev Xqs:=@Tryz.func169
abbrev Qf17:=@Tryz.func17
abbrev Xqt:=@Tryz.func173
abbrev Xk9:=@Tryz.func178
abbrev Xqu:=@Tryz.func179
abbrev Xqv:=@Tryz.func180
abbrev Xka:=@Tryz.func185
abbrev Qf187:=@Tryz.func187
abbrev Qf191:=@Tryz.func191
abbrev Xmp:=@Tryz.func193
abbrev Qf202:=@Tryz.func202
abbrev X80:=@Tryz.func208
abbrev Xqw:=@Tryz.func211
abbrev Xkb:=@Tryz.func222
abbrev Qf229:=@Tryz.func229
abbrev Qf233:=@Tryz.func233
abbrev Xmq:=@Tryz.func249
abbrev Xmr:=@Tryz.func250
abbrev Qf260:=@Tryz.func260
abbrev Qf263:=@Tryz.func263
abbrev Qf264:=@Tryz.func264
abbrev Qf265:=@Tryz.func265
abbrev Qf279:=@Tryz.func279
abbrev Xqx:=@Tryz.func287
abbrev Qf55:=@Tryz.func55
abbrev Qf66:=@Tryz.func66
abbrev Qf67:=@Tryz.func67
abbrev Qf83:=@Tryz.func83
abbrev Qf87:=@Tryz.func87
abbrev Qf88:=@Tryz.func88
abbrev Qf99:=@Tryz.func99
abbrev Qg0:=@Tryz.isAgg0
abbrev X61:=@Tryz.isAgg105
abbrev X3i:=@Tryz.isAgg109
abbrev Xek:=@Tryz.isAgg121
abbrev Xgm:=@Tryz.isAgg122
abbrev X6x:=@Tryz.isAgg123
abbrev Xkc:=@Tryz.isAgg124
abbrev X32:=@Tryz.isAgg126
abbrev Xkd:=@Tryz.isAgg136
abbrev Xqy:=@Tryz.isAgg176
abbrev Xqz:=@Tryz.isAgg183
abbrev Xel:=@Tryz.isAgg188
abbrev Qg21:=@Tryz.isAgg21
abbrev X2s:=@Tryz.isAgg213
abbrev Qg22:=@Tryz.isAgg22
abbrev Xm5:=@Tryz.isAgg27
abbrev X81:=@Tryz.isAgg272
abbrev Xgn:=@Tryz.isAgg273
abbrev Qg29:=@Tryz.isAgg29
abbrev Qg3:=@Tryz.isAgg3
abbrev Xms:=@Tryz.isAgg308
abbrev Qg38:=@Tryz.isAgg38
abbrev Qg4:=@Tryz.isAgg4
abbrev Xio:=@Tryz.isAgg45
abbrev Qg5:=@Tryz.isAgg5
abbrev Xcv:=@Tryz.isAgg65
abbrev Xbn:=@Tryz.isAgg75
abbrev Xu1:=@Tryz.isAgg76
abbrev Xm6:=@Tryz.isAgg87
abbrev Qg9:=@Tryz.isAgg9
abbrev Qg96:=@Tryz.isAgg96
abbrev Xmt:=@Tryz.results104
abbrev Xmu:=@Tryz.results114
abbrev Xgo:=@Tryz.results121
abbrev Xuz:=@Tryz.results122
abbrev Xv0:=@Tryz.results123
abbrev Xv1:=@Tryz.results126
abbrev Qr13:=@Tryz.results13
abbrev Xbo:=@Tryz.results137
abbrev Xem:=@Tryz.results141
abbrev Xv2:=@Tryz.results146
abbrev Xr0:=@Tryz.results147
abbrev Xv3:=@Tryz.results149
abbrev Xgp:=@Tryz.results160
abbrev Xv4:=@Tryz.results164
abbrev Xv5:=@Tryz.results172
abbrev Xgq:=@Tryz.results173
abbrev Xen:=@Tryz.results174
abbrev Xeo:=@Tryz.results175
abbrev Xv6:=@Tryz.results182
abbrev Xv7:=@Tryz.results188
abbrev Xr1:=@Tryz.results193
abbrev Xv8:=@Tryz.results196
abbrev Xr2:=@Tryz.results209
abbrev Xv9:=@Tryz.results217
abbrev Xr3:=@Tryz.results218
abbrev Xva:=@Tryz.results219
abbrev Xvb:=@Tryz.results220
abbrev Xvc:=@Tryz.results222
abbrev Xmv:=@Tryz.results223
abbrev Xr4:=@Tryz.results233
abbrev Xr5:=@Tryz.results250
abbrev Xvd:=@Tryz.results256
abbrev Qr32:=@Tryz.results32
abbrev Qr33:=@Tryz.results33
abbrev Qr35:=@Tryz.results35
abbrev Qr48:=@Tryz.results48
abbrev Qr59:=@Tryz.results59
abbrev Qr6:=@Tryz.results6
abbrev Xve:=@Tryz.results70
abbrev Qr74:=@Tryz.results74
abbrev Qr78:=@Tryz.results78
abbrev Qr79:=@Tryz.results79
abbrev Xvf:=@Tryz.results84
abbrev Qr86:=@Tryz.results86
abbrev Qr99:=@Tryz.results99
abbrev Qs0:=@Tryz.sizeOf0
abbrev X10:=@Tryz.sizeOf105
abbrev X1c:=@Tryz.sizeOf109
abbrev Xbp:=@Tryz.sizeOf121
abbrev Xgr:=@Tryz.sizeOf122
abbrev X4u:=@Tryz.sizeOf123
abbrev Xep:=@Tryz.sizeOf124
abbrev X11:=@Tryz.sizeOf126
abbrev X2i:=@Tryz.sizeOf136
abbrev Xke:=@Tryz.sizeOf176
abbrev X62:=@Tryz.sizeOf183
abbrev Xmw:=@Tryz.sizeOf184
abbrev X3v:=@Tryz.sizeOf188
abbrev Qs21:=@Tryz.sizeOf21
abbrev X14:=@Tryz.sizeOf213
abbrev Qs22:=@Tryz.sizeOf22
abbrev Xr6:=@Tryz.sizeOf24
abbrev Qs26:=@Tryz.sizeOf26
abbrev Xgf:=@Tryz.sizeOf27
abbrev X6e:=@Tryz.sizeOf272
abbrev X4z:=@Tryz.sizeOf273
abbrev X9u:=@Tryz.sizeOf288
abbrev Xu2:=@Tryz.sizeOf29
abbrev Qs3:=@Tryz.sizeOf3
abbrev Xmx:=@Tryz.sizeOf308
abbrev Xmy:=@Tryz.sizeOf38
abbrev Qs4:=@Tryz.sizeOf4
abbrev X4e:=@Tryz.sizeOf45
abbrev Qs5:=@Tryz.sizeOf5
abbrev X6f:=@Tryz.sizeOf65
abbrev X29:=@Tryz.sizeOf75
abbrev Qs76:=@Tryz.sizeOf76
abbrev Xkf:=@Tryz.sizeOf87
abbrev Qs9:=@Tryz.sizeOf9
abbrev Qs96:=@Tryz.sizeOf96
abbrev Qu0:=@Tryz.underlying0
abbrev X36:=@Tryz.underlying101
abbrev X2d:=@Tryz.underlying105
abbrev Xf:=@Tryz.underlying109
abbrev X82:=@Tryz.underlying113
abbrev X2x:=@Tryz.underlying121
abbrev X6g:=@Tryz.underlying122
abbrev X2e:=@Tryz.underlying123
abbrev X83:=@Tryz.underlying124
abbrev X37:=@Tryz.underlying126
abbrev Xvg:=@Tryz.underlying132
abbrev X3j:=@Tryz.underlying136
abbrev X9v:=@Tryz.underlying155
abbrev X4f:=@Tryz.underlying171
abbrev Xkg:=@Tryz.underlying176
abbrev X9w:=@Tryz.underlying178
abbrev X2t:=@Tryz.underlying183
abbrev X9a:=@Tryz.underlying184
abbrev X63:=@Tryz.underlying185
abbrev Xr7:=@Tryz.underlying188
abbrev Xmz:=@Tryz.underlying192
abbrev Xvh:=@Tryz.underlying196
abbrev Qu20:=@Tryz.underlying20
abbrev Xvi:=@Tryz.underlying21
abbrev X26:=@Tryz.underlying213
abbrev X9b:=@Tryz.underlying22
abbrev Xvj:=@Tryz.underlying228
abbrev Xgs:=@Tryz.underlying23
abbrev Xqd:=@Tryz.underlying24
abbrev Xn0:=@Tryz.underlying254
abbrev Xn1:=@Tryz.underlying258
abbrev Xqe:=@Tryz.underlying26
abbrev Qu27:=@Tryz.underlying27
abbrev X84:=@Tryz.underlying272
abbrev X2a:=@Tryz.underlying273
abbrev X1z:=@Tryz.underlying275
abbrev Xgt:=@Tryz.underlying278
abbrev X6h:=@Tryz.underlying288
abbrev Xe5:=@Tryz.underlying29
abbrev Qu3:=@Tryz.underlying3
abbrev Xvk:=@Tryz.underlying302
abbrev Xr8:=@Tryz.underlying307
abbrev Xn2:=@Tryz.underlying308
abbrev Xr9:=@Tryz.underlying332
abbrev Xvl:=@Tryz.underlying334
abbrev X64:=@Tryz.underlying38
abbrev Qu4:=@Tryz.underlying4
abbrev X8s:=@Tryz.underlying45
abbrev Qu5:=@Tryz.underlying5
abbrev Xn3:=@Tryz.underlying62
abbrev X2y:=@Tryz.underlying65
abbrev Qu67:=@Tryz.underlying67
abbrev Qu70:=@Tryz.underlying70
abbrev X27:=@Tryz.underlying75
abbrev Xn4:=@Tryz.underlying81
abbrev X1u:=@Tryz.underlying87
abbrev Qu9:=@Tryz.underlying9
abbrev Xe6:=@Tryz.underlying95
abbrev Xn5:=@Tryz.underlying99
abbrev Qz0:=@Tryz.zeroValue0
abbrev Xbq:=@Tryz.zeroValue105
abbrev Xra:=@Tryz.zeroValue109
abbrev Xvm:=@Tryz.zeroValue121
abbrev Xgu:=@Tryz.zeroValue122
abbrev X6i:=@Tryz.zeroValue126
abbrev Xbr:=@Tryz.zeroValue136
abbrev Xrb:=@Tryz.zeroValue178
abbrev Xvn:=@Tryz.zeroValue183
abbrev Xkh:=@Tryz.zeroValue188
abbrev Qz20:=@Tryz.zeroValue20
abbrev Qz21:=@Tryz.zeroValue21
abbrev Xgv:=@Tryz.zeroValue213
abbrev Qz27:=@Tryz.zeroValue27
abbrev Xrc:=@Tryz.zeroValue288
abbrev Qz3:=@Tryz.zeroValue3
abbrev Xn6:=@Tryz.zeroValue308
abbrev Xvo:=@Tryz.zeroValue334
abbrev Qz4:=@Tryz.zeroValue4
abbrev Xgw:=@Tryz.zeroValue45
abbrev Qz5:=@Tryz.zeroValue5
abbrev Xcw:=@Tryz.zeroValue75
abbrev Qz87:=@Tryz.zeroValue87
abbrev Qz9:=@Tryz.zeroValue9
end
namespace Go.Proofs.YtbciobiiejpdgaaGreatDoor
open Gk Pc
theorem X90 (c:UInt8) (w:World) :
  Cz 277 [U8 c.toNat] w fun v w'=>v=I64 (X3l c)/\w=w':=by
 obtain ⟨w0,hw0⟩:∃ w0,w=w0:=⟨_,rfl⟩
 rw [show (fun (v:Value) (w':World)=>v=I64 (X3l c)/\w=w')=(fun v w'=>v=I64 (X3l c)/\w0=w') by rw [hw0]];refine calls Tryz.func277 rfl Tryz.ntmps277 rfl (.seq (.q 1 rfl (.seq (.q 1 rfl (.seq (.q 1 rfl (.seq (.seq (.q 1 rfl (.block (.loop (σ:=Nat) (fun i=>[(0,U8 c.toNat),(3,S LOW),(4,S HIGH),(5,I64 (i:Nat))]) (fun i w=>i<=16/\(∀ j,j<i->LOW.getD j 0≠c/\HIGH.getD j 0≠c)/\w=w0) (fun i=>16 - i) 0 ⟨rfl,rfl,rfl,rfl,trivial⟩ ⟨by decide,fun _ h=>absurd h (by omega),hw0⟩ ?_)))))))))));rintro i w ⟨hi,hno,hw⟩;have hLW:LOW.length=16:=rfl;have hHI:HIGH.length=16:=rfl;refine .seq (.seq (.q 2 rfl ?_));refine .cond rfl (fun hb7=>?_) fun hb7=>?_
 ·have hc7:=hb7; simp only [Y6] at hc7;refine .skip (.seq (.block (.seq (.t 2 rfl (.val (.index8 (l:=LOW) (i:=(i:Int)) (.of rfl) (.of rfl) (by omega) (by omega) Qu9) rfl (.q 3 rfl (.gm rfl rfl rfl rfl (.gm rfl rfl rfl rfl (.gval rfl rfl (fun hg1=>.index8 (l:=HIGH) (i:=(i:Int)) (.gd hg1 rfl) (.gd hg1 rfl) (by omega) (by omega) Qu9) rfl (.gm rfl rfl rfl rfl (.gval rfl rfl (fun hg1=>(.eql (.gd hg1 rfl) (.gd hg1 rfl))) rfl (.val (.po rfl rfl rfl) rfl (.nil ?_)))))))))))));refine .cond rfl (fun hb21=>?_) fun hb21=>?_
  ·have hc21:=hb21; simp only [Y6] at hc21;refine .seq (.q 2 rfl (.ret (Xc Tryz.results277 rfl ?_)));refine ⟨_,rfl,?_,hw.symm⟩;rw [Xwf (c:=c) (i:=i) (by omega)];simp only [Y1j,beq_iff_eq,at_,Yf] at hb21
   rcases hb21 with h | h
   ·exact .inl (Y18.1 (by omega))
   ·exact .inr (Y18.1 (by omega))
  have hc21:=hb21; simp only [Y6] at hc21;refine .skip (.region (.run 3 rfl ⟨⟨by omega,by omega⟩,trivial⟩ (.nil ?_)));refine ⟨i+1,⟨rfl,rfl,rfl,rfl,trivial⟩,⟨by omega,fun j hj=>?_,hw⟩,by omega⟩;rcases Yp j i with h1 | h1
  ·exact hno j h1
  ·have e:j=i:=by omega
   subst e;simp only [Y10,beq_eq_false_iff_ne,at_,Yf] at hb21
   exact ⟨fun e=>hb21.1 (by rw [e]),fun e=>hb21.2 (by rw [e])⟩
 have hc7:=hb7; simp only [Y6] at hc7;refine .exit (.seq (.q 1 rfl (.ret (Xc Tryz.results277 rfl ?_))));exact ⟨_,rfl,by rw [Xsi (fun j hj=>hno j (by omega))],hw.symm⟩
theorem Xg0 (c:UInt8) (w:World) :
  Cz 257 [U8 c.toNat] w fun v w'=>v=.bool (plain c)/\w=w':=by
 obtain ⟨w0,hw0⟩:∃ w0,w=w0:=⟨_,rfl⟩
 rw [show (fun (v:Value) (w':World)=>v=.bool (plain c)/\w=w')=(fun v w'=>v=.bool (plain c)/\w0=w') by rw [hw0]];refine calls Tryz.func257 rfl Tryz.ntmps257 rfl (.seq (.q 1 rfl (.seq (.q 1 rfl (.seq (.seq (.q 1 rfl (.block (.loop (σ:=Nat) (fun i=>[(0,U8 c.toNat),(3,S PLAINS),(4,I64 (i:Nat))]) (fun i w=>i<=66/\(∀ j,j<i->PLAINS.getD j 0≠c)/\w=w0) (fun i=>66 - i) 0 ⟨rfl,rfl,rfl,trivial⟩ ⟨by decide,fun _ h=>absurd h (by omega),hw0⟩ ?_)))))))));rintro i w ⟨hi,hno,hw⟩;have hPL:PLAINS.length=66:=rfl;refine .seq (.seq (.t 2 rfl (.val (.len (l:=PLAINS) (.of rfl) Qu9) rfl (.q 1 rfl (.nil ?_)))));refine .cond rfl (fun hb8=>?_) fun hb8=>?_
 ·have hc8:=hb8; simp only [Y6] at hc8;refine .skip (.seq (.block (.seq (.t 2 rfl (.val (.index8 (l:=PLAINS) (i:=(i:Int)) (.of rfl) (.of rfl) (by omega) (by omega) Qu9) rfl (.q 2 rfl (.nil ?_)))))));refine .cond rfl (fun hb15=>?_) fun hb15=>?_
  ·have hc15:=hb15; simp only [Y6] at hc15;refine .seq (.q 1 rfl (.ret (Xc Tryz.results257 rfl ?_)));refine ⟨_,rfl,?_,hw.symm⟩;rw [show plain c=true by
    rw [Xfp,Y2k];simp only [beq_iff_eq,at_,Yf] at hb15
    have e:PLAINS.getD i 0=c:=Y18.1 (by omega);have hm:c∈PLAINS:=by
     rw [<- e,Y8,Y4 (by omega)];exact Y36 _
    exact hm]
  have hc15:=hb15; simp only [Y6] at hc15;refine .skip (.region (.run 3 rfl ⟨⟨by omega,by omega⟩,trivial⟩ (.nil ?_)));refine ⟨i+1,⟨rfl,rfl,rfl,trivial⟩,⟨by omega,fun j hj=>?_,hw⟩,by omega⟩;rcases Yp j i with h1 | h1
  ·exact hno j h1
  ·have e:j=i:=by omega
   subst e;simp only [beq_eq_false_iff_ne,at_,Yf] at hb15
   exact fun e=>hb15 (by rw [e])
 have hc8:=hb8; simp only [Y6] at hc8;refine .exit (.seq (.q 1 rfl (.ret (Xc Tryz.results257 rfl ?_))));refine ⟨_,rfl,?_,hw.symm⟩;rw [show plain c=false by
  rw [Xfp,<- Y2q,Y2k];intro hm;obtain ⟨j,hj,e⟩:=Y4s.1 (show c∈PLAINS from hm);refine hno j (by omega) ?_;rw [Y8,Y4 hj,<- e]; rfl]
theorem Xbv (c:UInt8) (B w:World) (I:Im) (As:List X7) (hS:Sat B w I As) :
  Cz 258 [U8 c.toNat] w fun v w'=>v=S (Xjn c)/\Sat B w' I As:=by
 refine calls Tryz.func258 rfl Tryz.ntmps258 rfl (.seq (.q 1 rfl (.seq (.q 1 rfl (.seq ?_)))));have hHI:HIGH.length=16:=rfl;have hc:=c.toNat_lt;refine .qt hS (.val (fun w hS=>(.mo rfl)) rfl (.val (fun w hS=>(.mo rfl)) rfl ?_));refine .val (fun w hS=>.quo (.of rfl) (.of rfl) (by omega) (by omega) (by rw [IntKind.wrap_u8]; omega)) rfl (.val (fun w hS=>(.mo rfl)) rfl (.val (fun w hS=>.quo (.of rfl) (.of rfl) (by omega) (by omega) (by rw [IntKind.wrap_u8]; omega)) rfl (.val (fun w hS=>.addx (.of rfl) (.of rfl) (by rw [IntKind.wrap_u8]; omega)) rfl (.val (fun w hS=>.sub3k (l:=HIGH) (.of rfl) (.of rfl) (.of rfl) (by omega) (by omega) (by omega) Qu9) rfl (.val (fun w hS=>.cat (l:=[37]) (.of rfl) (.of rfl) (by simp only [Y0,Yr,Yg,List.length_cons,List.length_nil]; omega)) rfl (.val (fun w hS=>(.mo rfl)) rfl (.val (fun w hS=>(.mo rfl)) rfl (.val (fun w hS=>(.rem (.of rfl) (.of rfl) (by omega) (by omega))) rfl (.val (fun w hS=>(.mo rfl)) rfl (.val (fun w hS=>(.rem (.of rfl) (.of rfl) (by omega) (by omega))) rfl ?_))))))))));refine .val (fun w hS=>.addx (.of rfl) (.of rfl) (by rw [IntKind.wrap_u8]; omega)) rfl (.val (fun w hS=>.sub3k (l:=HIGH) (.of rfl) (.of rfl) (.of rfl) (by omega) (by omega) (by omega) Qu9) rfl (.val (fun w hS=>.cat (.of rfl) (.of rfl) (by simp only [Y0,Yr,Yg,List.length_cons,List.length_nil]; omega)) rfl (.val (fun w hS=>(.ao rfl)) rfl (.nil ?_))));intro w hS;refine .ret (Xc Tryz.results258 rfl ?_);refine ⟨_,rfl,?_,hS⟩;rw [<- pct_of c];have e1:((c.toNat:Int) / 16).toNat=c.toNat / 16:=by omega
 have e2:((c.toNat:Int) % 16).toNat=c.toNat % 16:=by omega
 have e3:((c.toNat:Int) / 16+1).toNat - c.toNat / 16=1:=by omega
 have e4:((c.toNat:Int) % 16+1).toNat - c.toNat % 16=1:=by omega
 rw [e1,e2,e3,e4]
theorem Xi1 (s:List UInt8) (i:Int) (h0:0<=i) (h1:i<=9223372036854775800) (w:World) :
  Cz 256 [S s,I64 i] w fun v w'=>v=I64 (if (s.length:Int)<=i+2 then -1 else if X3l (at_ s (i+1))<0\/X3l (at_ s (i+2))<0 then -1 else 16*X3l (at_ s (i+1))+X3l (at_ s (i+2)))/\w=w':=by
 refine calls Tryz.func256 rfl Tryz.ntmps256 rfl (.seq (.q 1 rfl (.seq (.seq (.region (.run 5 rfl ⟨⟨by omega,by omega⟩,Qu9,trivial⟩ (.nil ?_)))))));refine .cond rfl (fun hb11=>?_) fun hb11=>?_
 ·have hc11:=hb11; simp only [Y6] at hc11;refine .seq (.q 1 rfl (.ret (Xc Xvd rfl ?_)));exact ⟨_,rfl,by rw [if_pos hc11],rfl⟩
 have hc11:=hb11; simp only [Y6] at hc11;refine .skip (.seq (.region (.run 4 rfl ⟨⟨by omega,by omega⟩,⟨⟨by omega,by omega⟩,Qu9⟩,trivial⟩ (.call Tryz.func277 rfl (ec9 rfl X0) rfl (X90 _ _) ?_))));rintro _ _ ⟨rfl,rfl⟩;refine .q 1 rfl (.nil (.seq (.region (.run 4 rfl ⟨⟨by omega,by omega⟩,⟨⟨by omega,by omega⟩,Qu9⟩,trivial⟩ (.call Tryz.func277 rfl (ec9 rfl X0) rfl (X90 _ _) ?_)))));rintro _ _ ⟨rfl,rfl⟩;refine .q 1 rfl (.nil (.seq (.seq (.t 3 rfl (.gm rfl rfl rfl rfl (.gval rfl rfl (fun hg1=>(.lss (.gd hg1 rfl) (.of rfl))) rfl (.val (.po rfl rfl rfl) rfl (.nil ?_))))))));refine .cond rfl (fun hb27=>?_) fun hb27=>?_
 ·have hc27:=hb27; simp only [Y6] at hc27;refine .seq (.q 1 rfl (.ret (Xc Xvd rfl ?_)));exact ⟨_,rfl,by rw [if_neg (by omega),if_pos hc27],rfl⟩
 have hc27:=hb27; simp only [Y6] at hc27;refine .skip (.seq ?_);have hr1:=X25 (at_ s (i+1));have hr2:=X25 (at_ s (i+2));refine .region (.run 5 rfl ⟨⟨by omega,by omega⟩,⟨by omega,by omega⟩,trivial⟩ (.nil (.ret (Xc Xvd rfl ?_))));exact ⟨_,rfl,by rw [if_neg (by omega),if_neg (by omega)],rfl⟩
theorem Xxl (s:List UInt8) (i:Nat):(if (s.length:Int)<=(i:Int)+2 then (-1:Int) else if X3l (at_ s ((i:Int)+1))<0\/X3l (at_ s ((i:Int)+2))<0 then -1 else 16*X3l (at_ s ((i:Int)+1))+X3l (at_ s ((i:Int)+2)))=match told (s.drop (i+1)) with | none=>-1 | some v=>(v.toNat:Int):=by
 by_cases h:s.length<=i+2
 ·rw [if_pos (by omega)]
  have:told (s.drop (i+1))=none:=by
   have hl:(s.drop (i+1)).length<=1:=by rw [Yg]; omega
   match s.drop (i+1),hl with
   | [],_=>rfl
   | [_],_=>rfl
  rw [this]
 ·rw [if_neg (by omega)];have e1:s.drop (i+1)=at_ s ((i:Int)+1)::at_ s ((i:Int)+2)::s.drop (i+3):=by
   rw [Xe s (show i+1<s.length by omega),Xe s (show i+1+1<s.length by omega)];rfl
  rw [e1];simp only [told]
  split
  ·rfl
  ·rename_i hn
   have hn1:=X25 (at_ s ((i:Int)+1));have hn2:=X25 (at_ s ((i:Int)+2));exact (X8w _ _ (by omega) (by omega)).symm
set_option maxHeartbeats 400000 in
theorem Xdm (s:List UInt8) (hl:s.length<=1000000) (B w:World) (I:Im) (As:List X7) (hS:Sat B w I As) :
  Cz 224 [S s] w fun v w'=>v=(match X4c s with | none=>.tuple #[S [],I64 11] | some t=>.tuple #[S t,I64 0])/\Sat B w' I As:=by
 refine calls Tryz.func224 rfl Tryz.ntmps224 rfl (.seq (.q 2 rfl (.seq (.q 1 rfl (.seq (.seq (.q 1 rfl (.block (.loop (σ:=List UInt8×Nat) (fun ⟨out,i⟩=>[(0,S s),(4,S out),(5,I64 (i:Nat))]) (fun ⟨out,i⟩ w=>i<=s.length/\out.length+(s.length - i)*3<=s.length*3/\X4c s=(X4c (s.drop i)).map (out ++ ·)/\Sat B w I As) (fun ⟨out,i⟩=>s.length - i) ([],0) ⟨rfl,rfl,rfl,trivial⟩ ⟨Yo _,by simp,by simp,hS⟩ ?_)))))))));rintro ⟨out,i⟩ w ⟨hi,hol,hno,hS⟩;refine .seq (.seq (.region (.run 4 rfl ⟨Qu9,trivial⟩ (.nil ?_))));refine .cond rfl (fun hb11=>?_) fun hb11=>?_
 ·have hc11:=hb11; try simp only [Y6] at hc11
  refine .skip (.seq (.block (.seq (.seq (.region (.run 4 rfl ⟨⟨⟨by omega,by omega⟩,Qu9⟩,trivial⟩ (.nil ?_)))))));refine .cond rfl (fun hb17=>?_) fun hb17=>?_
  ·have hc17:=hb17; try simp only [Y6] at hc17
   refine .seq (.region (.run 5 rfl ⟨⟨by omega,by omega⟩,trivial⟩ (.val (.sub3 (l:=s) (i:=(i:Int)) (j:=(i:Int)+1) (.of rfl) (.of rfl) (.of rfl) (by omega) (by omega) (by omega) Qu9) rfl ?_)));rw [show (s.drop (i:Int).toNat).take (((i:Int)+1).toNat - (i:Int).toNat)=[at_ s (i:Int)] by rw [Yf,show ((i:Int)+1).toNat - i=1 by omega,Xe s (by omega)]; rfl];refine .val (.cat (.of rfl) (.of rfl) (by simp only [List.length_cons,List.length_nil]; omega)) rfl (.q 1 rfl (.nil (.exit (.region (.run 3 rfl ⟨⟨by omega,by omega⟩,trivial⟩ (.nil ?_))))));have e37:at_ s (i:Int)≠37:=fun e=>by rw [e] at hb17; simp at hb17
   refine ⟨(out ++ [at_ s (i:Int)],i+1),⟨rfl,rfl,rfl,trivial⟩,⟨by (try dsimp only); omega,by (try dsimp only); rw [Y0]; simp only [List.length_cons,List.length_nil]; omega,?_,hS⟩,by (try dsimp only); omega⟩;rw [hno,Xe s (by omega),X1r,if_neg e37];cases X4c (s.drop (i+1)) <;> simp
  have hc17:=hb17; try simp only [Y6] at hc17
  refine .skip (.seq (.t 2 rfl (.call Tryz.func256 rfl (ec9 rfl (ec9 rfl X0)) rfl (Xi1 s (i:Int) (by omega) (by omega) _) ?_)));rintro _ _ ⟨rfl,rfl⟩;rw [Xxl];refine .q 1 rfl (.nil (.seq (.seq (.q 2 rfl ?_))));refine .cond rfl (fun hb29=>?_) fun hb29=>?_
  ·have hc29:=hb29; try simp only [Y6] at hc29
   refine .seq (.q 2 rfl (.ret (X1t Tryz.results224 rfl rfl ?_)));refine ⟨_,rfl,?_,hS⟩;have e37:at_ s (i:Int)=37:=Y18.1 (by simp only [bne_eq_false_iff_eq] at hb17; show (at_ s (i:Int)).toNat=37; omega);have ht:told (s.drop (i+1))=none:=by
    cases ht:told (s.drop (i+1)) with
    | none=>rfl
    | some v=>rw [ht] at hc29; simp at hc29; omega
   have:X4c s=none:=by rw [hno,Xe s (by omega),X1r,if_pos e37,ht]; rfl
   rw [this]
  have hc29:=hb29; try simp only [Y6] at hc29
  refine .skip (.seq ?_);have e37:at_ s (i:Int)=37:=Y18.1 (by simp only [bne_eq_false_iff_eq] at hb17; show (at_ s (i:Int)).toNat=37; omega);obtain ⟨v,hv⟩:∃ v,told (s.drop (i+1))=some v:=by
   cases ht:told (s.drop (i+1)) with
   | some v=>exact ⟨v,rfl⟩
   | none=>rw [ht] at hc29; simp at hc29
  rw [hv];try dsimp only
  have hvl:=X3o hv;rw [Yg] at hvl;have hv8:=v.toNat_lt;refine .t 1 rfl (.val (.cvi (.of rfl) Qu3 Qu5 (by rw [IntKind.wrap_u8]; omega)) rfl (.call Tryz.func257 rfl (ec9 rfl X0) rfl (Xg0 v _) ?_));rintro _ _ ⟨rfl,rfl⟩;refine .q 1 rfl (.nil (.seq (.seq (.q 1 rfl ?_))));refine .cond rfl (fun hb33=>?_) fun hb33=>?_
  ·have hc33:=hb33; try simp only [Y6] at hc33
   have hpl:plain v=true:=hb33;refine .t 2 rfl (.val (.cvi (.of rfl) Qu3 Qu5 (by rw [IntKind.wrap_u8]; omega)) rfl (.buildSlice (cs:=[_]) hS (pc9 rfl X4) X2x Qs5 Qz5 rfl rfl rfl rfl ?_));clear hS; intro b37 w hS;refine .val (.str1 (c:=v) (.of rfl) hS (k:=0) rfl rfl X2x Qu5 Qu9) rfl ?_;replace hS:=hS.drop (k:=0) rfl;refine .val (.cat (.of rfl) (.of rfl) (by simp only [List.length_cons,List.length_nil]; omega)) rfl (.q 1 rfl (.nil (.region (.run 3 rfl ⟨⟨by omega,by omega⟩,trivial⟩ (.nil (.region (.run 3 rfl ⟨⟨by omega,by omega⟩,trivial⟩ (.nil ?_))))))));refine ⟨(out ++ one v,i+3),⟨rfl,by rw [one,if_pos hpl]; rfl,rfl,trivial⟩,⟨by (try dsimp only); omega,by (try dsimp only); rw [Y0]; have:(one v).length<=3:=(by unfold one; split <;> simp [Xjn]); omega,?_,hS⟩,by (try dsimp only); omega⟩;rw [hno,Xe s (by omega),X1r,if_pos e37,hv];simp only [Y1i]
   cases X4c (s.drop (i+3)) <;> simp [Yd,Y3z]
  have hc33:=hb33; try simp only [Y6] at hc33
  have hpl:plain v=false:=hb33;refine .t 2 rfl (.val (.cvi (.of rfl) Qu3 Qu5 (by rw [IntKind.wrap_u8]; omega)) rfl (.call Tryz.func258 rfl (ec9 rfl X0) rfl (Xbv v B w I _ hS) ?_));clear hS;rintro _ w ⟨rfl,hS⟩;refine .val (.cat (.of rfl) (.of rfl) (by simp only [Xjn,List.length_cons,List.length_nil]; omega)) rfl (.q 1 rfl (.nil (.region (.run 3 rfl ⟨⟨by omega,by omega⟩,trivial⟩ (.nil (.region (.run 3 rfl ⟨⟨by omega,by omega⟩,trivial⟩ (.nil ?_))))))));refine ⟨(out ++ one v,i+3),⟨rfl,by rw [one,if_neg (by rw [hpl]; simp)]; rfl,rfl,trivial⟩,⟨by (try dsimp only); omega,by (try dsimp only); rw [Y0]; have:(one v).length<=3:=(by unfold one; split <;> simp [Xjn]); omega,?_,hS⟩,by (try dsimp only); omega⟩;rw [hno,Xe s (by omega),X1r,if_pos e37,hv];simp only [Y1i]
  cases X4c (s.drop (i+3)) <;> simp [Yd,Y3z]
 have hc11:=hb11; try simp only [Y6] at hc11
 refine .exit (.seq (.q 3 rfl (.ret (X1t Tryz.results224 rfl rfl ?_))));refine ⟨_,rfl,?_,hS⟩
 have:X4c s=some out:=by rw [hno,Y11 (by omega),X5w]; simp
 rw [this]
end Go.Proofs.YtbciobiiejpdgaaGreatDoor
namespace Go.Proofs.YtbciobiiejpdgaaGreatDoor
open Gk Pc
theorem Xol:Tryz.prog.info? 5=some Tryz.t5:=by kernel_rfl
theorem X6p:Tryz.prog.info? 178=some Tryz.t178:=by kernel_rfl
def DigAt (I:Im):Prop:=At I (ad 9 0) (bcs HIGH)
theorem DigAt.mono {I J:Im} (h:DigAt I) (hl:Le I J):DigAt J:=At.mono h hl
theorem Xpd (c:UInt8):((((((decide (97<=(c.toNat:Int)) && decide ((c.toNat:Int)<=122)) || (decide (65<=(c.toNat:Int)) && decide ((c.toNat:Int)<=90))) || (decide (48<=(c.toNat:Int)) && decide ((c.toNat:Int)<=57))) || ((c.toNat:Int) == 45)) || ((c.toNat:Int) == 46)) || ((c.toNat:Int) == 95) || ((c.toNat:Int) == 126))=plain c :=
 eq_of_beq (Xh (p:=fun c=>((((((decide (97<=(c.toNat:Int)) && decide ((c.toNat:Int)<=122)) || (decide (65<=(c.toNat:Int)) && decide ((c.toNat:Int)<=90))) || (decide (48<=(c.toNat:Int)) && decide ((c.toNat:Int)<=57))) || ((c.toNat:Int) == 45)) || ((c.toNat:Int) == 46)) || ((c.toNat:Int) == 95) || ((c.toNat:Int) == 126)) == plain c) (by decide +kernel) c)
theorem Xoh {n:Nat} (h:n<16):(bcs HIGH)[n]?=some (U8 (hexd n).toNat):=by
 have:∀ n:Fin 16,HIGH[n.val]?=some (hexd n.val):=by decide +kernel
 rw [Yu,this ⟨n,h⟩]; rfl
theorem shr4 (c:UInt8):((c.toNat:Int) / 2 ^ (4:Int).toNat)=((c.toNat / 16:Nat):Int):=by
 show (c.toNat:Int) / 16=_
 omega
theorem and15 (c:UInt8):bits .and .u8 (c.toNat:Int) 15=((c.toNat % 16:Nat):Int) :=
 eq_of_beq (Xh (p:=fun c=>bits .and .u8 (c.toNat:Int) 15 == ((c.toNat % 16:Nat):Int)) (by decide +kernel) c)
theorem Xej (c:UInt8) (w:World) :
  Cz 251 [U8 c.toNat] w fun v w'=>v=.bool (plain c)/\w=w':=by
 refine calls Tryz.func251 rfl Tryz.ntmps251 rfl (.seq (.q 1 rfl (.seq (.t 3 rfl (.gm rfl rfl rfl rfl (.gval rfl rfl (fun hg1=>(.leq (.gd hg1 rfl) (.of rfl))) rfl (.val (.pa rfl rfl rfl) rfl (.q 1 rfl (.gm rfl rfl rfl rfl (.gval rfl rfl (fun hg1=>(.geq (.gd hg1 rfl) (.of rfl))) rfl (.gval rfl rfl (fun hg1=>(.move (.gd hg1 rfl))) rfl (.gval2 rfl rfl rfl (fun hg1 hg2=>(.mo rfl)) rfl (.gval2 rfl rfl rfl (fun hg1 hg2=>(.leq (.gd2 hg1 hg2 rfl) (.of rfl))) rfl (.gval rfl rfl (fun hg1=>(.pand (.gd hg1 rfl) (.gd hg1 rfl) (.of rfl))) rfl (.val (.po rfl rfl rfl) rfl (.q 1 rfl (.gm rfl rfl rfl rfl (.gval rfl rfl (fun hg1=>(.geq (.gd hg1 rfl) (.of rfl))) rfl (.gval rfl rfl (fun hg1=>(.move (.gd hg1 rfl))) rfl (.gval2 rfl rfl rfl (fun hg1 hg2=>(.mo rfl)) rfl (.gval2 rfl rfl rfl (fun hg1 hg2=>(.leq (.gd2 hg1 hg2 rfl) (.of rfl))) rfl (.gval rfl rfl (fun hg1=>(.pand (.gd hg1 rfl) (.gd hg1 rfl) (.of rfl))) rfl (.val (.po rfl rfl rfl) rfl (.q 1 rfl (.gm rfl rfl rfl rfl (.gval rfl rfl (fun hg1=>(.eql (.gd hg1 rfl) (.of rfl))) rfl (.val (.po rfl rfl rfl) rfl (.q 1 rfl (.gm rfl rfl rfl rfl (.gval rfl rfl (fun hg1=>(.eql (.gd hg1 rfl) (.of rfl))) rfl (.val (.po rfl rfl rfl) rfl (.q 1 rfl (.gm rfl rfl rfl rfl (.gval rfl rfl (fun hg1=>(.eql (.gd hg1 rfl) (.of rfl))) rfl (.val (.po rfl rfl rfl) rfl (.q 1 rfl (.gm rfl rfl rfl rfl (.gval rfl rfl (fun hg1=>(.eql (.gd hg1 rfl) (.of rfl))) rfl (.val (.po rfl rfl rfl) rfl (.q 1 rfl (.nil (.ret (Xc Tryz.results251 rfl ?_)))))))))))))))))))))))))))))))))))))))))));exact ⟨_,rfl,congrArg Value.bool (Xpd c),rfl⟩
theorem Xhq (c:UInt8) (B w:World) (I:Im) (hd:DigAt I) (As:List X7) (hS:Sat B w I As) :
  Cz 275 [U8 c.toNat] w fun v w'=>v=S (Xjn c)/\Sat B w' I As:=by
 refine calls Tryz.func275 rfl Tryz.ntmps275 rfl (.seq (.q 1 rfl (.seq ?_)));have h16:c.toNat / 16<16:=by have:=c.toNat_lt; omega
 have h15:c.toNat % 16<16:=by omega
 refine .tail 8 (by kernel_rfl) (by kernel_rfl) ?_;replace hS:=hS.drew; generalize w.drew=w at hS ⊢;refine .vm rfl rfl (.val (.shr (.of rfl) (.of rfl) (by decide) (by decide)) rfl ?_);rw [shr4 c];refine .val (.arrAddrI (i:=((c.toNat / 16:Nat):Int)) (.of rfl) (.of rfl) (by omega) (by omega) Xr9 Qs5) rfl ?_;refine .val (.ldI (.of rfl) hS (hd.add _) Qg5 (by rw [Y1d,Y21,Y1n,Yf]; exact Xoh (n:=c.toNat / 16) h16)) rfl ?_;refine .vm rfl rfl (.val (.ibits (.inl rfl) (.of rfl) (.of rfl)) rfl ?_);rw [and15 c];refine .val (.arrAddrI (i:=((c.toNat % 16:Nat):Int)) (.of rfl) (.of rfl) (by omega) (by omega) Xr9 Qs5) rfl ?_;refine .val (.ldI (.of rfl) hS (hd.add _) Qg5 (by rw [Y1d,Y21,Y1n,Yf]; exact Xoh (n:=c.toNat % 16) h15)) rfl ?_;refine .nil ?_;show WL _ _ _ _ _ _ _
 refine .buildSlice (cs:=[_,_,_]) hS (pc9 rfl (pc9 rfl (pc9 rfl X4))) X2x Qs5 Qz5 rfl rfl rfl rfl ?_;intro b11 w hS;refine .val (.bytesStr (l:=Xjn c) (b:=b11) (o:=0) (cap:=3) (.of rfl) hS (k:=0) rfl X2x Qu5 Qu9 (fun j hj=>by
  have hj3:j<3:=hj
  match j,hj3 with
  | 0,_=>rfl
  | 1,_=>rfl
  | 2,_=>rfl)) rfl ?_
 refine .q 1 rfl (.nil (.ret (Xc Tryz.results275 rfl ?_)));exact ⟨_,rfl,rfl,hS.y 0 1⟩
def upB (c:UInt8):UInt8:=if 97<=c && c<=102 then c - 32 else c
theorem up_low {c:UInt8} (h:97<=c.toNat/\c.toNat<=102):(c.toNat:Int) - 32=((upB c).toNat:Int):=by
 have:=Xh (p:=fun c=>!(decide (97<=c.toNat/\c.toNat<=102)) || (c.toNat:Int) - 32 == ((upB c).toNat:Int)) (by decide +kernel) c
 simpa [h] using this
theorem up_not {c:UInt8} (h:¬ (97<=c.toNat/\c.toNat<=102)):upB c=c:=by
 have:=Xh (p:=fun c=>decide (97<=c.toNat/\c.toNat<=102) || upB c == c) (by decide +kernel) c
 simpa [h] using this
theorem up_hit {c:UInt8} {i:Nat} (h:i<16) (he:upB c=HIGH.getD i 0):X3l c=(i:Int):=by
 have:=Xh (p:=fun c=>(List.range 16).all fun i=>!(upB c == HIGH.getD i 0) || X3l c == (i:Int)) (by decide +kernel) c
 have:=Y1c.1 this i (Y48.2 h)
 simpa [he] using this
theorem Xxo {c:UInt8} (h:∀ i,i<16->HIGH.getD i 0≠upB c):X3l c=-1:=by
 have:=Xh (p:=fun c=>(List.range 16).any (fun i=>HIGH.getD i 0 == upB c) || X3l c == -1) (by decide +kernel) c
 simp only [Y1j,beq_iff_eq] at this
 rcases this with h1 | h1
 ·obtain ⟨i,hi,h2⟩:=Y35.1 h1;simp only [beq_iff_eq] at h2
  exact absurd h2 (h i (Y48.1 hi))
 ·exact h1
theorem Xf4 (c:UInt8) (B w:World) (I:Im) (hd:DigAt I) (As:List X7) (hS:Sat B w I As) :
  Cz 295 [U8 c.toNat] w fun v w'=>v=I64 (X3l c)/\Sat B w' I As:=by
 refine calls Tryz.func295 rfl Tryz.ntmps295 rfl (.seq (.q 1 rfl ?_));refine .cutS (σ:=UInt8) (fun u=>[(0,U8 u.toNat)]) (fun u w=>u=upB c/\Sat B w I As) ?_ ?_
 ·refine .seq (.t 3 rfl (.gm rfl rfl rfl rfl (.gval rfl rfl (fun hg1=>(.leq (.gd hg1 rfl) (.of rfl))) rfl (.val (.pa rfl rfl rfl) rfl (.nil ?_)))));refine .cond rfl (fun hb10=>?_) fun hb10=>?_
  ·refine .t 1 rfl ?_;refine .val (.subx (.of rfl) (.of rfl) (by rw [IntKind.wrap_u8]; simp only [Yn,decide_eq_true_eq] at hb10; omega)) rfl ?_;refine .q 1 rfl (.nil ?_);refine ⟨upB c,⟨?_,trivial⟩,rfl,hS⟩;have h97:97<=c.toNat/\c.toNat<=102:=by simp only [Yn,decide_eq_true_eq] at hb10; omega
   show some (Value.int .u8 ((c.toNat:Int) - 32))=some (U8 ((upB c).toNat:Int))
   rw [up_low h97]
  refine .skip (⟨upB c,⟨?_,trivial⟩,rfl,hS⟩);have h97:¬ (97<=c.toNat/\c.toNat<=102):=by simp only [Y2t,decide_eq_false_iff_not] at hb10; omega
  show some (U8 (c.toNat:Int))=some (U8 ((upB c).toNat:Int))
  rw [up_not h97]
 rintro u w ⟨hu,hS⟩;refine .seq (.seq (.region (.val (.ldsI (us:=bcs HIGH) (.of rfl) hS hd Tryz.isAgg332 Tryz.sizeOf332 rfl (fun _ _ h=>h)) rfl (.q 1 rfl (.nil (.block (.loop (σ:=Nat) (fun i=>[(0,U8 u.toNat),(13,.agg (bcs HIGH).toArray),(14,I64 (i:Nat))]) (fun i w=>i<=16/\(∀ j,j<i->HIGH.getD j 0≠u)/\Sat B w I As) (fun i=>16 - i) 0 ⟨rfl,rfl,rfl,trivial⟩ ⟨by decide,fun _ h=>absurd h (by omega),hS⟩ ?_)))))));rintro i w ⟨hi,hno,hS⟩;refine .seq (.q 1 rfl (.seq ?_));refine .cond rfl (fun hb15=>?_) fun hb15=>?_
 ·have hc15:=hb15; simp only [Y6] at hc15;refine .skip (.seq (.block (.seq (.t 1 rfl ?_))));refine .val (.indexArr (vs:=bcs HIGH) (v:=U8 (HIGH.getD i 0).toNat) (.of rfl) (.of rfl) (by omega) (by omega) Xr9 Qs5 Qg5 (by rw [Yu,Yf,Y8,Y4 (show i<HIGH.length by have:HIGH.length=16:=rfl; omega)]; rfl)) rfl ?_;refine .q 2 rfl (.nil (.seq (.q 3 rfl ?_)));refine .cond rfl (fun hb20=>?_) fun hb20=>?_
  ·have hc20:=hb20; simp only [Y6] at hc20;refine .seq (.q 2 rfl (.ret (Xc Tryz.results295 rfl ?_)));refine ⟨_,rfl,?_,hS⟩;simp only [beq_iff_eq] at hb20
   rw [hu] at hb20;rw [up_hit (c:=c) (i:=i) (by omega) (Y18.1 (by omega))]
  have hc20:=hb20; simp only [Y6] at hc20;refine .skip (.region (.run 2 rfl ⟨⟨by omega,by omega⟩,trivial⟩ (.nil ?_)));refine ⟨i+1,⟨rfl,rfl,rfl,trivial⟩,⟨by omega,fun j hj=>?_,hS⟩,by omega⟩;rcases Yp j i with h1 | h1
  ·exact hno j h1
  ·have e:j=i:=by omega
   subst e;simp only [beq_eq_false_iff_ne] at hb20
   exact fun e=>hb20 (by rw [e])
 have hc15:=hb15; simp only [Y6] at hc15;refine .exit (.seq (.q 1 rfl (.ret (Xc Tryz.results295 rfl ?_))));refine ⟨_,rfl,?_,hS⟩;rw [hu] at hno;rw [Xxo (c:=c) (fun j hj=>hno j (by omega))]
def tval (a b:Int):Int:=IntKind.u8.wrap (bits .or .i64 (IntKind.i64.wrap (a*2 ^ (4:Int).toNat)) (bits .and .i64 b 15))
theorem Xq3 (a b:UInt8) (ha:0<=X3l a) (hb:0<=X3l b):tval (X3l a) (X3l b)=((Pc.byteOf a b).toNat:Int):=by
 rw [X8w a b ha hb];have h1:=X25 a;have h2:=X25 b;have h:∀ x y:Fin 16,tval (x.val:Int) (y.val:Int)=16*(x.val:Int)+(y.val:Int):=by decide +kernel
 have:=h ⟨(X3l a).toNat,by omega⟩ ⟨(X3l b).toNat,by omega⟩
 simp only [Y4x ha,Y4x hb] at this
 exact this
theorem Xts (s:List UInt8) (i:Int) (h0:0<=i) (h1:i<=9223372036854775800) (B w:World) (I:Im) (hd:DigAt I) (As:List X7) (hS:Sat B w I As) :
  Cz 288 [S s,I64 i] w fun v w'=>v=(if (s.length:Int)<=i+2 then .tuple #[.int .u8 0,.bool false] else .tuple #[.int .u8 (tval (X3l (at_ s (i+1))) (X3l (at_ s (i+2)))),.bool (decide (0<=X3l (at_ s (i+1))) && decide (0<=X3l (at_ s (i+2))))])/\Sat B w' I As:=by
 refine calls Tryz.func288 rfl Tryz.ntmps288 rfl (.seq (.q 2 rfl (.seq (.seq (.region (.run 5 rfl ⟨⟨by omega,by omega⟩,Qu9,trivial⟩ (.nil ?_)))))));refine .cond rfl (fun hb12=>?_) fun hb12=>?_
 ·have hc12:=hb12; simp only [Y6] at hc12;refine .seq (.q 2 rfl (.ret (X1t Tryz.results288 rfl rfl ?_)));exact ⟨_,rfl,by rw [if_pos hc12],hS⟩
 have hc12:=hb12; simp only [Y6] at hc12;refine .skip (.seq (.qt hS (.val (fun w hS=>(.mo rfl)) rfl (.val (fun w hS=>(.mo rfl)) rfl (.val (fun w hS=>(.add (.of rfl) (.of rfl) ⟨by omega,by omega⟩)) rfl (.val (fun w hS=>(.index (.of rfl) (.of rfl) (by omega) (by omega) Qu9)) rfl (.call Tryz.func295 rfl (ec9 rfl X0) rfl (fun w hS=>Xf4 (at_ s (i+1)) B w I hd _ hS) (.val (fun w hS=>(.mo rfl)) rfl (.val (fun w hS=>(.mo rfl)) rfl (.val (fun w hS=>(.add (.of rfl) (.of rfl) ⟨by omega,by omega⟩)) rfl (.val (fun w hS=>(.index (.of rfl) (.of rfl) (by omega) (by omega) Qu9)) rfl (.call Tryz.func295 rfl (ec9 rfl X0) rfl (fun w hS=>Xf4 (at_ s (i+2)) B w I hd _ hS) (.val (fun w hS=>(.ao rfl)) rfl (.val (fun w hS=>(.ao rfl)) rfl (.nil ?_)))))))))))))));intro w hS;refine .seq (.t 1 rfl (.val (.shl (.of rfl) (.of rfl) (by decide) (by decide)) rfl (.q 1 rfl (.val (.ibits (.inl rfl) (.of rfl) (.of rfl)) rfl (.val (.ibits (.inr (.inl rfl)) (.of rfl) (.of rfl)) rfl (.val (.cvw (.of rfl) Qu3 Qu5) rfl (.q 3 rfl (.gm rfl rfl rfl rfl (.gval rfl rfl (fun hg1=>(.geq (.gd hg1 rfl) (.of rfl))) rfl (.val (.pa rfl rfl rfl) rfl (.q 2 rfl (.nil (.ret (X1t Tryz.results288 rfl rfl ?_))))))))))))));exact ⟨_,rfl,by rw [if_neg (by omega)]; rfl,hS⟩
theorem X9t (c:UInt8) (b:Bool) (B w:World) (I:Im) (hd:DigAt I) (As:List X7) (hS:Sat B w I As) :
  Cz 274 [U8 c.toNat,.bool b] w fun v w'=>v=S (if (b && !plain c)=true then Xjn c else [c])/\Sat B w' I As:=by
 refine calls Tryz.func274 rfl Tryz.ntmps274 rfl (.seq (.q 1 rfl (.seq (.seq (.t 2 rfl (.gm rfl rfl rfl rfl (.gcall (T:=fun w=>Sat B w I As) rfl rfl rfl Tryz.func251 rfl (fun hg1=>(Xd (.gd hg1 rfl) X0)) rfl (fun hg1=>X4m (Xej c w) hS) hS ?_)))))));rintro w hS;refine .gval rfl rfl (fun hg1=>(.not (.gd hg1 rfl))) rfl (.val (.pa rfl rfl rfl) rfl (.nil ?_));refine .cond rfl (fun hb10=>?_) fun hb10=>?_
 ·refine .seq (.t 1 rfl (.call Tryz.func275 rfl (ec9 rfl X0) rfl (Xhq c B w I hd _ hS) ?_));rintro _ w ⟨rfl,hS⟩;refine .q 1 rfl (.nil (.ret (Xc Tryz.results274 rfl ?_)));exact ⟨_,rfl,by rw [if_pos hb10],hS⟩
 refine .skip (.seq (.t 1 rfl (.buildSlice (cs:=[_]) hS (pc9 rfl X4) X2x Qs5 Qz5 rfl rfl rfl rfl ?_)));intro b14 w hS;refine .val (.str1 (c:=c) (.of rfl) hS (k:=0) rfl rfl X2x Qu5 Qu9) rfl (.q 1 rfl (.nil (.ret (Xc Tryz.results274 rfl ?_))));exact ⟨_,rfl,by rw [if_neg (by rw [hb10]; simp)],hS.y 0 1⟩
theorem Xd4 (bb:Nat) (p v:Value) (hp:p=.pointer none\/p=ptr bb 0) (B w:World) (I:Im) (F:List X7) (hS:Sat B w I (blk bb [p,v] 178::F)) :
  Calls Tryz.prog 202 [ptr bb 0].toArray w (Ret fun u w'=>u=.tuple #[]/\Sat B w' I (blk bb [ptr bb 0,v] 178::F)):=by
 rcases hp with rfl | rfl
 ·refine calls Qf202 rfl Tryz.ntmps202 rfl (.seq (.t 2 rfl (.val (.fo 0 rfl X9w rfl rfl Xke rfl) rfl (.val (.lo rfl hS (k:=0) rfl Xqy rfl) rfl (.val (.eqp (.of rfl) (.of rfl) Xkg) rfl (.nil (.condT (rfl) (.t 2 rfl (.val (.toUnsafe (.of rfl) hS (k:=0) rfl Xkg Xvk X6p (by decide) (by simp)) rfl (.val (.extern Tryz.func242 (by kernel_rfl) (by kernel_rfl) (by kernel_rfl) (e:=Extern.AbiNoEscape.same) (by kernel_rfl) (ec9 rfl X0) (Go.Lib.run_noEscape w _)) rfl (.val (.fromUnsafe (.of rfl) hS (k:=0) rfl Xvk Xkg X6p (by kernel_rfl)) rfl (.q 1 rfl (.val (.fo 0 rfl X9w rfl rfl Xke rfl) rfl (.s1 hS (k:=0) rfl rfl rfl rfl Xke (by simp) ?_))))))))))))));intro w hS;refine .nil (X9d Tryz.results202 ?_);exact ⟨_,rfl,rfl,hS⟩
 ·refine calls Qf202 rfl Tryz.ntmps202 rfl (.seq (.t 2 rfl (.val (.fo 0 rfl X9w rfl rfl Xke rfl) rfl (.val (.lo rfl hS (k:=0) rfl Xqy rfl) rfl (.val (.eqp (.of rfl) (.of rfl) Xkg) rfl (.nil (.condF (rfl) (.seq (.t 2 rfl (.val (.fo 0 rfl X9w rfl rfl Xke rfl) rfl (.val (.lo rfl hS (k:=0) rfl Xqy rfl) rfl (.q 1 rfl (.val (.nepSame (.of rfl) (.of rfl) Xkg X6p trivial) rfl (.nil (.condF (rfl) (.skip (X9d Tryz.results202 ?_)))))))))))))))));exact ⟨_,rfl,rfl,hS⟩
theorem Xv (bb:Nat) (p v:Value) (l s:List UInt8) (hp:p=.pointer none\/p=ptr bb 0) (B w:World) (I:Im) (F:List X7) (hS:Sat B w I (blk bb [p,v] 178::Vec 5 1 v l.length (bcs l)::F)) (hl:l.length+s.length<=140737488000000) :
  Calls Tryz.prog 155 [ptr bb 0,S s].toArray w (Ret fun u w'=>u=.tuple #[I64 s.length,.nilIface]/\∃ v',Sat B w' I (blk bb [ptr bb 0,v'] 178::Vec 5 1 v' (l ++ s).length (bcs (l ++ s))::F)):=by
 refine calls Qf155 rfl Tryz.ntmps155 rfl (.seq (.q 2 rfl (.seq (.t 1 rfl (.call Qf202 rfl (ec9 rfl X0) rfl (Xd4 bb p v hp B w I _ hS) ?_)))));rintro _ w ⟨rfl,hS⟩;refine .nil (.seq ?_);obtain ⟨va,vc,rfl,hvc,_⟩:=hS.vecSlice (k:=1) rfl;refine .t 3 rfl (.val (.fo 1 rfl X9w rfl rfl Xbp rfl) rfl (.val (.lo rfl hS (k:=0) rfl Xek rfl) rfl (.q 1 rfl (.appendStr hS (.of rfl) (.of rfl) (k:=1) rfl X2x Qu9 Xol rfl rfl rfl (by omega) rfl ?_))));intro v14 w hS; dsimp only [List.set] at hS;obtain ⟨a14,c14,rfl,hcap14,_⟩:=hS.vecSlice (k:=1) (v:=v14) rfl;refine .q 1 rfl (.val (.fo 1 rfl X9w rfl rfl Xbp rfl) rfl (.s1 hS (k:=0) rfl rfl rfl rfl Xbp (by simp) ?_));intro w hS;refine .nil (.seq (.region (.run 4 rfl ⟨Qu9,trivial⟩ (.nil (.ret (X1t Tryz.results155 rfl rfl ?_))))));exact ⟨_,rfl,rfl,_,by simpa using hS⟩
set_option maxRecDepth 8000 in
theorem X5n (bb:Nat) (p v:Value) (l:List UInt8) (hv:l=[]->v=.slice none 0 0) (B w:World) (I:Im) (F:List X7) (hS:Sat B w I (blk bb [p,v] 178::Vec 5 1 v l.length (bcs l)::F)) :
  Calls Tryz.prog 111 [ptr bb 0].toArray w (Ret fun u w'=>u=S l/\Sat B w' I F):=by
 by_cases h0:l=[]
 ·obtain rfl:=hv h0;subst h0;refine calls Qf111 rfl Tryz.ntmps111 rfl (.seq (.q 1 rfl (.seq (.tail 10 (by kernel_rfl) (by kernel_rfl) ?_))));replace hS:=hS.drew; generalize w.drew=w at hS ⊢;refine .vm rfl rfl (.val (.no rfl) rfl (.val (.fo 1 rfl X9w rfl rfl Xbp rfl) rfl (.val (.lo rfl hS (k:=0) rfl Xek rfl) rfl (.val (.sliceDataNil (.of rfl)) rfl (.vm rfl rfl (.val (.no rfl) rfl (.val (.fo 1 rfl X9w rfl rfl Xbp rfl) rfl (.val (.lo rfl hS (k:=0) rfl Xek rfl) rfl (.val (.lenSlice (.of rfl) X2x) rfl (.nil ?_))))))))));show WL _ _ _ _ _ _ _
  refine .val (.unsafeStringNone (.of rfl) (.of rfl)) rfl (.q 1 rfl (.nil (.ret (Xc Tryz.results111 rfl ?_))));exact ⟨_,rfl,rfl,hS.y 0 2⟩
 ·have h1:0<l.length:=Y20.2 h0;obtain ⟨vb,vc,r,rfl,hv1,hv2,hv3,hv4,hT⟩:=hS.vecOpen (k:=1) rfl h1;have hS:=hT; clear hT;have h63:l.length<=9223372036854775807:=by unfold maxLen at hv2; omega
  refine calls Qf111 rfl Tryz.ntmps111 rfl (.seq (.q 1 rfl (.seq (.tail 10 (by kernel_rfl) (by kernel_rfl) ?_))));replace hS:=hS.drew; generalize w.drew=w at hS ⊢;refine .vm rfl rfl (.val (.no rfl) rfl (.val (.fo 1 rfl X9w rfl rfl Xbp rfl) rfl (.val (.lo rfl hS (k:=0) rfl Xek rfl) rfl (.val (.sliceData (.of rfl) (by omega)) rfl (.vm rfl rfl (.val (.no rfl) rfl (.val (.fo 1 rfl X9w rfl rfl Xbp rfl) rfl (.val (.lo rfl hS (k:=0) rfl Xek rfl) rfl (.val (.lenSlice (.of rfl) X2x) rfl (.nil ?_))))))))));show WL _ _ _ _ _ _ _
  refine .unsafeString hS (k:=1) rfl (.of rfl) (.of rfl) h0 Xvj (by kernel_rfl) (by omega) rfl ?_;intro w hS;refine .q 1 rfl (.nil (.ret (Xc Tryz.results111 rfl ?_)));exact ⟨_,rfl,rfl,hS.y 0 1⟩
theorem Xmj (c:UInt8) (B w:World) (I:Im) (hd:DigAt I) (As:List X7) (hS:Sat B w I As):Calls Tryz.prog 274 [U8 c.toNat,.bool false].toArray w (Ret fun v w'=>v=S [c]/\Sat B w' I As) :=
 (X9t c false B w I hd As hS).mono fun e w' he=>by
  obtain ⟨v,rfl,rfl,h⟩:=he;exact ⟨_,rfl,by simp,h⟩
theorem Xmk (c:UInt8) (B w:World) (I:Im) (hd:DigAt I) (As:List X7) (hS:Sat B w I As):Calls Tryz.prog 274 [U8 c.toNat,.bool true].toArray w (Ret fun v w'=>v=S (one c)/\Sat B w' I As) :=
 (X9t c true B w I hd As hS).mono fun e w' he=>by
  obtain ⟨v,rfl,rfl,h⟩:=he;refine ⟨_,rfl,?_,h⟩;unfold one;cases plain c <;> rfl
theorem told_e (s:List UInt8) (i:Nat) (h1:i<=9223372036854775800) (B w:World) (I:Im) (hd:DigAt I) (As:List X7) (hS:Sat B w I As):Calls Tryz.prog 288 [S s,I64 (i:Nat)].toArray w (Ret fun v w'=>∃ tv ok,v=.tuple #[.int .u8 tv,.bool ok]/\(match Pc.told (s.drop (i+1)) with | none=>ok=false | some b=>ok=true/\tv=(b.toNat:Int))/\Sat B w' I As) :=
 (Xts s (i:Int) (by omega) (by omega) B w I hd As hS).mono fun e w' he=>by
  obtain ⟨v,rfl,rfl,h⟩:=he
  by_cases hl:s.length<=i+2
  ·have:Pc.told (s.drop (i+1))=none:=by
    have hl:(s.drop (i+1)).length<=1:=by rw [Yg]; omega
    match s.drop (i+1),hl with
    | [],_=>rfl
    | [_],_=>rfl
   rw [if_pos (by omega),this];exact ⟨_,rfl,0,false,rfl,rfl,h⟩
  ·have e1:s.drop (i+1)=at_ s ((i:Int)+1)::at_ s ((i:Int)+2)::s.drop (i+3):=by
    rw [Xe s (show i+1<s.length by omega),Xe s (show i+1+1<s.length by omega)];rfl
   rw [if_neg (by omega),e1];refine ⟨_,rfl,_,_,rfl,?_,h⟩;simp only [Pc.told]
   by_cases hn:X3l (at_ s ((i:Int)+1))<0\/X3l (at_ s ((i:Int)+2))<0
   ·rw [if_pos hn];simp only [Y2t,decide_eq_false_iff_not]
    omega
   ·rw [if_neg hn];refine ⟨?_,Xq3 _ _ (by omega) (by omega)⟩;simp only [Yn,decide_eq_true_eq]
    omega
set_option maxHeartbeats 400000 in
set_option maxRecDepth 4000 in
theorem Xs3 (s:List UInt8) (hl:s.length<=1000000) (B w:World) (I:Im) (hd:DigAt I) (As:List X7) (hS:Sat B w I As) :
  Cz 273 [S s,.func (.func 274) #[] #[]] w fun v w'=>v=(match X4c s with | none=>.tuple #[S [],I64 11] | some t=>.tuple #[S t,I64 0])/\Sat B w' I As:=by
 refine calls Tryz.func273 rfl Tryz.ntmps273 rfl (.seq (.q 2 rfl (.seq (.region (.allocA (cs:=[_,_]) hS Xrb rfl ?_)))));intro b6 w hS;refine .nil (.seq (.seq (.q 1 rfl (.block ?_))));replace hS:=(hS.vecNil 5 1).pick 1 rfl;refine .loop (σ:=List UInt8×Value×Value×Nat) (fun ⟨out,p,v,i⟩=>[(0,S s),(1,.func (.func 274) #[] #[]),(6,ptr b6 0),(7,I64 (i:Nat))]) (fun ⟨out,p,v,i⟩ w=>i<=s.length/\out.length+(s.length - i)*3<=s.length*3/\X4c s=(X4c (s.drop i)).map (out ++ ·)/\(p=.pointer none\/p=ptr b6 0)/\(out=[]->v=.slice none 0 0)/\Sat B w I (blk b6 [p,v] 178::Vec 5 1 v (out).length (bcs (out))::As)) (fun ⟨out,p,v,i⟩=>s.length - i) ([],.pointer none,.slice none 0 0,0) ⟨rfl,rfl,rfl,rfl,trivial⟩ ⟨Yo _,by simp,by simp,.inl rfl,fun _=>rfl,hS⟩ ?_;rintro ⟨out,p,v,i⟩ w ⟨hi,hol,hno,hp,hpv,hS⟩;refine .seq (.seq (.region (.run 4 rfl ⟨Qu9,trivial⟩ (.nil ?_))));refine .cond rfl (fun hb13=>?_) fun hb13=>?_
 ·have hc13:=hb13; simp only [Y6] at hc13;refine .skip (.seq (.block (.seq (.seq (.region (.run 4 rfl ⟨⟨⟨by omega,by omega⟩,Qu9⟩,trivial⟩ (.nil ?_)))))));refine .cond rfl (fun hb19=>?_) fun hb19=>?_
  ·have hc19:=hb19; simp only [Y6] at hc19;refine .seq (.region (.run 4 rfl ⟨⟨⟨by omega,by omega⟩,Qu9⟩,trivial⟩ (.vcall (cap:=[]) Tryz.func274 rfl (.of rfl) (ec9 rfl (ec9 rfl X0)) rfl (Xmj (at_ s (i:Int)) B w I hd _ hS) ?_)));rintro _ w ⟨rfl,hS⟩;refine .call Qf155 rfl (ec9 rfl (ec9 rfl X0)) rfl (Xv b6 p v out ([at_ s (i:Int)]) hp B w I _ hS (by simp only [List.length_cons,List.length_nil]; omega)) ?_;rintro _ w ⟨rfl,v2,hS⟩;refine .nil (.exit (.region (.run 3 rfl ⟨⟨by omega,by omega⟩,trivial⟩ (.nil ?_))));have e37:at_ s (i:Int)≠37:=fun e=>by rw [e] at hb19; simp at hb19
   refine ⟨(out ++ [at_ s (i:Int)],ptr b6 0,v2,i+1),⟨rfl,rfl,rfl,rfl,trivial⟩,⟨by (try dsimp only); omega,by (try dsimp only); rw [Y0]; simp only [List.length_cons,List.length_nil]; omega,?_,.inr rfl,fun h=>absurd h (by simp),hS⟩,by (try dsimp only); omega⟩;rw [hno,Xe s (by omega),X1r,if_neg e37];cases X4c (s.drop (i+1)) <;> simp
  have hc19:=hb19; simp only [Y6] at hc19;refine .skip (.seq (.t 2 rfl (.call Tryz.func288 rfl (ec9 rfl (ec9 rfl X0)) rfl (told_e s i (by omega) B w I hd _ hS) ?_)));rintro _ w ⟨tv,ok,rfl,htv,hS⟩;refine .q 5 rfl (.nil (.seq (.seq (.q 2 rfl ?_))));refine .cond rfl (fun hb33=>?_) fun hb33=>?_
  ·have hc33:=hb33; simp only [Y6] at hc33;refine .seq (.q 2 rfl (.ret (X1t Tryz.results273 rfl rfl ?_)));refine ⟨_,rfl,?_,hS.y 0 2⟩;have e37:at_ s (i:Int)=37:=Y18.1 (by simp only [bne_eq_false_iff_eq] at hb19; show (at_ s (i:Int)).toNat=37; omega);have ht:Pc.told (s.drop (i+1))=none:=by
    cases ht:Pc.told (s.drop (i+1)) with
    | none=>rfl
    | some v=>rw [ht] at htv; rw [htv.1] at hb33; simp at hb33
   have:X4c s=none:=by rw [hno,Xe s (by omega),X1r,if_pos e37,ht]; rfl
   rw [this]
  refine .skip (.seq ?_);have e37:at_ s (i:Int)=37:=Y18.1 (by simp only [bne_eq_false_iff_eq] at hb19; show (at_ s (i:Int)).toNat=37; omega);obtain ⟨vb,hv⟩:∃ v,Pc.told (s.drop (i+1))=some v:=by
   cases ht:Pc.told (s.drop (i+1)) with
   | some v=>exact ⟨v,rfl⟩
   | none=>rw [ht] at htv; simp only at htv; rw [htv] at hb33; simp at hb33
  rw [hv] at htv;obtain ⟨_,rfl⟩:=htv;have hvl:=X3o hv;rw [Yg] at hvl;have hone3:(one vb).length<=3:=by unfold one; split <;> simp [Xjn]
  have hone0:out ++ one vb≠[]:=fun e=>by
   have:=(Y4g.1 e).2
   unfold one at this; split at this <;> simp [Xjn] at this
  refine .t 2 rfl (.vcall (cap:=[]) Tryz.func274 rfl (.of rfl) (ec9 rfl (ec9 rfl X0)) rfl (Xmk vb B w I hd _ hS) ?_);rintro _ w ⟨rfl,hS⟩;refine .call Qf155 rfl (ec9 rfl (ec9 rfl X0)) rfl (Xv b6 p v out (one vb) hp B w I _ hS (by omega)) ?_;rintro _ w ⟨rfl,v2,hS⟩;refine .nil (.region (.run 3 rfl ⟨⟨by omega,by omega⟩,trivial⟩ (.nil (.region (.run 3 rfl ⟨⟨by omega,by omega⟩,trivial⟩ (.nil ?_))))));refine ⟨(out ++ one vb,ptr b6 0,v2,i+3),⟨rfl,rfl,rfl,rfl,trivial⟩,⟨by (try dsimp only); omega,by (try dsimp only); rw [Y0]; omega,?_,.inr rfl,fun h=>absurd h hone0,hS⟩,by (try dsimp only); omega⟩;rw [hno,Xe s (by omega),X1r,if_pos e37,hv];simp only [Y1i]
  cases X4c (s.drop (i+3)) <;> simp [Yd,Y3z]
 have hc13:=hb13; simp only [Y6] at hc13;refine .exit (.seq (.region (.call Qf111 rfl (ec9 rfl X0) rfl (X5n b6 p v out hpv B w I _ hS) ?_)));rintro _ w ⟨rfl,hS⟩;refine .q 2 rfl (.nil (.ret (X1t Tryz.results273 rfl rfl ?_)));refine ⟨_,rfl,?_,hS⟩
 have:X4c s=some out:=by rw [hno,Y11 (by omega),X5w]; simp
 rw [this]
theorem each_e (s:List UInt8) (hl:s.length<=1000000) (B w:World) (I:Im) (hd:DigAt I) (As:List X7) (hS:Sat B w I As):Calls Tryz.prog 273 [S s,.func (.func 274) #[] #[]].toArray w (Ret fun v w'=>∃ n1 n2,v=.tuple #[n1,n2]/\.tuple #[n1,n2]=(match X4c s with | none=>Value.tuple #[S [],I64 11] | some t=>.tuple #[S t,I64 0])/\Sat B w' I As) :=
 (Xs3 s hl B w I hd As hS).mono fun e w' he=>by
  obtain ⟨v,rfl,rfl,h⟩:=he;cases X4c s with
  | none=>exact ⟨_,rfl,_,_,rfl,rfl,h⟩
  | some t=>exact ⟨_,rfl,_,_,rfl,rfl,h⟩
theorem Xho (s:List UInt8) (hl:s.length<=1000000) (B w:World) (I:Im) (hd:DigAt I) (As:List X7) (hS:Sat B w I As) :
  Cz 254 [S s] w fun v w'=>v=(match X4c s with | none=>.tuple #[S [],I64 11] | some t=>.tuple #[S t,I64 0])/\Sat B w' I As:=by
 refine calls Tryz.func254 rfl Tryz.ntmps254 rfl (.seq (.q 2 rfl (.seq (.t 1 rfl (.call Tryz.func273 rfl (ec9 rfl (ec9 rfl X0)) rfl (each_e s hl B w I hd _ hS) ?_)))));rintro _ w ⟨n1,n2,rfl,hn,hS⟩;refine .q 4 rfl (.nil (.ret (X1t Tryz.results254 rfl rfl ?_)));exact ⟨_,rfl,hn,hS⟩
end Go.Proofs.YtbciobiiejpdgaaGreatDoor
namespace Go.Proofs
open Go.Shelf
def Tryz.lays119_ren:Go.Shelf.Ren:=⟨fun | 119=>263 | n=>n,fun | 21=>21 | 4=>4 | n=>n,fun | n=>n⟩
theorem Tryz.lays119:Go.Proofs.Lays.n119 Tryz.prog Tryz.lays119_ren:={
 mixed:=by kernel_rfl
 f119:=Qf263.trans (congrArg some (by kernel_rfl))
 t4:=Qu4
 a4:=Qg4
 z4:=Qs4
 v4:=Qz4
 t21:=Xvi
 a21:=Qg21
 z21:=Qs21
 v21:=Qz21 }
theorem Tryz.utf8_ValidRune (r:Int) (w:World) :
  Calls Tryz.prog 263 #[.int .i32 r] w fun e w'=>e=.returned (.bool (Lib.validRune r))/\w'=w:=Any.utf8_ValidRune Tryz.lays119 r w
def Tryz.lays137_ren:Go.Shelf.Ren:=⟨fun | 137=>229 | 217=>260 | 266=>279 | n=>n,fun | 9=>9 | 5=>5 | 3=>3 | n=>n,fun | n=>n⟩
theorem Tryz.lays137:Go.Proofs.Lays.n137 Tryz.prog Tryz.lays137_ren:={
 mixed:=by kernel_rfl
 f137:=Qf229.trans (congrArg some (by kernel_rfl))
 f217:=Qf260.trans (congrArg some (by kernel_rfl))
 f266:=Qf279.trans (congrArg some (by kernel_rfl))
 t3:=Qu3
 a3:=Qg3
 z3:=Qs3
 v3:=Qz3
 t5:=Qu5
 a5:=Qg5
 z5:=Qs5
 v5:=Qz5
 t9:=Qu9
 a9:=Qg9
 z9:=Qs9
 v9:=Qz9 }
open Go.RowKit in
theorem Tryz.strings_IndexByte (s:ByteArray) (c:Int) (w:World) :
  Calls Tryz.prog 229 #[.string s,.int .u8 c] w fun e w'=>e=.returned (.int .i64 (Lib.indexByte s.data.toList c.toNat.toUInt8))/\w'=w:=Any.strings_IndexByte Tryz.lays137 s c w
def Tryz.lays103_ren:Go.Shelf.Ren:=⟨fun | 103=>190 | 210=>232 | 206=>195 | n=>n,fun | 9=>9 | 4=>4 | 24=>57 | 3=>3 | n=>n,fun | n=>n⟩
theorem Tryz.lays103:Go.Proofs.Lays.n103 Tryz.prog Tryz.lays103_ren:={
 mixed:=by kernel_rfl
 f103:=Tryz.func190.trans (congrArg some (by kernel_rfl))
 f206:=Tryz.func195.trans (congrArg some (by kernel_rfl))
 f210:=Tryz.func232.trans (congrArg some (by kernel_rfl))
 t3:=Qu3
 a3:=Qg3
 z3:=Qs3
 v3:=Qz3
 t4:=Qu4
 a4:=Qg4
 z4:=Qs4
 v4:=Qz4
 t9:=Qu9
 a9:=Qg9
 z9:=Qs9
 v9:=Qz9
 t24:=Tryz.underlying57
 a24:=Tryz.isAgg57
 z24:=Tryz.sizeOf57
 v24:=Tryz.zeroValue57 }
open Go.RowKit in
theorem Tryz.strings_CutPrefix (s p:ByteArray) (w:World) :
  Calls Tryz.prog 190 #[.string s,.string p] w fun e w'=>e=.returned (.tuple #[.string ⟨(Lib.trimPrefix s.data.toList p.data.toList).toArray⟩,.bool (Lib.hasPrefix s.data.toList p.data.toList)])/\w'=w:=Any.strings_CutPrefix Tryz.lays103 s p w
def Tryz.laysM171_ren:Go.Shelf.Ren:=⟨fun | 171=>67 | 243=>112 | 246=>157 | 283=>204 | 284=>205 | 285=>206 | 286=>207 | 129=>245 | 317=>244 | 318=>246 | 319=>247 | 320=>248 | 337=>270 | 338=>271 | n=>n,fun | 3=>3 | 9=>9 | 2=>2 | 4=>4 | 171=>266 | 0=>0 | 53=>62 | 37=>121 | 5=>5 | 173=>269 | 212=>307 | 51=>308 | 20=>20 | 213=>309 | 46=>122 | 232=>328 | 233=>329 | n=>n,fun | 17=>5 | 18=>7 | 19=>8 | n=>n⟩
theorem Tryz.laysM171:Go.Proofs.LaysM.n171 Tryz.prog Tryz.laysM171_ren:={
 mixed:=by kernel_rfl
 f129:=Tryz.func245.trans (congrArg some (by kernel_rfl))
 f171:=Qf67.trans (congrArg some (by kernel_rfl))
 f243:=Tryz.func112.trans (congrArg some (by kernel_rfl))
 f246:=Tryz.func157.trans (congrArg some (by kernel_rfl))
 f283:=Tryz.func204.trans (congrArg some (by kernel_rfl))
 f284:=Tryz.func205.trans (congrArg some (by kernel_rfl))
 f285:=Tryz.func206.trans (congrArg some (by kernel_rfl))
 f286:=Tryz.func207.trans (congrArg some (by kernel_rfl))
 f317:=Tryz.func244.trans (congrArg some (by kernel_rfl))
 f318:=Tryz.func246.trans (congrArg some (by kernel_rfl))
 f319:=Tryz.func247.trans (congrArg some (by kernel_rfl))
 f320:=Tryz.func248.trans (congrArg some (by kernel_rfl))
 f337:=Tryz.func270.trans (congrArg some (by kernel_rfl))
 f338:=Tryz.func271.trans (congrArg some (by kernel_rfl))
 t0:=Qu0
 a0:=Qg0
 z0:=Qs0
 v0:=Qz0
 t2:=Tryz.underlying2
 a2:=Tryz.isAgg2
 z2:=Tryz.sizeOf2
 v2:=Tryz.zeroValue2
 t3:=Qu3
 a3:=Qg3
 z3:=Qs3
 v3:=Qz3
 t4:=Qu4
 a4:=Qg4
 z4:=Qs4
 v4:=Qz4
 t5:=Qu5
 a5:=Qg5
 z5:=Qs5
 v5:=Qz5
 t9:=Qu9
 a9:=Qg9
 z9:=Qs9
 v9:=Qz9
 t20:=Qu20
 a20:=Tryz.isAgg20
 z20:=Tryz.sizeOf20
 v20:=Qz20
 t37:=X2x
 a37:=Xek
 z37:=Xbp
 v37:=Xvm
 t46:=X6g
 a46:=Xgm
 z46:=Xgr
 v46:=Xgu
 t51:=Xn2
 a51:=Xms
 z51:=Xmx
 v51:=Xn6
 t53:=Xn3
 a53:=Tryz.isAgg62
 z53:=Tryz.sizeOf62
 v53:=Tryz.zeroValue62
 t171:=Tryz.underlying266
 a171:=Tryz.isAgg266
 z171:=Tryz.sizeOf266
 v171:=Tryz.zeroValue266
 t173:=Tryz.underlying269
 a173:=Tryz.isAgg269
 z173:=Tryz.sizeOf269
 v173:=Tryz.zeroValue269
 t212:=Xr8
 a212:=Tryz.isAgg307
 z212:=Tryz.sizeOf307
 v212:=Tryz.zeroValue307
 t213:=Tryz.underlying309
 a213:=Tryz.isAgg309
 z213:=Tryz.sizeOf309
 t232:=Tryz.underlying328
 a232:=Tryz.isAgg328
 z232:=Tryz.sizeOf328
 v232:=Tryz.zeroValue328
 t233:=Tryz.underlying329
 a233:=Tryz.isAgg329
 z233:=Tryz.sizeOf329
 v233:=Tryz.zeroValue329
 g17:=by kernel_rfl
 g18:=by kernel_rfl
 g19:=by kernel_rfl
 i0:=by kernel_rfl
 i2:=by kernel_rfl
 i3:=by kernel_rfl
 i4:=by kernel_rfl
 i5:=by kernel_rfl
 i9:=by kernel_rfl
 i20:=by kernel_rfl
 i37:=by kernel_rfl
 i46:=by kernel_rfl
 i51:=by kernel_rfl
 i53:=by kernel_rfl
 i171:=by kernel_rfl
 i173:=by kernel_rfl
 i212:=by kernel_rfl
 i232:=by kernel_rfl
 i233:=by kernel_rfl
 m17:=by kernel_rfl
 m18:=by kernel_rfl
 m19:=by kernel_rfl }
open Go.RowKit Go.Sort Go.Lib in
theorem Tryz.strconv_Itoa (n : Int) (h0 : -9223372036854775808 ≤ n) (h1 : n ≤ 9223372036854775807) (w : World) (htab : Lib.TabIs Tryz.prog w "internal/strconv.uint64pow10" .u64 Lib.pow10Tab) :
  Calls Tryz.prog 67 #[.int .i64 n] w fun e w'=>e=.returned (.string ⟨(Lib.itoa n).toArray⟩)/\∃ k os,w'=grow (w.drewN k) os:=Any.strconv_Itoa Tryz.laysM171 n h0 h1 w htab
def Tryz.laysC172_ren:Go.Shelf.Ren:=⟨fun | 172=>65 | 244=>108 | 245=>109 | 247=>150 | 279=>151 | 280=>152 | 281=>153 | 282=>154 | 287=>199 | 316=>200 | 171=>67 | 205=>201 | 321=>240 | 322=>241 | 243=>112 | 246=>157 | 283=>204 | 284=>205 | 285=>206 | 286=>207 | 129=>245 | 317=>244 | 318=>246 | 319=>247 | 320=>248 | 337=>270 | 338=>271 | n=>n,fun | 9=>9 | 3=>3 | 75=>132 | 76=>133 | 4=>4 | 5=>5 | 167=>222 | 37=>121 | 0=>0 | 85=>223 | 2=>2 | 168=>225 | 53=>62 | 175=>260 | 46=>122 | 210=>263 | 127=>228 | 145=>301 | 143=>299 | 21=>21 | 171=>266 | 173=>269 | 212=>307 | 51=>308 | 20=>20 | 213=>309 | 232=>328 | 233=>329 | 80=>180 | n=>n,fun | 15=>3 | 16=>4 | 17=>5 | 18=>7 | 19=>8 | n=>n⟩
theorem Tryz.laysC172:Go.Proofs.LaysC.n172 Tryz.prog Tryz.laysC172_ren:={
 mixed:=by kernel_rfl
 f129:=Tryz.func245.trans (congrArg some (by kernel_rfl))
 f171:=Qf67.trans (congrArg some (by kernel_rfl))
 f172:=Tryz.func65.trans (congrArg some (by kernel_rfl))
 f205:=Tryz.func201.trans (congrArg some (by kernel_rfl))
 f243:=Tryz.func112.trans (congrArg some (by kernel_rfl))
 f244:=Tryz.func108.trans (congrArg some (by kernel_rfl))
 f245:=Tryz.func109.trans (congrArg some (by kernel_rfl))
 f246:=Tryz.func157.trans (congrArg some (by kernel_rfl))
 f247:=Tryz.func150.trans (congrArg some (by kernel_rfl))
 f279:=Tryz.func151.trans (congrArg some (by kernel_rfl))
 f280:=Tryz.func152.trans (congrArg some (by kernel_rfl))
 f281:=Tryz.func153.trans (congrArg some (by kernel_rfl))
 f282:=Tryz.func154.trans (congrArg some (by kernel_rfl))
 f283:=Tryz.func204.trans (congrArg some (by kernel_rfl))
 f284:=Tryz.func205.trans (congrArg some (by kernel_rfl))
 f285:=Tryz.func206.trans (congrArg some (by kernel_rfl))
 f286:=Tryz.func207.trans (congrArg some (by kernel_rfl))
 f287:=Tryz.func199.trans (congrArg some (by kernel_rfl))
 f316:=Tryz.func200.trans (congrArg some (by kernel_rfl))
 f317:=Tryz.func244.trans (congrArg some (by kernel_rfl))
 f318:=Tryz.func246.trans (congrArg some (by kernel_rfl))
 f319:=Tryz.func247.trans (congrArg some (by kernel_rfl))
 f320:=Tryz.func248.trans (congrArg some (by kernel_rfl))
 f321:=Tryz.func240.trans (congrArg some (by kernel_rfl))
 f322:=Tryz.func241.trans (congrArg some (by kernel_rfl))
 f337:=Tryz.func270.trans (congrArg some (by kernel_rfl))
 f338:=Tryz.func271.trans (congrArg some (by kernel_rfl))
 t0:=Qu0
 a0:=Qg0
 z0:=Qs0
 v0:=Qz0
 t2:=Tryz.underlying2
 a2:=Tryz.isAgg2
 z2:=Tryz.sizeOf2
 v2:=Tryz.zeroValue2
 t3:=Qu3
 a3:=Qg3
 z3:=Qs3
 v3:=Qz3
 t4:=Qu4
 a4:=Qg4
 z4:=Qs4
 v4:=Qz4
 t5:=Qu5
 a5:=Qg5
 z5:=Qs5
 v5:=Qz5
 t9:=Qu9
 a9:=Qg9
 z9:=Qs9
 v9:=Qz9
 t20:=Qu20
 a20:=Tryz.isAgg20
 z20:=Tryz.sizeOf20
 v20:=Qz20
 t21:=Xvi
 a21:=Qg21
 z21:=Qs21
 v21:=Qz21
 t37:=X2x
 a37:=Xek
 z37:=Xbp
 v37:=Xvm
 t46:=X6g
 a46:=Xgm
 z46:=Xgr
 v46:=Xgu
 t51:=Xn2
 a51:=Xms
 z51:=Xmx
 v51:=Xn6
 t53:=Xn3
 a53:=Tryz.isAgg62
 z53:=Tryz.sizeOf62
 v53:=Tryz.zeroValue62
 t75:=Xvg
 a75:=Tryz.isAgg132
 z75:=Tryz.sizeOf132
 v75:=Tryz.zeroValue132
 t76:=Tryz.underlying133
 a76:=Tryz.isAgg133
 z76:=Tryz.sizeOf133
 v76:=Tryz.zeroValue133
 t85:=Tryz.underlying223
 a85:=Tryz.isAgg223
 z85:=Tryz.sizeOf223
 v85:=Tryz.zeroValue223
 t127:=Xvj
 a127:=Tryz.isAgg228
 z127:=Tryz.sizeOf228
 v127:=Tryz.zeroValue228
 t143:=Tryz.underlying299
 a143:=Tryz.isAgg299
 z143:=Tryz.sizeOf299
 v143:=Tryz.zeroValue299
 t145:=Tryz.underlying301
 a145:=Tryz.isAgg301
 z145:=Tryz.sizeOf301
 v145:=Tryz.zeroValue301
 t167:=Tryz.underlying222
 a167:=Tryz.isAgg222
 z167:=Tryz.sizeOf222
 v167:=Tryz.zeroValue222
 t168:=Tryz.underlying225
 a168:=Tryz.isAgg225
 z168:=Tryz.sizeOf225
 v168:=Tryz.zeroValue225
 t171:=Tryz.underlying266
 a171:=Tryz.isAgg266
 z171:=Tryz.sizeOf266
 v171:=Tryz.zeroValue266
 t173:=Tryz.underlying269
 a173:=Tryz.isAgg269
 z173:=Tryz.sizeOf269
 v173:=Tryz.zeroValue269
 t175:=Tryz.underlying260
 a175:=Tryz.isAgg260
 z175:=Tryz.sizeOf260
 v175:=Tryz.zeroValue260
 t210:=Tryz.underlying263
 a210:=Tryz.isAgg263
 z210:=Tryz.sizeOf263
 v210:=Tryz.zeroValue263
 t212:=Xr8
 a212:=Tryz.isAgg307
 z212:=Tryz.sizeOf307
 v212:=Tryz.zeroValue307
 t213:=Tryz.underlying309
 a213:=Tryz.isAgg309
 z213:=Tryz.sizeOf309
 t232:=Tryz.underlying328
 a232:=Tryz.isAgg328
 z232:=Tryz.sizeOf328
 v232:=Tryz.zeroValue328
 t233:=Tryz.underlying329
 a233:=Tryz.isAgg329
 z233:=Tryz.sizeOf329
 v233:=Tryz.zeroValue329
 g15:=by kernel_rfl
 g16:=by kernel_rfl
 g17:=by kernel_rfl
 g18:=by kernel_rfl
 g19:=by kernel_rfl
 t80:=Tryz.underlying180
 a80:=Tryz.isAgg180
 z80:=Tryz.sizeOf180
 v80:=Tryz.zeroValue180
 i0:=by kernel_rfl
 i2:=by kernel_rfl
 i3:=by kernel_rfl
 i4:=by kernel_rfl
 i5:=by kernel_rfl
 i9:=by kernel_rfl
 i20:=by kernel_rfl
 i21:=by kernel_rfl
 i37:=by kernel_rfl
 i46:=by kernel_rfl
 i51:=by kernel_rfl
 i53:=by kernel_rfl
 i75:=by kernel_rfl
 i76:=by kernel_rfl
 i80:=by kernel_rfl
 i85:=by kernel_rfl
 i127:=by kernel_rfl
 i143:=by kernel_rfl
 i145:=by kernel_rfl
 i167:=by kernel_rfl
 i168:=by kernel_rfl
 i171:=by kernel_rfl
 i173:=by kernel_rfl
 i175:=by kernel_rfl
 i210:=by kernel_rfl
 i212:=by kernel_rfl
 i232:=by kernel_rfl
 i233:=by kernel_rfl
 m15:=by kernel_rfl
 m16:=by kernel_rfl
 m17:=by kernel_rfl
 m18:=by kernel_rfl
 m19:=by kernel_rfl
 c0:=by kernel_rfl
 c2:=by kernel_rfl
 c3:=by kernel_rfl
 c4:=by kernel_rfl
 c5:=by kernel_rfl
 c9:=by kernel_rfl
 c20:=by kernel_rfl
 c21:=by kernel_rfl
 c37:=by kernel_rfl
 c46:=by kernel_rfl
 c51:=by kernel_rfl
 c53:=by kernel_rfl
 c75:=by kernel_rfl
 c76:=by kernel_rfl
 c80:=by kernel_rfl
 c85:=by kernel_rfl
 c127:=by kernel_rfl
 c143:=by kernel_rfl
 c145:=by kernel_rfl
 c167:=by kernel_rfl
 c168:=by kernel_rfl
 c171:=by kernel_rfl
 c173:=by kernel_rfl
 c175:=by kernel_rfl
 c210:=by kernel_rfl
 c212:=by kernel_rfl
 c213:=by kernel_rfl
 c232:=by kernel_rfl
 c233:=by kernel_rfl }
open Go.RowKit in
theorem Tryz.strconv_Atoi_ok (s:ByteArray) (hmax:s.size<=9223372036854775806) (v:Int) (h:Lib.atoiAll s.data.toList=.ok v) (w:World) :
  Calls Tryz.prog 65 #[.string s] w fun e w'=>e=.returned (.tuple #[.int .i64 v,.nilIface])/\(w'=w\/∃ t,w'=Lib.bytesWorld w 5 t):=Any.strconv_Atoi_ok Tryz.laysC172 s hmax v h w
open Go.RowKit in
theorem Tryz.strconv_Atoi_range (s:ByteArray) (hlim:s.size<=281474976710656) (h:Lib.atoiAll s.data.toList=.range) (ev:Value) (w:World) (hv:w.cell? ⟨4,0,none⟩=some ev) (hev:ev=.nilIface\/∃ te pe,ev=.iface te pe) :
  Calls Tryz.prog 65 #[.string s] w fun e w'=>∃ N,e=.returned (.tuple #[.int .i64 (Lib.atoiSat s.data.toList),.iface 225 (.pointer (some ⟨N,0,none⟩))])/\w.heap.size<=N/\w'.heap[N]?=some (.cells #[.string ⟨#[65,116,111,105]⟩,.string s,ev] 263 (0,0))/\Below w.heap.size w w':=Any.strconv_Atoi_range Tryz.laysC172 s hlim h ev w hv hev
def Tryz.lays145_ren:Go.Shelf.Ren:=⟨fun | 145=>187 | 220=>228 | 219=>259 | 217=>260 | 225=>265 | 224=>264 | 267=>278 | 266=>279 | 314=>290 | n=>n,fun | 9=>9 | 4=>4 | 59=>250 | 3=>3 | 5=>5 | 46=>122 | 146=>334 | 51=>308 | n=>n,fun | 1=>6 | n=>n⟩
theorem Tryz.lays145:Go.Proofs.Lays.n145 Tryz.prog Tryz.lays145_ren:={
 mixed:=by kernel_rfl
 f145:=Qf187.trans (congrArg some (by kernel_rfl))
 f217:=Qf260.trans (congrArg some (by kernel_rfl))
 f219:=Tryz.func259.trans (congrArg some (by kernel_rfl))
 f220:=Tryz.func228.trans (congrArg some (by kernel_rfl))
 f224:=Qf264.trans (congrArg some (by kernel_rfl))
 f225:=Qf265.trans (congrArg some (by kernel_rfl))
 f266:=Qf279.trans (congrArg some (by kernel_rfl))
 f267:=Tryz.func278.trans (congrArg some (by kernel_rfl))
 f314:=Tryz.func290.trans (congrArg some (by kernel_rfl))
 t3:=Qu3
 a3:=Qg3
 z3:=Qs3
 v3:=Qz3
 t4:=Qu4
 a4:=Qg4
 z4:=Qs4
 v4:=Qz4
 t5:=Qu5
 a5:=Qg5
 z5:=Qs5
 v5:=Qz5
 t9:=Qu9
 a9:=Qg9
 z9:=Qs9
 v9:=Qz9
 t46:=X6g
 a46:=Xgm
 z46:=Xgr
 v46:=Xgu
 t51:=Xn2
 a51:=Xms
 z51:=Xmx
 v51:=Xn6
 t59:=Tryz.underlying250
 a59:=Tryz.isAgg250
 z59:=Tryz.sizeOf250
 v59:=Tryz.zeroValue250
 t146:=Xvl
 a146:=Tryz.isAgg334
 z146:=Tryz.sizeOf334
 v146:=Xvo
 g1:=by kernel_rfl }
open Go.RowKit Go.Lib in
theorem Tryz.strings_Cut (s sep:ByteArray) (m:Int) (w:World) (hs:s.size<4294967281) (hm:w.cell? ⟨6,0,none⟩=some (.int .i64 m)) :
  Calls Tryz.prog 187 #[.string s,.string sep] w fun e w'=>e=.returned (.tuple #[.string ⟨(Lib.cut s.data.toList sep.data.toList).1.toArray⟩,.string ⟨(Lib.cut s.data.toList sep.data.toList).2.1.toArray⟩,.bool (Lib.cut s.data.toList sep.data.toList).2.2])/\∃ n,w'=w.drewN n:=Any.strings_Cut Tryz.lays145 s sep m w hs hm
def Tryz.lays146_ren:Go.Shelf.Ren:=⟨fun | 146=>255 | 221=>276 | 268=>289 | 138=>266 | 143=>268 | 195=>283 | 197=>269 | 218=>284 | 219=>259 | 260=>286 | 217=>260 | 225=>265 | 224=>264 | 267=>278 | 266=>279 | 314=>290 | n=>n,fun | 9=>9 | 31=>87 | 3=>3 | 4=>4 | 0=>0 | 105=>320 | 21=>21 | 5=>5 | 46=>122 | 119=>338 | 139=>341 | 138=>340 | 146=>334 | 51=>308 | n=>n,fun | 1=>6 | 3=>10 | 4=>11 | n=>n⟩
theorem Tryz.lays146:Go.Proofs.Lays.n146 Tryz.prog Tryz.lays146_ren:={
 mixed:=by kernel_rfl
 f138:=Tryz.func266.trans (congrArg some (by kernel_rfl))
 f143:=Tryz.func268.trans (congrArg some (by kernel_rfl))
 f146:=Tryz.func255.trans (congrArg some (by kernel_rfl))
 f195:=Tryz.func283.trans (congrArg some (by kernel_rfl))
 f197:=Tryz.func269.trans (congrArg some (by kernel_rfl))
 f217:=Qf260.trans (congrArg some (by kernel_rfl))
 f218:=Tryz.func284.trans (congrArg some (by kernel_rfl))
 f219:=Tryz.func259.trans (congrArg some (by kernel_rfl))
 f221:=Tryz.func276.trans (congrArg some (by kernel_rfl))
 f224:=Qf264.trans (congrArg some (by kernel_rfl))
 f225:=Qf265.trans (congrArg some (by kernel_rfl))
 f260:=Tryz.func286.trans (congrArg some (by kernel_rfl))
 f266:=Qf279.trans (congrArg some (by kernel_rfl))
 f267:=Tryz.func278.trans (congrArg some (by kernel_rfl))
 f268:=Tryz.func289.trans (congrArg some (by kernel_rfl))
 f314:=Tryz.func290.trans (congrArg some (by kernel_rfl))
 t0:=Qu0
 a0:=Qg0
 z0:=Qs0
 v0:=Qz0
 t3:=Qu3
 a3:=Qg3
 z3:=Qs3
 v3:=Qz3
 t4:=Qu4
 a4:=Qg4
 z4:=Qs4
 v4:=Qz4
 t5:=Qu5
 a5:=Qg5
 z5:=Qs5
 v5:=Qz5
 t9:=Qu9
 a9:=Qg9
 z9:=Qs9
 v9:=Qz9
 t21:=Xvi
 a21:=Qg21
 z21:=Qs21
 v21:=Qz21
 t31:=X1u
 a31:=Xm6
 z31:=Xkf
 v31:=Qz87
 t46:=X6g
 a46:=Xgm
 z46:=Xgr
 v46:=Xgu
 t51:=Xn2
 a51:=Xms
 z51:=Xmx
 v51:=Xn6
 t105:=Tryz.underlying320
 a105:=Tryz.isAgg320
 z105:=Tryz.sizeOf320
 v105:=Tryz.zeroValue320
 t119:=Tryz.underlying338
 a119:=Tryz.isAgg338
 z119:=Tryz.sizeOf338
 t138:=Tryz.underlying340
 a138:=Tryz.isAgg340
 z138:=Tryz.sizeOf340
 v138:=Tryz.zeroValue340
 t139:=Tryz.underlying341
 a139:=Tryz.isAgg341
 z139:=Tryz.sizeOf341
 v139:=Tryz.zeroValue341
 t146:=Xvl
 a146:=Tryz.isAgg334
 z146:=Tryz.sizeOf334
 v146:=Xvo
 g1:=by kernel_rfl
 g3:=by kernel_rfl
 g4:=by kernel_rfl }
open Go.RowKit Go.Lib in
theorem Tryz.strings_Split (s sep:ByteArray) (m:Int) (w:World) (hs:s.size<4294967281) (hm:w.cell? ⟨6,0,none⟩=some (.int .i64 m)) (h1:1<=sep.size) :
  Calls Tryz.prog 255 #[.string s,.string sep] w fun e w' =>
   e=.returned (.slice (some ⟨w.heap.size,0,none⟩) (Lib.countB s sep+1) (Lib.countB s sep+1))/\w'=w.alloc (.cells ((Lib.splitB sep 0 (Lib.countB s sep) s).map Value.string).toArray 9):=Any.strings_Split Tryz.lays146 (by kernel_rfl) s sep m w hs hm h1
def Tryz.lays155_ren:Go.Shelf.Ren:=⟨fun | 155=>203 | 154=>243 | 138=>266 | 165=>267 | 143=>268 | 166=>155 | 197=>269 | 169=>111 | 195=>283 | 218=>284 | 240=>202 | 241=>285 | 219=>259 | 260=>286 | 276=>242 | 277=>294 | 217=>260 | 225=>265 | 224=>264 | 267=>278 | 266=>279 | 314=>290 | n=>n,fun | 9=>9 | 3=>3 | 4=>4 | 72=>178 | 0=>0 | 76=>133 | 105=>320 | 21=>21 | 5=>5 | 70=>176 | 20=>20 | 37=>121 | 75=>132 | 127=>228 | 164=>302 | 46=>122 | 119=>338 | 139=>341 | 138=>340 | 146=>334 | 51=>308 | 80=>180 | n=>n,fun | 1=>6 | 3=>10 | 4=>11 | n=>n⟩
theorem Tryz.lays155:Go.Proofs.Lays.n155 Tryz.prog Tryz.lays155_ren:={
 mixed:=by kernel_rfl
 f138:=Tryz.func266.trans (congrArg some (by kernel_rfl))
 f143:=Tryz.func268.trans (congrArg some (by kernel_rfl))
 f154:=Tryz.func243.trans (congrArg some (by kernel_rfl))
 f155:=Tryz.func203.trans (congrArg some (by kernel_rfl))
 f165:=Tryz.func267.trans (congrArg some (by kernel_rfl))
 f166:=Qf155.trans (congrArg some (by kernel_rfl))
 f169:=Qf111.trans (congrArg some (by kernel_rfl))
 f195:=Tryz.func283.trans (congrArg some (by kernel_rfl))
 f197:=Tryz.func269.trans (congrArg some (by kernel_rfl))
 f217:=Qf260.trans (congrArg some (by kernel_rfl))
 f218:=Tryz.func284.trans (congrArg some (by kernel_rfl))
 f219:=Tryz.func259.trans (congrArg some (by kernel_rfl))
 f224:=Qf264.trans (congrArg some (by kernel_rfl))
 f225:=Qf265.trans (congrArg some (by kernel_rfl))
 f240:=Qf202.trans (congrArg some (by kernel_rfl))
 f241:=Tryz.func285.trans (congrArg some (by kernel_rfl))
 f260:=Tryz.func286.trans (congrArg some (by kernel_rfl))
 f266:=Qf279.trans (congrArg some (by kernel_rfl))
 f267:=Tryz.func278.trans (congrArg some (by kernel_rfl))
 f276:=Tryz.func242.trans (congrArg some (by kernel_rfl))
 f277:=Tryz.func294.trans (congrArg some (by kernel_rfl))
 f314:=Tryz.func290.trans (congrArg some (by kernel_rfl))
 t0:=Qu0
 a0:=Qg0
 z0:=Qs0
 v0:=Qz0
 t3:=Qu3
 a3:=Qg3
 z3:=Qs3
 v3:=Qz3
 t4:=Qu4
 a4:=Qg4
 z4:=Qs4
 v4:=Qz4
 t5:=Qu5
 a5:=Qg5
 z5:=Qs5
 v5:=Qz5
 t9:=Qu9
 a9:=Qg9
 z9:=Qs9
 v9:=Qz9
 t20:=Qu20
 a20:=Tryz.isAgg20
 z20:=Tryz.sizeOf20
 v20:=Qz20
 t21:=Xvi
 a21:=Qg21
 z21:=Qs21
 v21:=Qz21
 t37:=X2x
 a37:=Xek
 z37:=Xbp
 v37:=Xvm
 t46:=X6g
 a46:=Xgm
 z46:=Xgr
 v46:=Xgu
 t51:=Xn2
 a51:=Xms
 z51:=Xmx
 v51:=Xn6
 t70:=Xkg
 a70:=Xqy
 z70:=Xke
 v70:=Tryz.zeroValue176
 t72:=X9w
 a72:=Tryz.isAgg178
 z72:=Tryz.sizeOf178
 v72:=Xrb
 t75:=Xvg
 a75:=Tryz.isAgg132
 z75:=Tryz.sizeOf132
 v75:=Tryz.zeroValue132
 t76:=Tryz.underlying133
 a76:=Tryz.isAgg133
 z76:=Tryz.sizeOf133
 v76:=Tryz.zeroValue133
 t105:=Tryz.underlying320
 a105:=Tryz.isAgg320
 z105:=Tryz.sizeOf320
 v105:=Tryz.zeroValue320
 t119:=Tryz.underlying338
 a119:=Tryz.isAgg338
 z119:=Tryz.sizeOf338
 t127:=Xvj
 a127:=Tryz.isAgg228
 z127:=Tryz.sizeOf228
 v127:=Tryz.zeroValue228
 t138:=Tryz.underlying340
 a138:=Tryz.isAgg340
 z138:=Tryz.sizeOf340
 v138:=Tryz.zeroValue340
 t139:=Tryz.underlying341
 a139:=Tryz.isAgg341
 z139:=Tryz.sizeOf341
 v139:=Tryz.zeroValue341
 t146:=Xvl
 a146:=Tryz.isAgg334
 z146:=Tryz.sizeOf334
 v146:=Xvo
 t164:=Xvk
 a164:=Tryz.isAgg302
 z164:=Tryz.sizeOf302
 v164:=Tryz.zeroValue302
 g1:=by kernel_rfl
 g3:=by kernel_rfl
 g4:=by kernel_rfl }
theorem Tryz.Builder_Extra_155:Builder.Extra Tryz.prog Tryz.lays155_ren:={
 sizeBuilder:=by kernel_rfl
 liesBuilder:=by kernel_rfl
 t5:=Qu5
 a5:=Qg5
 z5:=Qs5
 v5:=Qz5
 infoByte:=by kernel_rfl
 cellsByte:=by kernel_rfl
 sizeByte:=by kernel_rfl
 neB5:=by decide }
open Go.RowKit Go.Lib in
theorem Tryz.strings_ReplaceAll (s old new:ByteArray) (m:Int) (w:World) (hs:s.size<4294967281) (hm:w.cell? ⟨6,0,none⟩=some (.int .i64 m)) (h1:1<=old.size) (hlen:s.size+Lib.countB s old*new.size<=140737488355328) :
  Calls Tryz.prog 203 #[.string s,.string old,.string new] w fun e w' =>
   e=.returned (.string ⟨(Lib.replaceAll s.data.toList old.data.toList new.data.toList).toArray⟩)/\Below w.heap.size w w':=Any.strings_ReplaceAll Tryz.lays155 Tryz.Builder_Extra_155 s old new m w hs hm h1 hlen
def Tryz.lays152_ren:Go.Shelf.Ren:=⟨fun | 152=>233 | 137=>229 | 119=>263 | 224=>264 | 225=>265 | 217=>260 | 266=>279 | n=>n,fun | 9=>9 | 21=>21 | 3=>3 | 4=>4 | 5=>5 | 0=>0 | 46=>122 | n=>n,fun | n=>n⟩
theorem Tryz.lays152:Go.Proofs.Lays.n152 Tryz.prog Tryz.lays152_ren:={
 mixed:=by kernel_rfl
 f119:=Qf263.trans (congrArg some (by kernel_rfl))
 f137:=Qf229.trans (congrArg some (by kernel_rfl))
 f152:=Qf233.trans (congrArg some (by kernel_rfl))
 f217:=Qf260.trans (congrArg some (by kernel_rfl))
 f224:=Qf264.trans (congrArg some (by kernel_rfl))
 f225:=Qf265.trans (congrArg some (by kernel_rfl))
 f266:=Qf279.trans (congrArg some (by kernel_rfl))
 t0:=Qu0
 a0:=Qg0
 z0:=Qs0
 v0:=Qz0
 t3:=Qu3
 a3:=Qg3
 z3:=Qs3
 v3:=Qz3
 t4:=Qu4
 a4:=Qg4
 z4:=Qs4
 v4:=Qz4
 t5:=Qu5
 a5:=Qg5
 z5:=Qs5
 v5:=Qz5
 t9:=Qu9
 a9:=Qg9
 z9:=Qs9
 v9:=Qz9
 t21:=Xvi
 a21:=Qg21
 z21:=Qs21
 v21:=Qz21
 t46:=X6g
 a46:=Xgm
 z46:=Xgr
 v46:=Xgu }
open Go.RowKit Go.Lib in
theorem Tryz.strings_IndexRune_ascii (s:ByteArray) (r:Int) (w:World) (h0:0<=r) (h1:r<128) :
  Calls Tryz.prog 233 #[.string s,.int .i32 r] w fun e w'=>e=.returned (.int .i64 (Lib.indexByte s.data.toList r.toNat.toUInt8))/\w'=w:=Any.strings_IndexRune_ascii Tryz.lays152 s r w h0 h1
def Tryz.lays153_ren:Go.Shelf.Ren:=⟨fun | 153=>191 | 152=>233 | 226=>234 | 227=>235 | 228=>236 | 137=>229 | 119=>263 | 224=>264 | 225=>265 | 217=>260 | 266=>279 | n=>n,fun | 9=>9 | 3=>3 | 4=>4 | 5=>5 | 21=>21 | 117=>296 | 116=>295 | 0=>0 | 46=>122 | 124=>319 | n=>n,fun | n=>n⟩
theorem Tryz.lays153:Go.Proofs.Lays.n153 Tryz.prog Tryz.lays153_ren:={
 mixed:=by kernel_rfl
 f119:=Qf263.trans (congrArg some (by kernel_rfl))
 f137:=Qf229.trans (congrArg some (by kernel_rfl))
 f152:=Qf233.trans (congrArg some (by kernel_rfl))
 f153:=Qf191.trans (congrArg some (by kernel_rfl))
 f217:=Qf260.trans (congrArg some (by kernel_rfl))
 f224:=Qf264.trans (congrArg some (by kernel_rfl))
 f225:=Qf265.trans (congrArg some (by kernel_rfl))
 f226:=Tryz.func234.trans (congrArg some (by kernel_rfl))
 f227:=Tryz.func235.trans (congrArg some (by kernel_rfl))
 f228:=Tryz.func236.trans (congrArg some (by kernel_rfl))
 f266:=Qf279.trans (congrArg some (by kernel_rfl))
 t0:=Qu0
 a0:=Qg0
 z0:=Qs0
 v0:=Qz0
 t3:=Qu3
 a3:=Qg3
 z3:=Qs3
 v3:=Qz3
 t4:=Qu4
 a4:=Qg4
 z4:=Qs4
 v4:=Qz4
 t5:=Qu5
 a5:=Qg5
 z5:=Qs5
 v5:=Qz5
 t9:=Qu9
 a9:=Qg9
 z9:=Qs9
 v9:=Qz9
 t21:=Xvi
 a21:=Qg21
 z21:=Qs21
 v21:=Qz21
 t46:=X6g
 a46:=Xgm
 z46:=Xgr
 v46:=Xgu
 t116:=Tryz.underlying295
 a116:=Tryz.isAgg295
 z116:=Tryz.sizeOf295
 t117:=Tryz.underlying296
 a117:=Tryz.isAgg296
 z117:=Tryz.sizeOf296
 v117:=Tryz.zeroValue296
 t124:=Tryz.underlying319
 a124:=Tryz.isAgg319
 z124:=Tryz.sizeOf319
 v124:=Tryz.zeroValue319 }
open Go.RowKit Go.Lib in
theorem Tryz.strings_IndexAny_one (s chars:ByteArray) (w:World) (h1:chars.size=1) (hascii:∀ (j:Nat) b,chars.data.toList[j]?=some b->b.toNat<128) :
  Calls Tryz.prog 191 #[.string s,.string chars] w fun e w'=>e=.returned (.int .i64 (Lib.indexAny s.data.toList chars.data.toList))/\w'=w:=Any.strings_IndexAny_one Tryz.lays153 s chars w h1 hascii
open Go.RowKit Go.Lib in
theorem Tryz.strings_IndexAny_long (hv116:∀ w,(zeroValue 295).run Tryz.prog w=.ok (.agg (Array.replicate 256 (.bool false))) w) (s chars:ByteArray) (w:World) (h2:2<=chars.size) (h8:8<s.size) (hs:s.size<4294967281) (hcs:chars.size<4294967281) (hascii:∀ (j:Nat) b,chars.data.toList[j]?=some b->b.toNat<128) :
  Calls Tryz.prog 191 #[.string s,.string chars] w fun e w'=>e=.returned (.int .i64 (Lib.indexAny s.data.toList chars.data.toList))/\w'=((w.alloc (.cells (Lib.setCells chars.data.toList) 295)).alloc (.cells (Lib.setCells chars.data.toList) 295)):=Any.strings_IndexAny_long Tryz.lays153 hv116 (by kernel_rfl) s chars w h2 h8 hs hcs hascii
def Tryz.laysNm216_ren:Go.Shelf.Ren:=⟨fun | 16=>161 | n=>n,fun | 24=>87 | 9=>9 | 4=>4 | n=>n,fun | n=>n⟩
theorem Tryz.laysNm216:Go.Proofs.Lays2.n16 Tryz.prog Tryz.laysNm216_ren:={
 mixed:=by kernel_rfl
 f16:=Tryz.func161.trans (congrArg some (by kernel_rfl))
 t4:=Qu4
 a4:=Qg4
 z4:=Qs4
 v4:=Qz4
 t9:=Qu9
 a9:=Qg9
 z9:=Qs9
 v9:=Qz9
 t24:=X1u
 a24:=Xm6
 z24:=Xkf
 v24:=Qz87
 i9:=by kernel_rfl }
open Go.RowKit Go.Lib in
theorem Tryz.slices_Clone_string (b off n c:Nat) (zs:List ByteArray) (w:World) (hz:n<=zs.length) (hbig:n*16<=140737488355328) (hc:∀ j,j<zs.length->w.cell? ⟨b,off+j,none⟩=some (.string (zs.getD j ByteArray.empty))) :
  Calls Tryz.prog 161 #[.slice (some ⟨b,off,none⟩) n c] w fun e w'=>∃ v',e=.returned v'/\w'.ownsRow w.heap.size 9 1 v' n ((zs.take n).map (Value.string))/\v'≠.slice none 0 0/\Below w.heap.size w w':=Any.slices_Clone_string Tryz.laysNm216 b off n c zs w hz hbig hc
open Go.RowKit Go.Lib in
theorem Tryz.slices_Clone_string_nil (n c:Nat) (w:World) :
  Calls Tryz.prog 161 #[.slice none n c] w fun e w'=>e=.returned (.slice none 0 0)/\w'=w:=Any.slices_Clone_string_nil Tryz.laysNm216 n c w
open Go.RowKit Go.Lib in
theorem Tryz.slices_Clone_string_zero (a:Addr) (c:Nat) (w:World) :
  Calls Tryz.prog 161 #[.slice (some a) 0 c] w fun e w'=>∃ v',e=.returned v'/\w'.ownsRow w.heap.size 9 1 v' 0 []/\v'≠.slice none 0 0/\Below w.heap.size w w':=Any.slices_Clone_string_zero Tryz.laysNm216 a c w
end Go.Proofs
namespace Go.Proofs.YtbciobiiejpdgaaGreatDoor
open Gk Pc Ul
theorem X4d (s:List UInt8) (c:UInt8) (w:World):Calls Tryz.prog 229 [S s,U8 c.toNat].toArray w (Ret fun v w'=>v=I64 (Go.Lib.indexByte s c)/\w=w') :=
 (Tryz.strings_IndexByte ⟨s.toArray⟩ c.toNat w).mono fun e w' he=>by
  obtain ⟨rfl,rfl⟩:=he;refine ⟨_,rfl,?_,rfl⟩
  congr 2
  simp
theorem Xwy (s:List UInt8) (w:World) :
  Cz 252 [S s] w fun v w'=>v=I64 (Xwx s:Nat)/\w=w':=by
 refine calls Tryz.func252 rfl Tryz.ntmps252 rfl (.seq (.q 1 rfl (.seq (.seq (.q 2 rfl ?_)))));refine .cond rfl (fun hb4=>?_) fun hb4=>?_
 ·have hc4:=hb4; simp only [Y6] at hc4;refine .seq (.q 1 rfl (.ret (Xc Tryz.results252 rfl ?_)));exact ⟨_,rfl,by rw [Xwx,if_pos (show s=X7a from hc4)]; rfl,rfl⟩
 have hc4:=hb4; simp only [Y6] at hc4;refine .skip (.seq (.q 1 rfl (.ret (Xc Tryz.results252 rfl ?_))));exact ⟨_,rfl,by rw [Xwx,if_neg (show ¬ s=X7a from hc4)]; rfl,rfl⟩
theorem Xfn (s:List UInt8) (hl:s.length<=1000000) (B w:World) (I:Im) (As:List X7) (hS:Sat B w I As) :
  Cz 215 [S s] w fun v w'=>v=S (low s)/\Sat B w' I As:=by
 refine calls Tryz.func215 rfl Tryz.ntmps215 rfl (.seq (.q 1 rfl (.seq (.t 1 rfl (.strBytes (s:=s) hS (.of rfl) Qu9 X2x Qu5 rfl ?_)))));intro m7 cap7 r7 w hS;refine .q 1 rfl (.nil (.seq (.seq (.region (.run 3 rfl ⟨⟨_,X2x⟩,trivial⟩ (.nil (.block ?_)))))));refine .loop (σ:=Nat) (fun i=>[(3,.slice (some (ad m7 0)) s.length cap7),(8,.slice (some (ad m7 0)) s.length cap7),(9,I64 (s.length:Nat)),(10,I64 (i:Nat))]) (fun i w=>i<=s.length/\Sat B w I (blkM m7 (bcs (mid s i) ++ List.replicate r7 (Value.int .u8 0)) 5::As)) (fun i=>s.length - i) 0 ⟨rfl,rfl,rfl,rfl,trivial⟩ ⟨Yo _,by rw [Xt0]; exact hS⟩ ?_;rintro i w ⟨hi,hS⟩;refine .seq (.q 1 rfl (.seq ?_));refine .cond rfl (fun hb11=>?_) fun hb11=>?_
 ·have hc11:=hb11; simp only [Y6] at hc11;refine .skip (.seq (.block (.seq ?_)));have hl1:(bcs (mid s i)).length=s.length:=by rw [Y14,Xp1]
  have hld:(bcs (mid s i) ++ List.replicate r7 (Value.int .u8 0))[i]?=some (U8 (at_ s i).toNat):=by
   rw [Yi (by omega),Yu,Xue s i (by omega)]; rfl
  refine .t 1 rfl (.val (.io rfl rfl (by omega) (by omega) X2x Qs5) rfl ?_);refine .val (.ldM (.of rfl) hS (k:=0) rfl Qg5 (by rw [Yc,Yf,Y1n]; exact hld)) rfl ?_;refine .q 2 rfl (.nil (.seq (.t 3 rfl (.gm rfl rfl rfl rfl (.gval rfl rfl (fun hg1=>(.leq (.gd hg1 rfl) (.of rfl))) rfl (.val (.pa rfl rfl rfl) rfl (.nil ?_)))))));refine .cond rfl (fun hb20=>?_) fun hb20=>?_
  ·have hc20:=hb20; simp only [Y6] at hc20;refine .t 3 rfl (.val (.addw (.of rfl) (.of rfl)) rfl (.val (.subw (.of rfl) (.of rfl)) rfl (.val (.io rfl rfl (by omega) (by omega) X2x Qs5) rfl ?_)));refine .st1M hS (k:=0) rfl (.of rfl) (.of rfl) rfl Qs5 (by rw [Y0,hl1,Y25]; omega) ?_;intro w hS;refine .nil (.region (.run 2 rfl ⟨⟨by omega,by omega⟩,trivial⟩ (.nil ?_)));refine ⟨i+1,⟨rfl,rfl,rfl,rfl,trivial⟩,⟨by omega,?_⟩,by omega⟩;have e:=Xjh s i (by omega);rw [Yc,Yf,Y1n] at hS;rw [Y42 _ _ (by omega),show Value.int .u8 (IntKind.u8.wrap ((IntKind.u8.wrap (((at_ s (i:Int)).toNat:Int)+97)) - 65))=U8 (lo (at_ s (i:Int))).toNat by
    have:=lo_up (c:=at_ s (i:Int)) (by simpa only [Yn,decide_eq_true_eq] using hb20)
    rw [this,IntKind.wrap_u8,IntKind.wrap_u8]; congr 1; omega,<- List.map_set,e] at hS
   exact hS
  have hc20:=hb20; simp only [Y6] at hc20;refine .skip (.region (.run 2 rfl ⟨⟨by omega,by omega⟩,trivial⟩ (.nil ?_)));refine ⟨i+1,⟨rfl,rfl,rfl,rfl,trivial⟩,⟨by omega,?_⟩,by omega⟩;rw [<- Xsz s i (by omega) (lo_no (fun hh=>by
   have:(decide (65<=((at_ s (i:Int)).toNat:Int)) && decide (((at_ s (i:Int)).toNat:Int)<=90))=true:=by simp only [Yn,decide_eq_true_eq]; exact hh
   rw [this] at hb20; cases hb20))]
  exact hS
 have hc11:=hb11; simp only [Y6] at hc11;refine .exit (.seq (.t 1 rfl ?_));refine .val (.bytesStrM (l:=low s) (b:=m7) (o:=0) (cap:=cap7) (.of (by rw [X2b]; rfl)) hS (k:=0) rfl X2x Qu5 Qu9 (fun j hj=>by
  rw [X2b] at hj;rw [Yc,Yi (by rw [Y14,Xp1]; omega),Yu,Xwq s i (by omega),Y4 (by rw [X2b]; omega)];rfl)) rfl ?_
 refine .q 1 rfl (.nil (.ret (Xc Tryz.results215 rfl ?_)));exact ⟨_,rfl,rfl,hS.y 0 1⟩
theorem Xsk (s:List UInt8) (w:World) :
  Cz 217 [S s] w fun v w'=>v=.bool (X4t s)/\w=w':=by
 obtain ⟨w0,hw0⟩:∃ w0,w=w0:=⟨_,rfl⟩
 rw [show (fun (v:Value) (w':World)=>v=.bool (X4t s)/\w=w')=(fun v w'=>v=.bool (X4t s)/\w0=w') by rw [hw0]];refine calls Tryz.func217 rfl Tryz.ntmps217 rfl (.seq (.q 1 rfl (.seq (.seq (.t 3 rfl (.gm rfl rfl rfl rfl (.gval rfl rfl (fun hg1=>(.len (.gd hg1 rfl) Qu9)) rfl (.gval rfl rfl (fun hg1=>(.gtr (.gd hg1 rfl) (.of rfl))) rfl (.val (.po rfl rfl rfl) rfl (.nil ?_))))))))));refine .cond rfl (fun hb11=>?_) fun hb11=>?_
 ·refine .seq (.q 1 rfl (.ret (Xc Xv9 rfl ?_)));refine ⟨_,rfl,?_,hw0.symm⟩
  congr 1
  rw [X4t];rcases Y28.1 hb11 with h | h
  ·rw [show s=[] by simpa using h]; rfl
  ·simp only [decide_eq_true_eq] at h
   rw [show decide (64<s.length)=true from decide_eq_true (by omega)]; simp
 have hc11:=hb11; simp only [Y6] at hc11;refine .skip (.seq (.seq (.region (.run 3 rfl ⟨Qu9,trivial⟩ (.nil (.block (.loop (σ:=Nat) (fun i=>[(0,S s),(13,I64 (s.length:Nat)),(14,I64 (i:Nat))]) (fun i w=>i<=s.length/\(∀ j,j<i->j<s.length->Xdc (at_ s (j:Int))=true)/\w=w0) (fun i=>s.length - i) 0 ⟨rfl,rfl,rfl,trivial⟩ ⟨Yo _,fun _ h=>absurd h (by omega),hw0⟩ ?_)))))));rintro i w ⟨hi,hok,hw⟩;refine .seq (.q 1 rfl (.seq ?_));refine .cond rfl (fun hb15=>?_) fun hb15=>?_
 ·have hc15:=hb15; simp only [Y6] at hc15;refine .skip (.seq (.block (.seq (.q 2 rfl (.seq (.region (.run 4 rfl ⟨⟨⟨by omega,by omega⟩,Qu9⟩,trivial⟩ (.nil (.seq (.t 1 rfl (.call Tryz.func251 rfl (ec9 rfl X0) rfl (Xej _ _) ?_)))))))))));rintro _ _ ⟨rfl,rfl⟩;refine .q 2 rfl (.gm rfl rfl rfl rfl (.gval rfl rfl (fun hg1=>(.eql (.gd hg1 rfl) (.of rfl))) rfl (.val (.po rfl rfl rfl) rfl (.q 1 rfl (.gm rfl rfl rfl rfl (.gval rfl rfl (fun hg1=>(.eql (.gd hg1 rfl) (.of rfl))) rfl (.val (.po rfl rfl rfl) rfl (.nil ?_))))))));refine .cond rfl (fun hb30=>?_) fun hb30=>?_
  ·have hc30:=hb30; simp only [Y6] at hc30;refine .seq (.q 1 rfl (.ret (Xc Xv9 rfl ?_)));refine ⟨_,rfl,?_,hw.symm⟩;rw [Xfh] at hb30;rw [X4t,X5a (p:=Xdc) (i:=i) (by omega) (by simpa using hb30),Y43]
  have hc30:=hb30; simp only [Y6] at hc30;refine .skip (.region (.run 2 rfl ⟨⟨by omega,by omega⟩,trivial⟩ (.nil ?_)));refine ⟨i+1,⟨rfl,rfl,rfl,trivial⟩,⟨by omega,fun j hj hjl=>?_,hw⟩,by omega⟩;rcases Yp j i with h1 | h1
  ·exact hok j h1 hjl
  ·have e:j=i:=by omega
   subst e;rw [Xfh] at hb30;simpa using hb30
 have hc15:=hb15; simp only [Y6] at hc15;refine .exit (.seq (.q 1 rfl (.ret (Xc Xv9 rfl ?_))));refine ⟨_,rfl,?_,hw.symm⟩;rw [X4t,X69 hok (by omega),Bool.and_true];obtain ⟨h1,h2⟩:=(Y10).1 hb11;rw [show decide (64<s.length)=false from decide_eq_false (by simp only [decide_eq_false_iff_not] at h2; omega),show s.isEmpty=false by cases s with | nil=>simp at h1 | cons a b=>rfl];rfl
theorem Xlx (s:List UInt8) (hl:s.length<=1000000) (w:World) :
  Cz 253 [S s] w fun v w'=>v=.bool (s.all X3e)/\w=w':=by
 obtain ⟨w0,hw0⟩:∃ w0,w=w0:=⟨_,rfl⟩
 rw [show (fun (v:Value) (w':World)=>v=.bool (s.all X3e)/\w=w')=(fun v w'=>v=.bool (s.all X3e)/\w0=w') by rw [hw0]];refine calls Tryz.func253 rfl Tryz.ntmps253 rfl (.seq (.q 1 rfl (.seq (.seq (.region (.run 3 rfl ⟨Qu9,trivial⟩ (.nil (.block (.loop (σ:=Nat) (fun i=>[(0,S s),(6,I64 (s.length:Nat)),(7,I64 (i:Nat))]) (fun i w=>i<=s.length/\(∀ j,j<i->j<s.length->X3e (at_ s (j:Int))=true)/\w=w0) (fun i=>s.length - i) 0 ⟨rfl,rfl,rfl,trivial⟩ ⟨Yo _,fun _ h=>absurd h (by omega),hw0⟩ ?_)))))))));rintro i w ⟨hi,hok,hw⟩;refine .seq (.q 1 rfl (.seq ?_));refine .cond rfl (fun hb8=>?_) fun hb8=>?_
 ·have hc8:=hb8; simp only [Y6] at hc8;refine .skip (.seq (.block (.seq (.q 2 rfl (.seq (.region (.run 4 rfl ⟨⟨⟨by omega,by omega⟩,Qu9⟩,trivial⟩ (.nil (.seq (.t 3 rfl (.gm rfl rfl rfl rfl (.gval rfl rfl (fun hg1=>(.gtr (.gd hg1 rfl) (.of rfl))) rfl (.val (.po rfl rfl rfl) rfl (.q 1 rfl (.gm rfl rfl rfl rfl ?_)))))))))))))));refine .gcall (T:=fun w=>w=w0) rfl rfl rfl Qf229 rfl (fun hg1=>(ec9 rfl (Xd (.gd hg1 rfl) X0))) rfl (fun hg1=>(X4d BAD (at_ s (i:Int)) _).mono (fun e w2 he=>by obtain ⟨v,a,b,c⟩:=he; exact ⟨v,a,b,by rw [<- c]; exact hw⟩)) hw ?_;rintro w hw;refine .gval rfl rfl (fun hg1=>(.geq (.gd hg1 rfl) (.of rfl))) rfl (.val (.po rfl rfl rfl) rfl (.nil ?_));refine .cond rfl (fun hb23=>?_) fun hb23=>?_
  ·have hc23:=hb23; simp only [Y6] at hc23;refine .seq (.q 1 rfl (.ret (Xc Tryz.results253 rfl ?_)));refine ⟨_,rfl,?_,hw.symm⟩;rw [Xcj] at hb23;rw [X5a (p:=X3e) (i:=i) (by omega) (by simpa using hb23)]
  have hc23:=hb23; simp only [Y6] at hc23;refine .skip (.region (.run 2 rfl ⟨⟨by omega,by omega⟩,trivial⟩ (.nil ?_)));refine ⟨i+1,⟨rfl,rfl,rfl,trivial⟩,⟨by omega,fun j hj hjl=>?_,hw⟩,by omega⟩;rcases Yp j i with h1 | h1
  ·exact hok j h1 hjl
  ·have e:j=i:=by omega
   subst e;rw [Xcj] at hb23;simpa using hb23
 have hc8:=hb8; simp only [Y6] at hc8;refine .exit (.seq (.q 1 rfl (.ret (Xc Tryz.results253 rfl ?_))));refine ⟨_,rfl,?_,hw.symm⟩;rw [X69 hok (by omega)]
theorem Xq6 (s:List UInt8) (i:Nat) (h4:i<=4) (h:∀ j,j<i->j<s.length->X7w (at_ s (j:Int))=true):val (s.take i)<=9999:=by
 have step:∀ k,k<=i->val (s.take k)+1<=10 ^ k:=by
  intro k
  induction k with
  | zero=>intro _; simp [val]
  | succ k ih =>
   intro hk
   have:=ih (by omega)
   rcases Yp k s.length with hl | hl
   ·rw [X4r s k hl,Y22];have hd:=h k (by omega) hl;simp only [X7w,Yn,decide_eq_true_eq,Y1o] at hd
    have e1:(48:UInt8).toNat=48:=rfl;have e2:(57:UInt8).toNat=57:=rfl;rw [e1,e2] at hd;omega
   ·rw [show s.take (k+1)=s.take k by rw [Yx (by omega),Yx (by omega)],Y22];omega
 have h1:=step i (Yq _);have h2:10 ^ i<=10 ^ 4:=Y1w (by decide) h4;have h3:10 ^ 4=10000:=by decide
 omega
theorem Xth (s sch:List UInt8) (hl:s.length<=1000000) (w:World) :
  Cz 218 [S s,S sch] w fun v w'=>v=(if X1h s then Value.tuple #[I64 (X6q s sch:Nat),.bool true] else .tuple #[I64 0,.bool false])/\w=w':=by
 obtain ⟨w0,hw0⟩:∃ w0,w=w0:=⟨_,rfl⟩
 rw [show (fun (v:Value) (w':World)=>v=(if X1h s then Value.tuple #[I64 (X6q s sch:Nat),.bool true] else .tuple #[I64 0,.bool false])/\w=w')=(fun v w'=>v=(if X1h s then Value.tuple #[I64 (X6q s sch:Nat),.bool true] else .tuple #[I64 0,.bool false])/\w0=w') by rw [hw0]];refine calls Tryz.func218 rfl Tryz.ntmps218 rfl (.seq (.q 2 rfl (.seq (.q 1 rfl (.seq (.seq (.region (.run 3 rfl ⟨Qu9,trivial⟩ (.nil (.block (.loop (σ:=Nat) (fun i=>[(0,S s),(1,S sch),(6,I64 (val (s.take i):Nat)),(10,I64 (s.length:Nat)),(11,I64 (i:Nat))]) (fun i w=>i<=s.length/\i<=5/\(∀ j,j<i->j<s.length->X7w (at_ s (j:Int))=true)/\(0<i->at_ s 0≠48)/\w=w0) (fun i=>s.length - i) 0 ⟨rfl,rfl,rfl,rfl,rfl,trivial⟩ ⟨Yo _,by decide,fun _ h=>absurd h (by omega),fun h=>absurd h (by omega),hw0⟩ ?_)))))))))));rintro i w ⟨hi,hi5,hok,h0,hw⟩;refine .seq (.q 1 rfl (.seq ?_));refine .cond rfl (fun hb12=>?_) fun hb12=>?_
 ·have hc12:=hb12; simp only [Y6] at hc12;refine .skip (.seq (.block (.seq (.q 2 rfl (.seq (.region (.run 4 rfl ⟨⟨⟨by omega,by omega⟩,Qu9⟩,trivial⟩ (.nil (.seq (.seq (.t 3 rfl (.gm rfl rfl rfl rfl (.gval rfl rfl (fun hg1=>(.gtr (.gd hg1 rfl) (.of rfl))) rfl (.val (.po rfl rfl rfl) rfl (.q 1 rfl (.gm rfl rfl rfl rfl (.gval rfl rfl (fun hg1=>(.eql (.gd hg1 rfl) (.of rfl))) rfl (.gval rfl rfl (fun hg1=>(.move (.gd hg1 rfl))) rfl (.gval2 rfl rfl rfl (fun hg1 hg2=>(.mo rfl)) rfl (.gval2 rfl rfl rfl (fun hg1 hg2=>(.eql (.gd2 hg1 hg2 rfl) (.of rfl))) rfl (.gval rfl rfl (fun hg1=>(.pand (.gd hg1 rfl) (.gd hg1 rfl) (.of rfl))) rfl (.val (.po rfl rfl rfl) rfl (.q 1 rfl (.gm rfl rfl rfl rfl (.gval rfl rfl (fun hg1=>(.gtr (.gd hg1 rfl) (.of rfl))) rfl (.val (.po rfl rfl rfl) rfl (.nil ?_)))))))))))))))))))))))))));refine .cond rfl (fun hb34=>?_) fun hb34=>?_
  ·have hc34:=hb34; simp only [Y6] at hc34;refine .seq (.q 2 rfl (.ret (X1t Xr3 rfl rfl ?_)));have hbad:X1h s=false:=by
    have h:=hb34;rcases Y28.1 h with h | h
    ·rcases Y28.1 h with h | h
     ·rw [X9h] at h;unfold X1h;rw [X5a (p:=X7w) (i:=i) (by omega) (by simpa using h)];rfl
     ·simp only [Yn,beq_iff_eq] at h
      have e0:i=0:=by omega
      subst e0;unfold X1h
      have:s.headD 0=48:=by
       have h2:(at_ s ((0:Nat):Int)).toNat=48:=by omega
       have h3:at_ s ((0:Nat):Int)=48:=Y18.1 h2;cases s with
       | nil=>simp at hc12
       | cons a b=>exact h3
      rw [this]
      simp
    ·simp only [decide_eq_true_eq] at h
     have e5:i=5:=by omega
     have hd0:=hok 0 (by omega) (by omega);unfold X1h;rw [decide_eq_false (show ¬ val s<=65535 from fun hh=>by have:=Xxp s (by omega) hd0 (h0 (by omega)); omega)]
     simp
   refine ⟨_,rfl,?_,hw.symm⟩;rw [if_neg (by rw [Y2q]; exact hbad)]
  have hc34:=hb34; simp only [Y6] at hc34;refine .skip ?_;have hbyte:=(at_ s (i:Int)).toNat_lt;have hnb:¬ (((decide (((at_ s (i:Int)).toNat:Int)<48) || decide (57<((at_ s (i:Int)).toNat:Int))) || ((i:Int) == 0) && (((at_ s (i:Int)).toNat:Int) == 48)) || decide (4<(i:Int)))=true:=by rw [hb34]; decide
  have hdig:X7w (at_ s (i:Int))=true:=by
   cases hd:X7w (at_ s (i:Int)) with
   | true=>rfl
   | false=>exact absurd (by rw [X9h,hd]; rfl) hnb
  have hrg:48<=(at_ s (i:Int)).toNat/\(at_ s (i:Int)).toNat<=57:=by
   have:=hdig
   simp only [X7w,Yn,decide_eq_true_eq,Y1o] at this
   have e1:(48:UInt8).toNat=48:=rfl;have e2:(57:UInt8).toNat=57:=rfl;rw [e1,e2] at this; exact this
  have hi4:i<=4:=by
   rcases Yp 4 i with h | h
   ·exact absurd (by rw [decide_eq_true (show 4<(i:Int) by omega),Bool.or_true]) hnb
   ·exact h
  have hh0:i=0->(at_ s (i:Int)).toNat≠48:=fun e h=>absurd (by
   rw [show ((i:Int) == 0)=true by simp [e],show (((at_ s (i:Int)).toNat:Int) == 48)=true by simp [h]]; simp) hnb
  have hv4:=Xq6 s i hi4 hok;refine .region (.run 3 rfl ⟨⟨by omega,by omega⟩,trivial⟩ ?_);refine .val (.subx (.of rfl) (.of rfl) (by rw [IntKind.wrap_u8]; omega)) rfl (.val (.cvi (.of rfl) Qu5 Qu3 (by rw [IntKind.wrap_i64]; omega)) rfl (.run 2 rfl ⟨⟨by omega,by omega⟩,trivial⟩ (.nil (.region (.run 2 rfl ⟨⟨by omega,by omega⟩,trivial⟩ (.nil ?_))))));refine ⟨i+1,⟨rfl,rfl,?_,rfl,rfl,trivial⟩,⟨by omega,by omega,fun j hj hjl=>?_,fun _=>?_,hw⟩,by omega⟩
  ·rw [X4r s i (by omega)];show some _=some _
   congr 3
   omega
  ·rcases Yp j i with h1 | h1
   ·exact hok j h1 hjl
   ·have e:j=i:=by omega
    rw [e]; exact hdig
  ·rcases Y1v i with e | e
   ·subst e;intro h;exact hh0 rfl (by show (at_ s ((0:Nat):Int)).toNat=48; rw [show ((0:Nat):Int)=0 from rfl,h]; rfl)
   ·exact h0 e
 have hc12:=hb12; simp only [Y6] at hc12;refine .exit (.seq (.seq (.t 3 rfl (.gm rfl rfl rfl rfl (.gval rfl rfl (fun hg1=>(.gtr (.gd hg1 rfl) (.of rfl))) rfl (.val (.po rfl rfl rfl) rfl (.nil ?_)))))));refine .cond rfl (fun hb47=>?_) fun hb47=>?_
 ·have hc47:=hb47; simp only [Y6] at hc47;refine .seq (.q 2 rfl (.ret (X1t Xr3 rfl rfl ?_)));have hlen:s.length=i:=by omega
  rw [<- hlen,Y15] at hb47;have hbad:X1h s=false:=by
   unfold X1h;rcases Y28.1 hb47 with h | h
   ·simp only [decide_eq_true_eq] at h
    rw [decide_eq_false (show ¬ 1<=val s by omega)]; simp
   ·simp only [decide_eq_true_eq] at h
    rw [decide_eq_false (show ¬ val s<=65535 by omega)]; simp
  refine ⟨_,rfl,?_,hw.symm⟩;rw [if_neg (by rw [Y2q]; exact hbad)]
 have hc47:=hb47; simp only [Y6] at hc47;refine .skip (.seq (.seq (.t 2 rfl (.call Tryz.func252 rfl (ec9 rfl X0) rfl (Xwy sch _) ?_))));rintro _ w ⟨rfl,hw1⟩;rw [hw] at hw1;refine .q 1 rfl (.nil ?_);refine .cond rfl (fun hb51=>?_) fun hb51=>?_
 ·have hc51:=hb51; simp only [Y6] at hc51;refine .q 1 rfl (.seq (.q 3 rfl (.ret (X1t Xr3 rfl rfl ?_))));have hlen:s.length=i:=by omega
  have hb47':=hb47;rw [<- hlen,Y15] at hb47';have hgood:X1h s=true:=by
   unfold X1h;obtain ⟨h1,h2⟩:=Y10.1 hb47';simp only [decide_eq_false_iff_not] at h1 h2
   have hne:s≠[]:=fun e=>by rw [e] at h1; simp [val] at h1
   have hp:0<s.length:=Y20.2 hne;rw [X69 hok (by omega),decide_eq_true (show 1<=val s by omega),decide_eq_true (show val s<=65535 by omega)]
   have:=h0 (by omega)
   have e:s.headD 0=at_ s 0:=by cases s with | nil=>exact absurd rfl hne | cons a b=>rfl
   rw [e];simp [this]
  refine ⟨_,rfl,?_,hw1⟩;rw [if_pos hgood,X6q];have hb51':=hb51;rw [<- hlen,Y15] at hb51';rw [if_pos (by simp only [beq_iff_eq] at hb51'; omega)]; rfl
 have hc51:=hb51; simp only [Y6] at hc51;refine .skip (.seq (.q 3 rfl (.ret (X1t Xr3 rfl rfl ?_))));have hlen:s.length=i:=by omega
 have hb47':=hb47;rw [<- hlen,Y15] at hb47';have hgood:X1h s=true:=by
  unfold X1h;obtain ⟨h1,h2⟩:=Y10.1 hb47';simp only [decide_eq_false_iff_not] at h1 h2
  have hne:s≠[]:=fun e=>by rw [e] at h1; simp [val] at h1
  have hp:0<s.length:=Y20.2 hne;rw [X69 hok (by omega),decide_eq_true (show 1<=val s by omega),decide_eq_true (show val s<=65535 by omega)]
  have:=h0 (by omega)
  have e:s.headD 0=at_ s 0:=by cases s with | nil=>exact absurd rfl hne | cons a b=>rfl
  rw [e];simp [this]
 refine ⟨_,rfl,?_,hw1⟩;rw [if_pos hgood,X6q];have hb51':=hb51;rw [<- hlen,Y15] at hb51';rw [if_neg (by simp only [beq_eq_false_iff_ne] at hb51'; omega),<- hlen,Y15]
theorem Xkj (n:Int) (w:World) :
  Cz 234 [I64 n] w fun v w'=>v=.bool (decide (8<n))/\w=w':=by
 refine calls Tryz.func234 rfl Tryz.ntmps234 rfl (.seq (.q 1 rfl (.seq (.q 3 rfl (.ret (Xc Tryz.results234 rfl ?_))))));exact ⟨_,rfl,rfl,rfl⟩
theorem Xcy (r:Int) (w:World):Calls Tryz.prog 263 [.int .i32 r].toArray w (Ret fun v w'=>v=.bool (Go.Lib.validRune r)/\w=w') :=
 (Tryz.utf8_ValidRune r w).mono fun e w' he=>by
  obtain ⟨rfl,rfl⟩:=he;exact ⟨_,rfl,rfl,rfl⟩
theorem Xee (cs:List UInt8) (hca:Asc cs) (hl:cs.length<=1000) (r:Int) (h0:128<=r) (h1:r<=1114111) (B w:World) (I:Im) (As:List X7) (hS:Sat B w I As) :
  Cz 233 [S cs,.int .i32 r] w fun v w'=>v=I64 (-1)/\Sat B w' I As:=by
 refine calls Qf233 rfl Tryz.ntmps233 rfl (.seq (.q 1 rfl (.block (.seq (.t 3 rfl (.gm rfl rfl rfl rfl (.gval rfl rfl (fun hg1=>(.lss (.gd hg1 rfl) (.of rfl))) rfl (.val (.pa rfl rfl rfl) rfl (.q 1 rfl (.nil ?_))))))))));refine .cond rfl (fun hb160=>by exfalso; simp only [Y6] at hb160; omega) (fun hb160=>?_);have hc160:=hb160; simp only [Y6] at hc160;refine .seq (.q 3 rfl ?_);refine .cond rfl (fun hb171=>?_) fun hb171=>?_
 ·refine .seq (.seq (.t 1 rfl (.range (s:=cs) hS (.of rfl) Qu9 rfl ?_)));intro b175 w hS;refine .nil (.block (.loop (σ:=Nat) (fun i=>[(175,ptr b175 0)]) (fun i w=>i<=cs.length/\Sat B w I (own b175 (.stringIter ⟨cs.toArray⟩ i)::As)) (fun i=>cs.length - i) 0 ⟨rfl,trivial⟩ ⟨Yo _,hS⟩ ?_));rintro i w ⟨hi,hS⟩;refine .seq (.region ?_);refine .next (i:=i) hS (k:=0) rfl (.of rfl) rfl (fun hn=>?_) (fun hn=>?_)
  ·refine .q 1 rfl (.nil (.seq (.condF (rfl) (.exit (.seq (.q 1 rfl (.ret (Xc Xr4 rfl ?_))))))));exact ⟨_,rfl,rfl,hS.y 0 1⟩
  ·rw [Xa9 cs i hn (hca i _ (Xy hn))];have hb7:=hca i _ (Xy hn);intro w hS;refine .q 1 rfl (.nil (.seq (.condT (rfl) (.skip (.block (.seq (.q 4 rfl (.seq (.q 2 rfl ?_)))))))));refine .cond rfl (fun hb181=>by exfalso; simp only [Y6] at hb181; omega) (fun hb181=>?_);refine .skip ?_;exact ⟨i+1,⟨rfl,trivial⟩,⟨by omega,hS⟩,by omega⟩
 have hc171:=hb171; simp only [Y6] at hc171;refine .seq (.t 1 rfl (.call Qf263 rfl (ec9 rfl X0) rfl (Xcy r _) ?_));rintro _ _ ⟨rfl,rfl⟩;refine .q 2 rfl (.nil ?_);refine .cond rfl (fun hb183=>?_) fun hb183=>?_
 ·refine .seq (.q 1 rfl (.ret (Xc Xr4 rfl ?_)));exact ⟨_,rfl,rfl,hS⟩
 have hc183:=hb183; simp only [Y6] at hc183;refine .scope (.seq ?_);have hvv:Go.Utf8.valid r=true:=Xtv r (by simpa using hb183);obtain ⟨he2,he4,heb⟩:=Xo7 r hvv h0;refine .t 1 rfl ?_;refine .val (.runeStr (.of rfl) (by rw [Xvi]; rfl) Qu9) rfl ?_;refine .q 1 rfl (.nil (.seq (.region (.run 4 rfl ⟨Qu9,⟨by omega,by omega⟩,trivial⟩ (.nil (.seq (.q 2 rfl (.seq (.q 1 rfl (.seq (.block (.loop (σ:=Unit) (fun _=>[(0,S cs),(7,S (Xbu r)),(8,I64 ((((Xbu r).length:Nat):Int) - 1)),(9,I64 ((((Xbu r).length:Nat):Int) - 1))]) (fun _ w=>Sat B w I As) (fun _=>0) () ⟨rfl,rfl,rfl,rfl,trivial⟩ hS ?_))))))))))));rintro _ w hS;refine .seq (.seq (.region (.run 4 rfl ⟨Qu9,trivial⟩ (.nil ?_))));refine .cond rfl (fun hb26=>?_) fun hb26=>?_
 ·have hc26:=hb26; simp only [Y6] at hc26;refine .skip (.block (.scope (.seq (.seq ?_))));have hA:(at_ cs ((((Xbu r).length:Nat):Int) - 1)).toNat<128:=hca ((((Xbu r).length:Nat):Int) - 1).toNat _ (by rw [at_,Y8,Y4 (by omega)]; rfl);refine .qt hS (.val (fun w hS=>(.mo rfl)) rfl (.val (fun w hS=>(.mo rfl)) rfl (.val (fun w hS=>(.index (.of rfl) (.of rfl) (by omega) (by omega) Qu9)) rfl (.val (fun w hS=>(.mo rfl)) rfl (.val (fun w hS=>(.mo rfl)) rfl (.val (fun w hS=>(.index (.of rfl) (.of rfl) (by omega) (by omega) Qu9)) rfl (.val (fun w hS=>(.neq (.of rfl) (.of rfl))) rfl (.nil ?_))))))));intro w hS;refine .cond rfl (fun hb33=>?_) (fun hb33=>by exfalso; simp only [Y6] at hb33; omega);have hc33:=hb33; simp only [Y6] at hc33;refine .seq (.qt hS (.val (fun w hS=>(.mo rfl)) rfl (.val (fun w hS=>(.mo rfl)) rfl (.val (fun w hS=>(.add (.of rfl) (.of rfl) ⟨by omega,by omega⟩)) rfl (.val (fun w hS=>(.subFrom (.of rfl) (.of rfl) (by omega) (by omega) Qu9)) rfl (.val (fun w hS=>(.mo rfl)) rfl (.val (fun w hS=>(.mo rfl)) rfl (.val (fun w hS=>(.index (.of rfl) (.of rfl) (by omega) (by omega) Qu9)) rfl (.call Qf229 rfl (ec9 rfl (ec9 rfl X0)) rfl (fun w hS=>X4m (X4d _ (at_ (Xbu r) ((((Xbu r).length:Nat):Int) - 1)) w) hS) (.val (fun w hS=>(.ao rfl)) rfl (.nil ?_)))))))))));intro w hS;refine .seq (.seq ?_);have hN:=Xfj (l:=cs.drop ((((Xbu r).length:Nat):Int) - 1+1).toNat) (c:=at_ (Xbu r) ((((Xbu r).length:Nat):Int) - 1)) heb (fun j b h=>by rw [Y1d] at h; exact hca _ _ h);refine .q 2 rfl ?_;refine .cond rfl (fun hb43=>?_) (fun hb43=>by exfalso; simp only [Y6] at hb43; omega);refine .seq (.q 1 rfl (.ret (Xc Xr4 rfl ?_)));exact ⟨_,rfl,rfl,hS⟩
 refine .exit (.seq (.seq (.q 1 rfl (.ret (Xc Xr4 rfl ?_)))));exact ⟨_,rfl,rfl,hS⟩
theorem Xct (cs:List UInt8) (hca:Asc cs) (hl:cs.length<=1000) (r:Nat) (h1:r<=1114111) (B w:World) (I:Im) (As:List X7) (hS:Sat B w I As):Calls Tryz.prog 233 [S cs,.int .i32 r].toArray w (Ret fun v w'=>v=I64 (if r<128 then Go.Lib.indexByte cs (UInt8.ofNat r) else -1)/\Sat B w' I As):=by
 rcases Yp r 128 with h | h
 ·refine (Tryz.strings_IndexRune_ascii ⟨cs.toArray⟩ r w (by omega) (by omega)).mono fun e w' he=>?_
  obtain ⟨rfl,rfl⟩:=he;refine ⟨_,rfl,?_,hS⟩;rw [if_pos h]
  simp
 ·rw [if_neg (by omega)];exact Xee cs hca hl r (by omega) (by omega) B w I As hS
theorem Xed (s cs:List UInt8) (hca:Asc cs) (hl:cs.length<=1000) (h2:2<=cs.length) (h8:s.length<=8) (hne:(cs == [])=false) (B w:World) (I:Im) (As:List X7) (hS:Sat B w I As) :
  Cz 191 [S s,S cs] w fun v w'=>v=I64 (Go.Lib.indexAny s cs)/\Sat B w' I As:=by
 refine calls Qf191 rfl Tryz.ntmps191 rfl (.seq (.q 1 rfl (.seq (.seq (.q 2 rfl ?_)))));refine .condF (by show some (Value.bool (cs == []))=_; rw [hne]) ?_;refine .skip (.seq (.seq (.region (.run 3 rfl ⟨Qu9,trivial⟩ (.nil ?_)))));refine .cond rfl (fun hb15=>by exfalso; simp only [Y6] at hb15; omega) (fun hb15=>?_);have hc15:=hb15; simp only [Y6] at hc15;refine .skip (.seq (.seq (.region (.run 2 rfl ⟨Qu9,trivial⟩ (.call Tryz.func234 rfl (ec9 rfl X0) rfl (Xkj _ _) ?_)))));rintro _ _ ⟨rfl,rfl⟩;refine .nil ?_;refine .cond rfl (fun hb26=>by exfalso; simp only [Y6] at hb26; omega) (fun hb26=>?_);have hc26:=hb26; simp only [Y6] at hc26;refine .skip (.seq (.seq (.t 1 rfl (.range (s:=s) hS (.of rfl) Qu9 rfl ?_))));intro b45 w hS;refine .nil (.block (.loop (σ:=Nat) (fun i=>[(1,S cs),(45,ptr b45 0)]) (fun i w=>i<=s.length/\Go.Lib.NoAny s cs i/\Sat B w I (own b45 (.stringIter ⟨s.toArray⟩ i)::As)) (fun i=>s.length - i) 0 ⟨rfl,rfl,trivial⟩ ⟨Yo _,Go.Lib.NoAny.zero _ _,hS⟩ ?_));rintro i w ⟨hi,hno,hS⟩;refine .seq (.region ?_);refine .next (i:=i) hS (k:=0) rfl (.of rfl) rfl (fun hn=>?_) (fun hn=>?_)
 ·refine .q 1 rfl (.nil (.seq (.condF (rfl) (.exit (.seq (.q 1 rfl (.ret (Xc Tryz.results191 rfl ?_))))))));exact ⟨_,rfl,by rw [Go.Lib.indexAny_none (by rw [show s.length=i by omega]; exact hno)],hS.y 0 1⟩
 ·intro w hS;refine .q 1 rfl (.nil (.seq (.condT (rfl) (.skip (.block (.seq ?_))))));have hdm:(Go.Utf8.decode ⟨s.toArray⟩ i).1<=1114111:=by
   rcases Yp (at_ s (i:Int)).toNat 128 with h | h
   ·rw [Xa9 s i hn h]; dsimp only; omega
   ·exact (Xf3 s i hn h).2.1
  obtain ⟨hyes,hnot⟩:=Xrk hca hn hno;unfold rv at hyes hnot;refine .q 4 rfl (.seq (.t 2 rfl (.call Qf233 rfl (ec9 rfl (ec9 rfl X0)) rfl (Xct cs hca hl (Go.Utf8.decode ⟨s.toArray⟩ i).1 hdm B _ I _ hS) ?_)));rintro _ w ⟨rfl,hS⟩;refine .q 1 rfl (.nil ?_);refine .cond rfl (fun hb53=>?_) fun hb53=>?_
  ·have hc53:=hb53; simp only [Y6] at hc53;refine .seq (.q 2 rfl (.ret (Xc Tryz.results191 rfl ?_)));refine ⟨_,rfl,?_,hS.y 0 1⟩;rw [hyes (by omega)];rfl
  have hc53:=hb53; simp only [Y6] at hc53;refine .skip ?_;obtain ⟨hn1,hn2,hn3⟩:=hnot (by omega);exact ⟨_,⟨rfl,rfl,trivial⟩,⟨hn2,hn1,hS⟩,by omega⟩
theorem X4x (s cs:List UInt8) (hs:s.length<=1000000) (hca:Asc cs) (hl:cs.length<=1000) (h2:2<=cs.length) (B w:World) (I:Im) (As:List X7) (hS:Sat B w I As):Calls Tryz.prog 191 [S s,S cs].toArray w (Ret fun v w'=>v=I64 (Go.Lib.indexAny s cs)/\Sat B w' I As):=by
 rcases Yp 8 s.length with h | h
 ·refine (Tryz.strings_IndexAny_long (zero_of_info (n:=256) (by kernel_rfl)).1 ⟨s.toArray⟩ ⟨cs.toArray⟩ w h2 h (by show s.length<_; omega) (by show cs.length<_; omega) hca).mono fun e w' he=>?_
  obtain ⟨rfl,rfl⟩:=he;exact ⟨_,rfl,rfl,(((hS.alloc _).alloc _).drop (k:=0) rfl).drop (k:=0) rfl⟩
 ·exact Xed s cs hca hl h2 h (by cases cs with | nil=>simp at h2 | cons a b=>rfl) B w I As hS
theorem Xo2 (s cs:List UInt8) (hs:s.length<=1000000) (hca:Asc cs) (hl:cs.length<=1000) (h2:2<=cs.length) (B w:World) (I:Im) (As:List X7) (hS:Sat B w I As) :
  Cz 216 [S s,S cs] w fun v w'=>v=.tuple #[S (upto cs s),S (X6 cs s)]/\Sat B w' I As:=by
 refine calls Tryz.func216 rfl Tryz.ntmps216 rfl (.seq (.q 2 rfl (.seq (.seq (.t 2 rfl (.call Qf191 rfl (ec9 rfl (ec9 rfl X0)) rfl (X4x s cs hs hca hl h2 B _ I As hS) ?_))))));rintro _ w ⟨rfl,hS⟩;refine .q 1 rfl (.nil (.seq ?_));have hge:=Go.Lib.indexAny_ge cs s;refine .q 2 rfl (.cond rfl (fun hb11=>?_) fun hb11=>?_)
 ·have hc11:=hb11; simp only [Y6] at hc11;refine .seq ?_;obtain ⟨k,hk⟩:∃ k:Nat,Go.Lib.indexAny s cs=k:=⟨(Go.Lib.indexAny s cs).toNat,by omega⟩
  obtain ⟨hc1,hc2,hc3⟩:=Xa7 hk;rw [hk];refine .qt hS (.val (fun w hS=>(.mo rfl)) rfl (.val (fun w hS=>(.mo rfl)) rfl (.val (fun w hS=>(.subTo (.of rfl) (.of rfl) (by omega) (by omega) Qu9)) rfl (.val (fun w hS=>(.mo rfl)) rfl (.val (fun w hS=>(.mo rfl)) rfl (.val (fun w hS=>(.subFrom (.of rfl) (.of rfl) (by omega) (by omega) Qu9)) rfl (.val (fun w hS=>(.ao rfl)) rfl (.val (fun w hS=>(.ao rfl)) rfl (.nil ?_)))))))));intro w hS;refine .ret (X1t Tryz.results216 rfl rfl ?_);exact ⟨_,rfl,by rw [hc1,hc2,Yf],hS⟩
 have hc11:=hb11; simp only [Y6] at hc11;refine .skip (.seq (.q 3 rfl (.ret (X1t Tryz.results216 rfl rfl ?_))));obtain ⟨hc1,hc2⟩:=X74 (s:=s) (ats:=cs) (by omega);exact ⟨_,rfl,by rw [hc1,hc2],hS⟩
theorem Xp9 (s:List UInt8) (hl:s.length<=1000000) (B w:World) (I:Im) (hd:DigAt I) (As:List X7) (hS:Sat B w I As):Calls Tryz.prog 254 [S s].toArray w (Ret fun v w'=>∃ n1 e1,v=.tuple #[S n1,I64 e1]/\(match X4c s with | none=>n1=[]/\e1=11 | some t=>n1=t/\e1=0)/\Sat B w' I As) :=
 (Xho s hl B w I hd As hS).mono fun e w' he=>by
  obtain ⟨v,rfl,rfl,h⟩:=he;cases X4c s with
  | none=>exact ⟨_,rfl,_,_,rfl,⟨rfl,rfl⟩,h⟩
  | some t=>exact ⟨_,rfl,_,_,rfl,⟨rfl,rfl⟩,h⟩
theorem Xlg (s:List UInt8) (hl:s.length<=1000000) (B w:World) (I:Im) (hd:DigAt I) (As:List X7) (hS:Sat B w I As) :
  Cz 219 [S s] w fun v w'=>v=(match X22 s with | none=>.tuple #[S [],I64 15] | some t=>.tuple #[S t,I64 0])/\Sat B w' I As:=by
 refine calls Tryz.func219 rfl Tryz.ntmps219 rfl (.seq (.q 2 rfl (.seq (.seq (.t 1 rfl (.call Tryz.func253 rfl (ec9 rfl X0) rfl (Xlx s hl _) ?_))))));rintro _ _ ⟨rfl,rfl⟩;refine .q 1 rfl (.nil ?_);refine .cond rfl (fun hb8=>?_) fun hb8=>?_
 ·have hc8:=hb8; simp only [Y6] at hc8;refine .seq (.q 2 rfl (.ret (X1t Xva rfl rfl ?_)));exact ⟨_,rfl,by rw [X22,if_neg (by rw [hc8]; decide)],hS⟩
 have hc8:=hb8; simp only [Y6] at hc8;refine .skip (.seq (.t 1 rfl (.call Tryz.func254 rfl (ec9 rfl X0) rfl (Xp9 s hl B _ I hd As hS) ?_)));rintro _ w ⟨n1,e1,rfl,hne,hS⟩;refine .q 5 rfl (.nil (.seq (.seq (.q 2 rfl ?_))));refine .cond rfl (fun hb15=>?_) fun hb15=>?_
 ·have hc15:=hb15; simp only [Y6] at hc15;refine .seq (.q 2 rfl (.ret (X1t Xva rfl rfl ?_)));refine ⟨_,rfl,?_,hS⟩;rw [X22,if_pos hc8];cases hn:X4c s with
  | none=>rfl
  | some t=>rw [hn] at hne; exact absurd hne.2 hc15
 have hc15:=hb15; simp only [Y6] at hc15;refine .skip (.seq (.q 3 rfl (.ret (X1t Xva rfl rfl ?_))));refine ⟨_,rfl,?_,hS⟩;rw [X22,if_pos hc8];cases hn:X4c s with
 | none=>rw [hn] at hne; have:=hne.2; omega
 | some t=>rw [hn] at hne; obtain ⟨rfl,rfl⟩:=hne; rfl
end Go.Proofs.YtbciobiiejpdgaaGreatDoor
namespace Pat
open Go Gk
theorem Xda {α:Type} (enc:α->List Value) (s:Nat) (hs:∀ x,(enc x).length=s):∀ (l:List α) (r:List Value) (i j:Nat) (x:α),l[i]?=some x->j<s->(l.flatMap enc ++ r)[i*s+j]?=(enc x)[j]?
 | [],_,_,_,_,h,_=>by simp at h
 | y::l,r,0,j,x,h,hj=>by
  simp at h
  subst h;simp only [Y2l,Y32,Yc,Yd]
  rw [Yi (by rw [hs]; exact hj)]
 | y::l,r,i+1,j,x,h,hj=>by
  simp only [Y2l,Yd]
  rw [Yt (by rw [hs,Y31]; omega),hs];have e:(i+1)*s+j - s=i*s+j:=by rw [Y31]; omega
  rw [e];exact Xda enc s hs l r i j x (by simpa using h) hj
theorem Xj5 {α:Type} (enc:α->List Value) (s:Nat) (hs:∀ x,(enc x).length=s) (f:α->α) (j:Nat) (v:Value) (hf:∀ x,enc (f x)=(enc x).set j v) (hj:j<s):∀ (l:List α) (r:List Value) (i:Nat),i<l.length->(l.flatMap enc ++ r).set (i*s+j) v=(l.modify i f).flatMap enc ++ r
 | [],_,_,h=>by simp at h
 | y::l,r,0,_=>by
  simp only [Y2l,Y32,Yc,Yd]
  rw [Y42 _ _ (by rw [hs]; exact hj)];simp [hf]
 | y::l,r,i+1,h=>by
  simp only [Y2l,Yd]
  rw [Y2c _ _ (by rw [hs,Y31]; omega),hs];have e:(i+1)*s+j - s=i*s+j:=by rw [Y31]; omega
  rw [e,Xj5 enc s hs f j v hf hj l r i (by simpa using h)]
  simp
theorem X76 {α:Type} (enc:α->List Value) (s:Nat) (hs:∀ x,(enc x).length=s):∀ (l:List α),(l.flatMap enc).length=l.length*s
 | []=>by simp
 | y::l=>by simp only [Y2l,Y0,hs,X76 enc s hs l,List.length_cons,Y31]; omega
abbrev X2g:=Int×Int×Value
abbrev Pl:=Int×Int×List Int
def enc (x:X2g):List Value:=[.int .u8 x.1,.int .u8 x.2.1,x.2.2]
theorem X4i (x:X2g):(enc x).length=3:=rfl
def X66 (P:List X2g) (i:Nat) (v:Value):List X2g:=P.modify i fun x=>(x.1,x.2.1,v)
def Xz (Q:List Pl) (i:Nat) (xs:List Int):List Pl:=Q.modify i fun x=>(x.1,x.2.1,xs)
theorem X7p (P:List X2g) (i:Nat) (v:Value):(X66 P i v).length=P.length:=by simp [X66]
theorem to_get {P:List X2g} {i:Nat} {x:X2g} (h:P[i]?=some x) (r:List Value):(P.flatMap enc ++ r)[0+i*3+2]?=some x.2.2:=by
 rw [Yc,Xda enc 3 X4i P r i 2 x h (by omega)]; rfl
theorem Xuo {P:List X2g} {i:Nat} (h:i<P.length) (r:List Value) (v:Value):(P.flatMap enc ++ r).set (0+i*3+2) v=(X66 P i v).flatMap enc ++ r:=by
 rw [Yc]; exact Xj5 enc 3 X4i (fun x=>(x.1,x.2.1,v)) 2 v (fun _=>rfl) (by omega) P r i h
def IntsI (I:Im) (v:Value) (xs:List Int):Prop:=(xs=[]->v=.slice none 0 0)/\∃ a c,v=.slice a xs.length c/\xs.length<=c/\RS I a 1 xs.length (xs.map I64)
theorem IntsI.mono {I J:Im} {v:Value} {xs:List Int} (h:IntsI I v xs) (hl:Le I J):IntsI J v xs:=let ⟨h0,a,c,e,hc,hr⟩:=h; ⟨h0,a,c,e,hc,hr.mono hl⟩
theorem IntsI.nil (I:Im):IntsI I (.slice none 0 0) []:=⟨fun _=>rfl,none,0,rfl,Yq _,RS.nil I 1⟩
def RelP (I:Im) (P:List X2g) (Q:List Pl):Prop:=P.length=Q.length/\∀ (i:Nat) (p:X2g) (q:Pl),P[i]?=some p->Q[i]?=some q->p.1=q.1/\p.2.1=q.2.1/\IntsI I p.2.2 q.2.2
theorem RelP.mono {I J:Im} {P:List X2g} {Q:List Pl} (h:RelP I P Q) (hl:Le I J):RelP J P Q:=⟨h.1,fun i p q hp hq=>let ⟨a,b,c⟩:=h.2 i p q hp hq; ⟨a,b,c.mono hl⟩⟩
theorem RelP.nil (I:Im):RelP I [] []:=⟨rfl,fun _ _ _ h=>by simp at h⟩
theorem RelP.snoc {I:Im} {P:List X2g} {Q:List Pl} (h:RelP I P Q) (k c:Int) (v:Value) (xs:List Int) (hv:IntsI I v xs):RelP I (P ++ [(k,c,v)]) (Q ++ [(k,c,xs)]):=by
 refine ⟨by simp [h.1],fun i p q hp hq=>?_⟩;rcases Nat.lt_trichotomy i P.length with hi | hi | hi
 ·rw [Yi hi] at hp;rw [Yi (by rw [<- h.1]; exact hi)] at hq;exact h.2 i p q hp hq
 ·subst hi;rw [Yt (Yq _)] at hp;rw [h.1,Yt (Yq _)] at hq;simp at hp hq
  subst hp; subst hq;exact ⟨rfl,rfl,hv⟩
 ·rw [Y1g (by simp; omega)] at hp;cases hp
theorem RelP.set {I:Im} {P:List X2g} {Q:List Pl} (h:RelP I P Q) (i:Nat) (v:Value) (xs:List Int) (hv:IntsI I v xs):RelP I (X66 P i v) (Xz Q i xs):=by
 refine ⟨by simp [X66,Xz,h.1],fun j p q hp hq=>?_⟩;unfold X66 at hp;unfold Xz at hq;rw [Y1m] at hp hq
 by_cases e:i=j
 ·subst e;simp only [if_true] at hp hq
  obtain ⟨p0,hp0,rfl⟩:=Y1f.1 hp;obtain ⟨q0,hq0,rfl⟩:=Y1f.1 hq;obtain ⟨a,b,_⟩:=h.2 i p0 q0 hp0 hq0;exact ⟨a,b,hv⟩
 ·simp only [e,if_false] at hp hq
  exact h.2 j p q (by simpa using hp) (by simpa using hq)
def RelX (I:Im) (o:Nat) (P:List X2g) (Q:List Pl):Prop:=P.length=Q.length/\∀ (i:Nat) (p:X2g) (q:Pl),P[i]?=some p->Q[i]?=some q->p.1=q.1/\p.2.1=q.2.1/\(i≠o->IntsI I p.2.2 q.2.2)
theorem RelX.mono {I J:Im} {o:Nat} {P:List X2g} {Q:List Pl} (h:RelX I o P Q) (hl:Le I J):RelX J o P Q:=⟨h.1,fun i p q hp hq=>let ⟨a,b,c⟩:=h.2 i p q hp hq; ⟨a,b,fun hi=>(c hi).mono hl⟩⟩
theorem RelP.x {I:Im} {P:List X2g} {Q:List Pl} (h:RelP I P Q) (o:Nat):RelX I o P Q:=⟨h.1,fun i p q hp hq=>let ⟨a,b,c⟩:=h.2 i p q hp hq; ⟨a,b,fun _=>c⟩⟩
theorem RelX.setO {I:Im} {o:Nat} {P:List X2g} {Q:List Pl} (h:RelX I o P Q) (v:Value) (xs:List Int):RelX I o (X66 P o v) (Xz Q o xs):=by
 refine ⟨by simp [X66,Xz,h.1],fun j p q hp hq=>?_⟩;unfold X66 at hp;unfold Xz at hq;rw [Y1m] at hp hq
 by_cases e:o=j
 ·subst e;simp only [if_true] at hp hq
  obtain ⟨p0,hp0,rfl⟩:=Y1f.1 hp;obtain ⟨q0,hq0,rfl⟩:=Y1f.1 hq;obtain ⟨a,b,_⟩:=h.2 o p0 q0 hp0 hq0;exact ⟨a,b,fun hi=>absurd rfl hi⟩
 ·simp only [e,if_false] at hp hq
  exact h.2 j p q (by simpa using hp) (by simpa using hq)
theorem RelX.setB {I:Im} {o:Nat} {P:List X2g} {Q:List Pl} (h:RelX I o P Q) (b:Nat) (v:Value) (xs:List Int) (hv:IntsI I v xs):RelX I o (X66 P b v) (Xz Q b xs):=by
 refine ⟨by simp [X66,Xz,h.1],fun j p q hp hq=>?_⟩;unfold X66 at hp;unfold Xz at hq;rw [Y1m] at hp hq
 by_cases e:b=j
 ·subst e;simp only [if_true] at hp hq
  obtain ⟨p0,hp0,rfl⟩:=Y1f.1 hp;obtain ⟨q0,hq0,rfl⟩:=Y1f.1 hq;obtain ⟨a,b,_⟩:=h.2 b p0 q0 hp0 hq0;exact ⟨a,b,fun _=>hv⟩
 ·simp only [e,if_false] at hp hq
  exact h.2 j p q (by simpa using hp) (by simpa using hq)
theorem RelX.back {I:Im} {o:Nat} {P:List X2g} {Q:List Pl} (h:RelX I o P Q) (hv:∀ p q,P[o]?=some p->Q[o]?=some q->IntsI I p.2.2 q.2.2):RelP I P Q :=
 ⟨h.1,fun i p q hp hq=>by
  obtain ⟨a,b,c⟩:=h.2 i p q hp hq;refine ⟨a,b,?_⟩
  by_cases e:i=o
  ·subst e; exact hv p q hp hq
  ·exact c e⟩
def X1m (n:Nat) (o:Nat):List Pl->List Int->List Nat->List Pl
 | Q,_,[]=>Q
 | Q,done,b::r=>X1m n o (Xz (Xz Q o (done ++ [(b:Int)+1])) b [(n:Int)]) (done ++ [(b:Int)+1]) r
theorem X38 (n o:Nat):∀ (r:List Nat) (Q:List Pl) (done:List Int),(X1m n o Q done r).length=Q.length
 | [],_,_=>rfl
 | b::r,Q,done=>by rw [X1m,X38 n o r]; simp [Xz]
theorem Xl6 {B w:World} {I:Im} {As:List X7} {k E:Nat} {v:Value} {xs:List Int} (hS:Sat B w I As) (hk:As[k]?=some (Vec E 1 v xs.length (xs.map I64))) (hn:xs=[]->v=.slice none 0 0):∃ J,Le I J/\IntsI J v xs/\Sat B w J (As.eraseIdx k):=by
 rcases Y1v xs.length with h0 | h0
 ·have hx:xs=[]:=Yj h0;subst hx;obtain ⟨a,c,rfl,hc,_⟩:=hS.vecSlice hk;exact ⟨I,Le.refl I,⟨hn,a,c,rfl,hc,by simp,fun h=>absurd h (by simp)⟩,hS.drop hk⟩
 ·obtain ⟨b,cap,r,rfl,h1,h2,_,_,hSo⟩:=hS.vecOpen hk h0;have hlk:k<As.length:=(Y5.1 hk).1;obtain ⟨J,hJ,hb,hS'⟩:=hSo.freeze (k:=k) (b:=b) (o:=Xl (xs.map I64 ++ r) E) (by simp [hlk,blk]);refine ⟨J,hJ,⟨hn,_,_,rfl,h1,by simp,fun _=>⟨_,rfl,rfl,_,_,_,hb,?_⟩⟩,by simpa [Y3f] using hS'⟩;intro j u hj;have hjl:j<(xs.map I64).length:=(Y5.1 hj).1;simp only [Yc,List.getElem?_toArray]
  rw [Yi hjl];exact hj
abbrev PFr:=Nat×List Nat
def cmpGo:List UInt8->Int->List Pl->List PFr->List Int->Except (Int×Int) (List Pl)
 | [],_,Q,_,ats=>if 0<ats.length then .error (23,ats.getD (ats.length - 1) 0) else .ok (Q ++ [(7,0,[])])
 | c::r,i,Q,stk,ats =>
  if c.toNat=63 then cmpGo r (i+1) (Q ++ [(1,0,[])]) stk ats
  else if c.toNat=42 then (match r with
   | d::r'=>if d.toNat=42 then cmpGo r' (i+2) (Q ++ [(2,0,[])]) stk ats else cmpGo (d::r') (i+1) (Q ++ [(3,0,[])]) stk ats
   | []=>cmpGo [] (i+1) (Q ++ [(3,0,[])]) stk ats)
  else if c.toNat=40 then (if stk.length=4 then .error (24,i) else cmpGo r (i+1) (Q ++ [(4,0,[])]) ((Q.length,[])::stk) (ats ++ [i]))
  else if c.toNat=124 then (match stk with
   | []=>.error (10,i)
   | (o,bs)::rest=>cmpGo r (i+1) (Q ++ [(5,0,[])]) ((o,bs ++ [Q.length])::rest) ats)
  else if c.toNat=41 then (match stk with
   | []=>.error (10,i)
   | (o,bs)::rest=>cmpGo r (i+1) (X1m Q.length o Q [] bs ++ [(6,0,[])]) rest (ats.take rest.length))
  else if c.toNat=92 then (match r with | []=>.error (10,i) | d::r'=>cmpGo r' (i+2) (Q ++ [(0,(d.toNat:Int),[])]) stk ats)
  else cmpGo r (i+1) (Q ++ [(0,(c.toNat:Int),[])]) stk ats
theorem X40 (i:Int) (Q:List Pl) (stk:List PFr) (ats:List Int):cmpGo [] i Q stk ats=if 0<ats.length then .error (23,ats.getD (ats.length - 1) 0) else .ok (Q ++ [(7,0,[])]):=by rw [cmpGo.eq_def]
theorem Xi (c:UInt8) (r:List UInt8) (i:Int) (Q:List Pl) (stk:List PFr) (ats:List Int):cmpGo (c::r) i Q stk ats =
  if c.toNat=63 then cmpGo r (i+1) (Q ++ [(1,0,[])]) stk ats
  else if c.toNat=42 then (match r with
   | d::r'=>if d.toNat=42 then cmpGo r' (i+2) (Q ++ [(2,0,[])]) stk ats else cmpGo (d::r') (i+1) (Q ++ [(3,0,[])]) stk ats
   | []=>cmpGo [] (i+1) (Q ++ [(3,0,[])]) stk ats)
  else if c.toNat=40 then (if stk.length=4 then .error (24,i) else cmpGo r (i+1) (Q ++ [(4,0,[])]) ((Q.length,[])::stk) (ats ++ [i]))
  else if c.toNat=124 then (match stk with
   | []=>.error (10,i)
   | (o,bs)::rest=>cmpGo r (i+1) (Q ++ [(5,0,[])]) ((o,bs ++ [Q.length])::rest) ats)
  else if c.toNat=41 then (match stk with
   | []=>.error (10,i)
   | (o,bs)::rest=>cmpGo r (i+1) (X1m Q.length o Q [] bs ++ [(6,0,[])]) rest (ats.take rest.length))
  else if c.toNat=92 then (match r with | []=>.error (10,i) | d::r'=>cmpGo r' (i+2) (Q ++ [(0,(d.toNat:Int),[])]) stk ats)
  else cmpGo r (i+1) (Q ++ [(0,(c.toNat:Int),[])]) stk ats:=by rw [cmpGo.eq_def]
def cmp (l:List UInt8):Except (Int×Int) (List Pl):=if 200<l.length then .error (2,0) else cmpGo l 0 [] [] []
def Frames (Q:List Pl):Nat->List PFr->Prop
 | _,[]=>True
 | lim,(o,bs)::r=>o<lim/\Q[o]?=some (4,0,[])/\bs.length<=Q.length/\(∀ b∈bs,o<b/\b<Q.length)/\Frames Q o r
theorem Frames.grow {Q Q':List Pl}:∀ {stk:List PFr} {lim lim':Nat},Frames Q lim stk->lim<=lim'->Q.length<=Q'.length->(∀ i,i<lim->Q[i]?=some (4,0,[])->Q'[i]?=some (4,0,[]))->Frames Q' lim' stk
 | [],_,_,_,_,_,_=>trivial
 | (o,bs)::r,lim,lim',⟨h1,h2,h3,h4,h5⟩,hl,hq,hk =>
  ⟨by omega,hk o h1 h2,by omega,fun b hb=>⟨(h4 b hb).1,by have:=(h4 b hb).2; omega⟩,h5.grow (Yq _) hq fun i hi=>hk i (by omega)⟩
theorem Frames.app {Q:List Pl} {stk:List PFr} (h:Frames Q Q.length stk) (x:Pl):Frames (Q ++ [x]) (Q ++ [x]).length stk :=
 h.grow (by simp) (by simp) fun i hi hq=>by rw [Yi hi]; exact hq
theorem Xa5 (n o:Nat):∀ (bs:List Nat) (Q:List Pl) (done:List Int) (i:Nat),i≠o->(∀ b∈bs,b≠i)->(X1m n o Q done bs)[i]?=Q[i]?
 | [],_,_,_,_,_=>rfl
 | b::r,Q,done,i,h,hb=>by
  rw [X1m,Xa5 n o r _ _ i h fun x hx=>hb x (Y30 _ hx)];have hbi:b≠i:=hb b (by simp);simp [Xz,Y1m,hbi,Ne.symm h]
theorem Frames.close {Q:List Pl} {o:Nat} {bs:List Nat} {rest:List PFr} (h:Frames Q Q.length ((o,bs)::rest)) (x:Pl):Frames (X1m Q.length o Q [] bs ++ [x]) (X1m Q.length o Q [] bs ++ [x]).length rest:=by
 obtain ⟨h1,h2,h3,h4,h5⟩:=h;refine h5.grow (by simp [X38]; omega) (by simp [X38]) fun i hi hq=>?_
 rw [Yi (by rw [X38]; omega),Xa5 _ _ _ _ _ _ (by omega) fun b hb=>by have:=(h4 b hb).1; omega];exact hq
def mks (f:PFr):List Int:=(f.1::f.2).map fun (x:Nat)=>(x:Int)
theorem Xjx {st:List (Value×List Int)} {f:PFr} {rest:List PFr} (h:st.map (·.2)=(f::rest).reverse.map mks):∃ st0 mv,st=st0 ++ [(mv,mks f)]/\st0.map (·.2)=rest.reverse.map mks:=by
 have hne:st≠[]:=fun e=>by subst e; simp at h
 have hs:=Y4u hne;rw [<- hs,List.reverse_cons,Yw,Yw] at h;simp only [Y1b,Y3a] at h
 have h2:=List.append_inj' h rfl;refine ⟨st.dropLast,(st.getLast hne).1,?_,h2.1⟩;have h3:(st.getLast hne).2=mks f:=by simpa using h2.2
 rw [<- h3];exact hs.symm
theorem Xki {B w:World} {I:Im} {As:List X7} (hS:Sat B w I As):Sat B w I (SepAll []::As):=by
 obtain ⟨h,hs,hg⟩:=hS;exact ⟨h,⟨[],h,rfl,rfl,hs⟩,hg⟩
def PatI (I:Im) (p:Addr) (Q:List Pl) (n:Nat):Prop:=∃ a c P,At I p [.slice a P.length c,I64 n]/\P.length<=c/\RS I a 3 P.length (P.flatMap enc)/\RelP I P Q
theorem PatI.mono {I J:Im} {p:Addr} {Q:List Pl} {n:Nat} (h:PatI I p Q n) (hl:Le I J):PatI J p Q n:=let ⟨a,c,P,h1,h2,h3,h4⟩:=h; ⟨a,c,P,h1.mono hl,h2,h3.mono hl,h4.mono hl⟩
theorem RelP.nil_of {I:Im} {P:List X2g} {Q:List Pl} (h:RelP I P Q) {o:Nat} {k c:Int} (hq:Q[o]?=some (k,c,[])):P[o]?=some (k,c,.slice none 0 0):=by
 have hlt:o<Q.length:=(Y5.1 hq).1;obtain ⟨⟨p1,p2,p3⟩,hp⟩:∃ p,P[o]?=some p:=⟨_,Y4 (by rw [h.1]; exact hlt)⟩
 obtain ⟨a,b,h0,_⟩:=h.2 o _ _ hp hq;have h1:=h0 rfl;simp only at a b h1
 subst a; subst b; subst h1;exact hp
end Pat
namespace Pat
open Gk
def iter {β:Type} (f:β->Nat->β) (b:β):Nat->β
 | 0=>b
 | k+1=>f (iter f b k) k
def Xg (s p:List UInt8):Bool:=decide ((p.length:Int)<=(s.length:Int)) && (s.take (p.length:Int).toNat == p)
def takes (kind:Int) (own c:UInt8):Bool:=kind == 2 || (kind == 1 && ((c.toNat:Int) != 47)) || (kind == 0 && ((c.toNat:Int) == (own.toNat:Int)))
def Xqg (fr:List Bool) (many:Bool) (out:List Bool) (k:Nat):List Bool:=bif many && fr.getD (k:Int).toNat false then out.set (k:Int).toNat true else out
def Xqh (s:List UInt8) (fr:List Bool) (kind:Int) (own:UInt8) (many:Bool) (o:List Bool) (k:Nat):List Bool :=
 bif decide (0<(k:Int)) && (takes kind own (at_ s ((k:Int) - 1)) && (fr.getD ((k:Int) - 1).toNat false || (many && o.getD ((k:Int) - 1).toNat false))) then o.set (k:Int).toNat true else o
def X54 (s:List UInt8) (fr:List Bool) (kind:Int) (own:UInt8) (many:Bool) (out:List Bool) (k:Nat):List Bool:=Xqh s fr kind own many (Xqg fr many out k) k
def ends (s:List UInt8) (fr:List Bool) (kind:Int) (own:UInt8) (many:Bool):List Bool:=iter (X54 s fr kind own many) (List.replicate (s.length+1) false) (s.length+1)
theorem X6k (fr:List Bool) (many:Bool) (out:List Bool) (k:Nat):(Xqg fr many out k).length=out.length:=by unfold Xqg; cases many && fr.getD (k:Int).toNat false <;> simp
theorem Xh5 (s:List UInt8) (fr:List Bool) (kind:Int) (own:UInt8) (many:Bool) (o:List Bool) (k:Nat):(Xqh s fr kind own many o k).length=o.length:=by
 unfold Xqh; generalize (decide (0<(k:Int)) && _)=c; cases c <;> simp
theorem X2o (s:List UInt8) (fr:List Bool) (kind:Int) (own:UInt8) (many:Bool) (init:List Bool):∀ k,(iter (X54 s fr kind own many) init k).length=init.length
 | 0=>rfl
 | k+1=>by rw [iter,X54,Xh5,X6k,X2o s fr kind own many init k]
theorem Xh6 (s:List UInt8) (fr:List Bool) (kind:Int) (own:UInt8) (many:Bool):(ends s fr kind own many).length=s.length+1:=by
 rw [ends,X2o,Y25]
def chkGo:List UInt8->Int->List Int->Int×Int
 | [],_,o=>if 0<o.length then (23,o.getD (o.length - 1) 0) else (0,0)
 | c::r,i,o =>
  if c.toNat=40 then (if o.length=4 then (24,i) else chkGo r (i+1) (o ++ [i]))
  else if c.toNat=41 then (if o.length=0 then (10,i) else chkGo r (i+1) (o.take (o.length - 1)))
  else if c.toNat=124 then (if o.length=0 then (10,i) else chkGo r (i+1) o)
  else if c.toNat=92 then (match r with | []=>(10,i) | _::r'=>chkGo r' (i+2) o)
  else chkGo r (i+1) o
theorem Xa4 (i:Int) (o:List Int):chkGo [] i o=if 0<o.length then (23,o.getD (o.length - 1) 0) else (0,0):=by rw [chkGo.eq_def]
theorem X1e (c:UInt8) (r:List UInt8) (i:Int) (o:List Int):chkGo (c::r) i o=if c.toNat=40 then (if o.length=4 then (24,i) else chkGo r (i+1) (o ++ [i]))
  else if c.toNat=41 then (if o.length=0 then (10,i) else chkGo r (i+1) (o.take (o.length - 1)))
  else if c.toNat=124 then (if o.length=0 then (10,i) else chkGo r (i+1) o)
  else if c.toNat=92 then (match r with | []=>(10,i) | _::r'=>chkGo r' (i+2) o)
  else chkGo r (i+1) o:=by rw [chkGo.eq_def]
def chk (l:List UInt8):Int×Int:=if 200<l.length then (2,0) else chkGo l 0 []
end Pat
namespace Go.Proofs.YtbciobiiejpdgaaGreatDoor
open Gk Pat
def X45 (E:Nat) (st:List (Value×List Int)):X7:=SepAll (st.map fun x=>Vec E 1 x.1 x.2.length (x.2.map I64))
theorem Xox {o b:Nat} {bs pre r:List Nat} (h:bs=pre ++ b::r) (rm:List Value):(((o::bs).map fun (x:Nat)=>(x:Int)).map I64 ++ rm)[1+(pre.length:Int).toNat*1]?=some (I64 b):=by
 subst h;rw [Yf,Y1n,Yi (by simp; omega)];simp [Y4q 1]
theorem X1g:Tryz.prog.info? 3=some Tryz.t3:=by kernel_rfl
theorem X4l:Tryz.prog.info? 109=some Tryz.t109:=by kernel_rfl
theorem Xhh:Tryz.prog.info? 288=some Tryz.t288:=by kernel_rfl
theorem Xku:Bld Tryz.prog 288 [(0,1),(1,1),(2,1)] [.int .u8 0,.int .u8 0,.slice none 0 0]:=X23 X6h Xrc (fun w=>by simp [go_sem])
theorem X30 (bc n:Nat) (lv sv av:Value) (xs:List Value) (kd b:Int) (B w:World) (I:Im) (F:List X7) (hS:Sat B w I (blk bc [lv,sv,av] 275::Vec 288 3 lv n xs::F)) (hn:n<=1000) :
  Cz 208 [ptr bc 0,.int .u8 kd,.int .u8 b] w fun v w'=>v=.tuple #[]/\∃ lv',Sat B w' I (blk bc [lv',sv,av] 275::Vec 288 3 lv' (n+1) (xs ++ [.int .u8 kd,.int .u8 b,.slice none 0 0])::F):=by
 refine calls X80 rfl Tryz.ntmps208 rfl (.t 3 rfl (.val (.fo 0 rfl X1z rfl rfl X6e rfl) rfl (.val (.lo rfl hS (k:=0) rfl X81 rfl) rfl (.q 2 rfl (.val (.build (cs:=[_,_,_]) (pc9 rfl (pc9 rfl X4)) Xku rfl) rfl (.buildSlice (cs:=[_,_,_]) hS (pc9 rfl X4) X84 X9u Xrc rfl rfl rfl rfl ?_))))));intro b14 w hS;refine .append (size:=3) (bytes:=32) hS (.of rfl) (.of rfl) (k:=1) rfl X84 Xhh rfl rfl rfl rfl rfl rfl rfl ⟨by omega,by unfold maxLen; omega⟩ rfl ?_;intro v15 w hS;obtain ⟨a15,c15,rfl,hcap15,_⟩:=hS.vecSlice (k:=1) (v:=v15) rfl;refine .q 1 rfl (.val (.fo 0 rfl X1z rfl rfl X6e rfl) rfl (.s1 hS (k:=0) rfl rfl rfl rfl X6e (by simp) ?_));intro w hS;refine .nil (X9d Tryz.results208 ?_);exact ⟨_,rfl,rfl,_,hS⟩
theorem Xh1 (bc n:Nat) (lv sv av:Value) (xs:List Value) (st:List (Value×List Int)) (ats:List Int) (at_:Int) (B w:World) (I:Im) (F:List X7) (hS:Sat B w I (blk bc [lv,sv,av] 275::Vec 288 3 lv n xs::Vec 109 1 sv st.length (st.map (·.1))::Vec 3 1 av ats.length (ats.map I64)::X45 3 st::F)) (hn:n<=1000) (hd:st.length<=1000) (hd2:ats.length<=1000) :
  Cz 209 [ptr bc 0,I64 at_] w fun v w'=>v=.tuple #[]/\∃ lv' sv' av' mv,Sat B w' I (blk bc [lv',sv',av'] 275::Vec 288 3 lv' (n+1) (xs ++ [.int .u8 4,.int .u8 0,.slice none 0 0])::Vec 109 1 sv' (st.length+1) (st.map (·.1) ++ [mv])::Vec 3 1 av' (ats.length+1) (ats.map I64 ++ [I64 at_])::X45 3 (st ++ [(mv,[(n:Int)])])::F):=by
 refine calls Tryz.func209 rfl Tryz.ntmps209 rfl (.seq ?_);obtain ⟨la,lc,rfl,hlc,_⟩:=hS.vecSlice (k:=1) rfl;obtain ⟨sa,sc,rfl,hsc,_⟩:=hS.vecSlice (k:=2) rfl;obtain ⟨aa,ac,rfl,hac,_⟩:=hS.vecSlice (k:=3) rfl;refine .dw (fun w=>∃ R,Sat B w I (blk bc [.slice la n lc,.slice sa st.length sc,.slice aa ats.length ac] 275::R)) (fun j=>!([23,26].contains j)) ?_;replace hS:=hS.drew; generalize w.drew=w at hS ⊢;have hH:=(hS.x [0])
 refine .tp 0 rfl (fun w=>(.mo rfl)) (.tp 1 rfl (fun w=>(.mo rfl)) (.tp 2 rfl (fun w=>(.mo rfl)) (.tp 3 rfl (fun w=>(.no rfl)) (.tp 4 rfl (fun w=>(.fo 1 rfl X1z rfl rfl X4z rfl)) (.tk 5 rfl ⟨_,hH⟩ (fun w ⟨R,hS⟩=>(.lo rfl hS (k:=0) rfl Xgn rfl)) (.tp 6 rfl (fun w=>(.mo rfl)) (.tp 7 rfl (fun w=>(.no rfl)) (.tp 8 rfl (fun w=>(.fo 0 rfl X1z rfl rfl X6e rfl)) (.tk 9 rfl ⟨_,hH⟩ (fun w ⟨R,hS⟩=>(.lo rfl hS (k:=0) rfl X81 rfl)) (.tp 10 rfl (fun w=>(.lenSlice (.of rfl) X84)) (.tp 14 rfl (fun w=>(.mo rfl)) (.tp 15 rfl (fun w=>(.no rfl)) (.tp 16 rfl (fun w=>(.fo 2 rfl X1z rfl rfl X1c rfl)) (.tk 17 rfl ⟨_,hH⟩ (fun w ⟨R,hS⟩=>(.lo rfl hS (k:=0) rfl X3i rfl)) (.tp 18 rfl (fun w=>(.mo rfl)) ?_)))))))))))))));refine .branch [11,19] (by kernel_rfl) rfl (WO.cons rfl ?_ (WO.cons rfl ?_ (WO.nil)))
 ·refine .buildSlice (cs:=[_]) hS (pc9 rfl X4) Xf Qs3 Qz3 rfl rfl rfl rfl ?_;intro b15 w hS;refine .nil ?_;clear hH;have hH:=(hS.x [1])
  refine ⟨fun _ _=>⟨_,hH⟩,?_⟩;refine .branch [12,19] (by kernel_rfl) rfl (WO.cons rfl ?_ (WO.cons rfl ?_ (WO.nil)))
  ·refine .buildSlice (cs:=[_]) hS (pc9 rfl X4) X2a X1c Xra rfl rfl rfl rfl ?_;intro b16 w hS;refine .nil ?_;clear hH;have hH:=(hS.x [2])
   refine ⟨fun _ _=>⟨_,hH⟩,?_⟩;refine .branch [13,19] (by kernel_rfl) rfl (WO.cons rfl ?_ (WO.cons rfl ?_ (WO.nil)))
   ·refine .append (size:=1) (bytes:=24) hS (.of rfl) (.of rfl) (k:=3) rfl X2a X4l rfl rfl rfl rfl rfl rfl rfl ⟨by omega,by unfold maxLen; omega⟩ rfl ?_;intro v17 w hS;obtain ⟨a17,c17,rfl,hcap17,_⟩:=hS.vecSlice (k:=3) (v:=v17) rfl;refine .nil ?_;clear hH;have hH:=(hS.x [1])
    refine ⟨fun _ _=>⟨_,hH⟩,?_⟩;refine .b1 19 rfl (.buildSlice (cs:=[_]) hS (pc9 rfl X4) Xf Qs3 Qz3 rfl rfl rfl rfl ?_);intro b23 w hS;refine .nil ?_;clear hH;have hH:=(hS.x [2])
    refine ⟨fun _ _=>⟨_,hH⟩,?_⟩;refine .b1 20 rfl (.append (size:=1) (bytes:=8) hS (.of rfl) (.of rfl) (k:=4) rfl Xf X1g rfl rfl rfl rfl rfl rfl rfl ⟨by omega,by unfold maxLen; omega⟩ rfl ?_);intro v24 w hS;obtain ⟨a24,c24,rfl,hcap24,_⟩:=hS.vecSlice (k:=4) (v:=v24) rfl;refine .nil ?_;clear hH;have hH:=(hS.x [1])
    refine ⟨fun _ _=>⟨_,hH⟩,?_⟩;refine .tp 21 rfl (fun w=>(.no rfl)) (.tp 22 rfl (fun w=>(.fo 1 rfl X1z rfl rfl X4z rfl)) ?_);refine .b1 23 rfl (.s1 hS (k:=1) rfl rfl rfl rfl X4z (by simp) ?_);intro w hS;refine .nil ?_;refine And.intro (by intro h; cases h) ?_;refine .tp 24 rfl (fun w=>(.no rfl)) (.tp 25 rfl (fun w=>(.fo 2 rfl X1z rfl rfl X1c rfl)) ?_);refine .b1 26 rfl (.s1 hS (k:=1) rfl rfl rfl rfl X1c (by simp) ?_);intro w hS;refine .nil ?_;refine And.intro (by intro h; cases h) ?_;refine .dn (.t 1 rfl ?_);replace hS:=hS.vecOf (k:=0) (E:=3) (size:=1) (n:=1) rfl rfl (by unfold maxLen; omega);replace hS:=hS.push (k:=4) rfl;refine .call X80 rfl (ec9 rfl (ec9 rfl (ec9 rfl X0))) rfl (X30 _ _ _ _ _ _ _ _ _ _ _ _ hS (by omega)) ?_;rintro _ w ⟨rfl,lv,hS⟩;refine .nil (X9d Xr2 ?_);replace hS:=hS.say (k:=4) (A':=X45 3 (st ++ [(.slice (some (ad b15 0)) 1 1,[(n:Int)])])) rfl (fun h hh=>by rw [X45,Yw]; exact hh);exact ⟨_,rfl,rfl,_,_,_,_,hS⟩
   ·refine .buildSlice (cs:=[_]) hS (pc9 rfl X4) Xf Qs3 Qz3 rfl rfl rfl rfl ?_;intro b23 w hS;refine .nil ?_;clear hH;have hH:=(hS.x [3])
    refine ⟨fun _ _=>⟨_,hH⟩,?_⟩;refine .b1 13 rfl ?_;replace hS:=hS.pick 1 rfl;refine .append (size:=1) (bytes:=24) hS (.of rfl) (.of rfl) (k:=4) rfl X2a X4l rfl rfl rfl rfl rfl rfl rfl ⟨by omega,by unfold maxLen; omega⟩ rfl ?_;intro v17 w hS;obtain ⟨a17,c17,rfl,hcap17,_⟩:=hS.vecSlice (k:=4) (v:=v17) rfl;refine .nil ?_;clear hH;have hH:=(hS.x [2])
    refine ⟨fun _ _=>⟨_,hH⟩,?_⟩;refine .b1 20 rfl (.append (size:=1) (bytes:=8) hS (.of rfl) (.of rfl) (k:=4) rfl Xf X1g rfl rfl rfl rfl rfl rfl rfl ⟨by omega,by unfold maxLen; omega⟩ rfl ?_);intro v24 w hS;obtain ⟨a24,c24,rfl,hcap24,_⟩:=hS.vecSlice (k:=4) (v:=v24) rfl;refine .nil ?_;clear hH;have hH:=(hS.x [1])
    refine ⟨fun _ _=>⟨_,hH⟩,?_⟩;refine .tp 21 rfl (fun w=>(.no rfl)) (.tp 22 rfl (fun w=>(.fo 1 rfl X1z rfl rfl X4z rfl)) ?_);refine .b1 23 rfl (.s1 hS (k:=1) rfl rfl rfl rfl X4z (by simp) ?_);intro w hS;refine .nil ?_;refine And.intro (by intro h; cases h) ?_;refine .tp 24 rfl (fun w=>(.no rfl)) (.tp 25 rfl (fun w=>(.fo 2 rfl X1z rfl rfl X1c rfl)) ?_);refine .b1 26 rfl (.s1 hS (k:=1) rfl rfl rfl rfl X1c (by simp) ?_);intro w hS;refine .nil ?_;refine And.intro (by intro h; cases h) ?_;refine .dn (.t 1 rfl ?_);replace hS:=hS.vecOf (k:=0) (E:=3) (size:=1) (n:=1) rfl rfl (by unfold maxLen; omega);replace hS:=hS.push (k:=4) rfl;refine .call X80 rfl (ec9 rfl (ec9 rfl (ec9 rfl X0))) rfl (X30 _ _ _ _ _ _ _ _ _ _ _ _ hS (by omega)) ?_;rintro _ w ⟨rfl,lv,hS⟩;refine .nil (X9d Xr2 ?_);replace hS:=hS.say (k:=4) (A':=X45 3 (st ++ [(.slice (some (ad b15 0)) 1 1,[(n:Int)])])) rfl (fun h hh=>by rw [X45,Yw]; exact hh);exact ⟨_,rfl,rfl,_,_,_,_,hS⟩
  ·refine .buildSlice (cs:=[_]) hS (pc9 rfl X4) Xf Qs3 Qz3 rfl rfl rfl rfl ?_;intro b23 w hS;refine .nil ?_;clear hH;have hH:=(hS.x [2])
   refine ⟨fun _ _=>⟨_,hH⟩,?_⟩;refine .b1 12 rfl (.buildSlice (cs:=[_]) hS (pc9 rfl X4) X2a X1c Xra rfl rfl rfl rfl ?_);intro b16 w hS;refine .nil ?_;clear hH;have hH:=(hS.x [3])
   refine ⟨fun _ _=>⟨_,hH⟩,?_⟩;refine .b1 13 rfl (.append (size:=1) (bytes:=24) hS (.of rfl) (.of rfl) (k:=4) rfl X2a X4l rfl rfl rfl rfl rfl rfl rfl ⟨by omega,by unfold maxLen; omega⟩ rfl ?_);intro v17 w hS;obtain ⟨a17,c17,rfl,hcap17,_⟩:=hS.vecSlice (k:=4) (v:=v17) rfl;refine .nil ?_;clear hH;have hH:=(hS.x [2])
   refine ⟨fun _ _=>⟨_,hH⟩,?_⟩;refine .b1 20 rfl (.append (size:=1) (bytes:=8) hS (.of rfl) (.of rfl) (k:=4) rfl Xf X1g rfl rfl rfl rfl rfl rfl rfl ⟨by omega,by unfold maxLen; omega⟩ rfl ?_);intro v24 w hS;obtain ⟨a24,c24,rfl,hcap24,_⟩:=hS.vecSlice (k:=4) (v:=v24) rfl;refine .nil ?_;clear hH;have hH:=(hS.x [1])
   refine ⟨fun _ _=>⟨_,hH⟩,?_⟩;refine .tp 21 rfl (fun w=>(.no rfl)) (.tp 22 rfl (fun w=>(.fo 1 rfl X1z rfl rfl X4z rfl)) ?_);refine .b1 23 rfl (.s1 hS (k:=1) rfl rfl rfl rfl X4z (by simp) ?_);intro w hS;refine .nil ?_;refine And.intro (by intro h; cases h) ?_;refine .tp 24 rfl (fun w=>(.no rfl)) (.tp 25 rfl (fun w=>(.fo 2 rfl X1z rfl rfl X1c rfl)) ?_);refine .b1 26 rfl (.s1 hS (k:=1) rfl rfl rfl rfl X1c (by simp) ?_);intro w hS;refine .nil ?_;refine And.intro (by intro h; cases h) ?_;refine .dn (.t 1 rfl ?_);replace hS:=hS.vecOf (k:=0) (E:=3) (size:=1) (n:=1) rfl rfl (by unfold maxLen; omega);replace hS:=hS.push (k:=4) rfl;refine .call X80 rfl (ec9 rfl (ec9 rfl (ec9 rfl X0))) rfl (X30 _ _ _ _ _ _ _ _ _ _ _ _ hS (by omega)) ?_;rintro _ w ⟨rfl,lv,hS⟩;refine .nil (X9d Xr2 ?_);replace hS:=hS.say (k:=4) (A':=X45 3 (st ++ [(.slice (some (ad b15 0)) 1 1,[(n:Int)])])) rfl (fun h hh=>by rw [X45,Yw]; exact hh);exact ⟨_,rfl,rfl,_,_,_,_,hS⟩
 ·refine .buildSlice (cs:=[_]) hS (pc9 rfl X4) Xf Qs3 Qz3 rfl rfl rfl rfl ?_;intro b23 w hS;refine .nil ?_;clear hH;have hH:=(hS.x [1])
  refine ⟨fun _ _=>⟨_,hH⟩,?_⟩;refine .b1 11 rfl (.buildSlice (cs:=[_]) hS (pc9 rfl X4) Xf Qs3 Qz3 rfl rfl rfl rfl ?_);intro b15 w hS;refine .nil ?_;clear hH;have hH:=(hS.x [2])
  refine ⟨fun _ _=>⟨_,hH⟩,?_⟩;refine .b1 12 rfl (.buildSlice (cs:=[_]) hS (pc9 rfl X4) X2a X1c Xra rfl rfl rfl rfl ?_);intro b16 w hS;refine .nil ?_;clear hH;have hH:=(hS.x [3])
  refine ⟨fun _ _=>⟨_,hH⟩,?_⟩;refine .b1 13 rfl (.append (size:=1) (bytes:=24) hS (.of rfl) (.of rfl) (k:=4) rfl X2a X4l rfl rfl rfl rfl rfl rfl rfl ⟨by omega,by unfold maxLen; omega⟩ rfl ?_);intro v17 w hS;obtain ⟨a17,c17,rfl,hcap17,_⟩:=hS.vecSlice (k:=4) (v:=v17) rfl;refine .nil ?_;clear hH;have hH:=(hS.x [2])
  refine ⟨fun _ _=>⟨_,hH⟩,?_⟩;refine .b1 20 rfl ?_;replace hS:=hS.pick 1 rfl;refine .append (size:=1) (bytes:=8) hS (.of rfl) (.of rfl) (k:=4) rfl Xf X1g rfl rfl rfl rfl rfl rfl rfl ⟨by omega,by unfold maxLen; omega⟩ rfl ?_;intro v24 w hS;obtain ⟨a24,c24,rfl,hcap24,_⟩:=hS.vecSlice (k:=4) (v:=v24) rfl;refine .nil ?_;clear hH;have hH:=(hS.x [1])
  refine ⟨fun _ _=>⟨_,hH⟩,?_⟩;refine .tp 21 rfl (fun w=>(.no rfl)) (.tp 22 rfl (fun w=>(.fo 1 rfl X1z rfl rfl X4z rfl)) ?_);refine .b1 23 rfl (.s1 hS (k:=1) rfl rfl rfl rfl X4z (by simp) ?_);intro w hS;refine .nil ?_;refine And.intro (by intro h; cases h) ?_;refine .tp 24 rfl (fun w=>(.no rfl)) (.tp 25 rfl (fun w=>(.fo 2 rfl X1z rfl rfl X1c rfl)) ?_);refine .b1 26 rfl (.s1 hS (k:=1) rfl rfl rfl rfl X1c (by simp) ?_);intro w hS;refine .nil ?_;refine And.intro (by intro h; cases h) ?_;refine .dn (.t 1 rfl ?_);replace hS:=hS.vecOf (k:=0) (E:=3) (size:=1) (n:=1) rfl rfl (by unfold maxLen; omega);replace hS:=hS.push (k:=4) rfl;refine .call X80 rfl (ec9 rfl (ec9 rfl (ec9 rfl X0))) rfl (X30 _ _ _ _ _ _ _ _ _ _ _ _ hS (by omega)) ?_;rintro _ w ⟨rfl,lv,hS⟩;refine .nil (X9d Xr2 ?_);replace hS:=hS.say (k:=4) (A':=X45 3 (st ++ [(.slice (some (ad b15 0)) 1 1,[(n:Int)])])) rfl (fun h hh=>by rw [X45,Yw]; exact hh);exact ⟨_,rfl,rfl,_,_,_,_,hS⟩
theorem Xny (bc:Nat) (lv sv av mv:Value) (P0:List X2g) (Q0:List Pl) (st:List (Value×List Int)) (o:Nat) (bs:List Nat) (ats:List Int) (B w:World) (I:Im) (F:List X7)
  (hS:Sat B w I (blk bc [lv,sv,av] 275::Vec 288 3 lv P0.length (P0.flatMap enc)::Vec 109 1 sv (st.length+1) (st.map (·.1) ++ [mv])::Vec 3 1 av ats.length (ats.map I64)::X45 3 (st ++ [(mv,(o::bs).map fun (x:Nat)=>(x:Int))])::F))
  (hR:RelP I P0 Q0) (hob:∀ b∈bs,b≠o/\b<P0.length) (ho:o<P0.length) (ko co:Int) (hPo:P0[o]?=some (ko,co,.slice none 0 0)) (hQo:Q0[o]?=some (ko,co,[])) (hn:P0.length<=1000) (hd:st.length<=1000) (hd2:ats.length=st.length+1) (hbl:bs.length<=1000) :
  Calls Tryz.prog 210 [ptr bc 0].toArray w (Ret fun v w'=>v=.tuple #[]/\∃ lv' sv' av' P' J,Le I J/\RelP J P' (X1m P0.length o Q0 [] bs ++ [(6,0,[])]) /\
   Sat B w' J (blk bc [lv',sv',av'] 275::Vec 288 3 lv' P'.length (P'.flatMap enc)::Vec 109 1 sv' st.length (st.map (·.1))::Vec 3 1 av' st.length ((ats.take st.length).map I64)::X45 3 st::F)):=by
 refine calls Tryz.func210 rfl Tryz.ntmps210 rfl (.seq ?_);have hcl:=hob;obtain ⟨gl,cl,rl,rfl,hcl1,hcl2,hcl3,hcl4,hS⟩:=hS.vecOpen (k:=1) rfl (by omega);obtain ⟨gs,sc,rs,rfl,hsc1,hsc2,hsc3,hsc4,hS⟩:=hS.vecOpen (k:=2) rfl (by omega);obtain ⟨aa,ac,rfl,hac,_⟩:=hS.vecSlice (k:=3) rfl;refine .t 2 rfl (.val (.fo 1 rfl X1z rfl rfl X4z rfl) rfl (.val (.lo rfl hS (k:=0) rfl Xgn rfl) rfl (.run 1 rfl ⟨⟨_,X2a⟩,trivial⟩ (.val (.sub (.of rfl) (.of rfl) ⟨by omega,by omega⟩) rfl ?_))));rw [show ((st.length+1:Nat):Int) - 1=(st.length:Int) by omega];refine .q 1 rfl (.nil (.seq (.t 2 rfl (.val (.fo 1 rfl X1z rfl rfl X4z rfl) rfl (.val (.lo rfl hS (k:=0) rfl Xgn rfl) rfl (.q 1 rfl (.val (.io rfl rfl (by omega) (by omega) X2a X1c) rfl (.val (.lo rfl hS (k:=2) rfl X3i (v:=mv) (by simp)) rfl (.q 1 rfl (.nil (.seq (.dw (fun w=>∃ R,Sat B w I (blk bc [.slice (some (ad gl 0)) P0.length cl,.slice (some (ad gs 0)) (st.length+1) sc,.slice aa ats.length ac] 275::R)) (fun j=>!([16,19].contains j)) ?_))))))))))));replace hS:=hS.drew; generalize w.drew=w at hS ⊢;have hH:=(hS.x [0])
 refine .tp 0 rfl (fun w=>(.mo rfl)) (.tp 1 rfl (fun w=>(.mo rfl)) (.tp 2 rfl (fun w=>(.mo rfl)) (.tp 3 rfl (fun w=>(.no rfl)) (.tp 4 rfl (fun w=>(.fo 1 rfl X1z rfl rfl X4z rfl)) (.tk 5 rfl ⟨_,hH⟩ (fun w ⟨R,hS⟩=>(.lo rfl hS (k:=0) rfl Xgn rfl)) (.tp 6 rfl (fun w=>(.mo rfl)) (.tp 7 rfl (fun w=>(.slcTo (.of rfl) (.of rfl) (by omega) (by omega) X2a X1c)) (.tp 8 rfl (fun w=>(.mo rfl)) (.tp 9 rfl (fun w=>(.no rfl)) (.tp 10 rfl (fun w=>(.fo 2 rfl X1z rfl rfl X1c rfl)) (.tk 11 rfl ⟨_,hH⟩ (fun w ⟨R,hS⟩=>(.lo rfl hS (k:=0) rfl X3i rfl)) (.tp 12 rfl (fun w=>(.mo rfl)) (.tp 13 rfl (fun w=>(.slcTo (.of rfl) (.of rfl) (by omega) (by omega) Xf Qs3)) (.tp 14 rfl (fun w=>(.no rfl)) (.tp 15 rfl (fun w=>(.fo 1 rfl X1z rfl rfl X4z rfl)) ?_)))))))))))))));refine .b1 16 rfl (.s1 hS (k:=0) rfl rfl rfl rfl X4z (by simp) ?_);intro w hS;refine .nil ?_;refine And.intro (by intro h; cases h) ?_;refine .tp 17 rfl (fun w=>(.no rfl)) (.tp 18 rfl (fun w=>(.fo 2 rfl X1z rfl rfl X1c rfl)) ?_);refine .b1 19 rfl (.s1 hS (k:=0) rfl rfl rfl rfl X1c (by simp) ?_);intro w hS;refine .nil ?_;refine And.intro (by intro h; cases h) ?_;refine .dn (.seq (.seq ?_));replace hS:=hS.vecShut (k:=2) (n:=st.length+1) (cap:=sc) rfl hsc1 hsc2 hsc3 hsc4;replace hS:=hS.vecTake (k:=2) (m:=(st.length:Int).toNat) rfl (by simp);obtain ⟨a2,c2,e2,hS⟩:=hS.vecTakeI (k:=3) (f:=I64) (m:=(st.length:Int).toNat) rfl (by simp; omega);have e3:(st.map (·.1) ++ [mv]).take ((st.length:Int).toNat*1)=st.map (·.1):=by rw [Y1n]; exact List.take_left' (by simp)
 rw [e3] at hS; rw [e2] at hS;have e4:X45 3 (st ++ [(mv,(o::bs).map fun (x:Nat)=>(x:Int))])=SepAll ((st.map fun x=>Vec 3 1 x.1 x.2.length (x.2.map I64)) ++ [Vec 3 1 mv ((o::bs).map fun (x:Nat)=>(x:Int)).length (((o::bs).map fun (x:Nat)=>(x:Int)).map I64)]):=by rw [X45,Yw]; rfl
 rw [e4] at hS;replace hS:=hS.pop (k:=4) rfl;obtain ⟨gm,cm,rm,hmv,hcm1,hcm2,hcm3,hcm4,hT⟩:=hS.vecOpen (k:=0) rfl (by simp);have hml:((o::bs).map fun (x:Nat)=>(x:Int)).length=bs.length+1:=by simp
 rw [hml] at hmv; subst hmv; have hS:=hT; clear hT;generalize sliced (some (ad gs 0)) 0 (st.length:Int).toNat sc 1=sv2 at hS;generalize Value.slice a2 (ats.take (st.length:Int).toNat).length c2=av2 at hS;refine .t 1 rfl (.val (.slcFrom (.of rfl) (.of rfl) (by omega) (by omega) Xf Qs3) rfl ?_);obtain ⟨ao,hao,e38⟩:∃ ao,(0<bs.length->ao=some (ad gm 1))/\sliced (some (ad gm 0)) (1:Int).toNat (bs.length+1) cm 1=.slice ao bs.length (cm - 1):=⟨if cm=1 then some (ad gm 0) else some (ad gm 1),fun h=>if_neg (by omega),by simp [sliced,X15]⟩
 rw [e38];refine .run 2 rfl ⟨⟨_,Xf⟩,trivial⟩ (.nil (.block (.loop (σ:=List Nat×List Nat×List X2g×List Pl×Value×Im) (fun ⟨pre,rem,P,Q,tv,J⟩=>[(0,ptr bc 0),(3,.slice (some (ad gm 0)) (bs.length+1) cm),(38,.slice ao bs.length (cm - 1)),(39,I64 bs.length),(40,I64 pre.length)]) (fun ⟨pre,rem,P,Q,tv,J⟩ w=>bs=pre ++ rem/\Le I J/\RelX J o P Q/\P.length=P0.length/\(∃ k c,P[o]?=some (k,c,tv))/\(∃ k c,Q[o]?=some (k,c,pre.map fun (x:Nat)=>(x:Int)+1))/\(pre=[]->tv=.slice none 0 0)/\X1m P0.length o Q (pre.map fun (x:Nat)=>(x:Int)+1) rem=X1m P0.length o Q0 [] bs/\Sat B w J (Vec 3 1 tv pre.length ((pre.map fun (x:Nat)=>(x:Int)+1).map I64)::blk gm (((o::bs).map fun (x:Nat)=>(x:Int)).map I64 ++ rm) 3::blk bc [.slice (some (ad gl 0)) P0.length cl,sv2,av2] 275::blk gl (P.flatMap enc ++ rl) 288::Vec 109 1 sv2 (st.length:Int).toNat (st.map (·.1))::Vec 3 1 av2 (ats.take (st.length:Int).toNat).length ((ats.take (st.length:Int).toNat).map I64)::X45 3 st::F)) (fun ⟨pre,rem,P,Q,tv,J⟩=>rem.length) ([],bs,P0,Q0,.slice none 0 0,I) ⟨rfl,rfl,rfl,rfl,rfl,trivial⟩ ⟨rfl,Le.refl I,hR.x o,rfl,⟨_,_,hPo⟩,⟨_,_,hQo⟩,fun _=>rfl,rfl,hS.vecNil _ _⟩ ?_)));rintro ⟨pre,rem,P,Q,tv,J⟩ w ⟨hbs,hJ,hX,hPl,⟨ko,co,hPo⟩,⟨kq,cq,hQo⟩,htv,hgo,hS⟩;have hlen:bs.length=pre.length+rem.length:=by rw [hbs,Y0]
 refine .seq (.q 1 rfl (.seq ?_));refine .cond rfl (fun hb41=>?_) fun hb41=>?_
 ·have hc41:=hb41; simp only [Y6] at hc41;refine .skip (.seq (.block (.seq (.region ?_))));obtain ⟨b,r,rfl⟩:∃ b r,rem=b::r:=by
   cases rem with
   | nil=>simp at hlen; omega
   | cons b r=>exact ⟨b,r,rfl⟩
  have hao2:=hao (by omega); subst hao2;have hbo:=(hob b (by rw [hbs]; simp)).1;have hbl2:=(hob b (by rw [hbs]; simp)).2;have hpre:pre.length<=1000:=by omega
  refine .val (.io rfl rfl (by omega) (by omega) Xf Qs3) rfl (.val (.lo rfl hS (k:=1) rfl Qg3 (v:=I64 b) (Xox hbs rm)) rfl (.q 1 rfl (.nil (.seq (.dw (fun w=>∃ R,Sat B w J (blk gm (((o::bs).map fun (x:Nat)=>(x:Int)).map I64 ++ rm) 3::blk bc [.slice (some (ad gl 0)) P0.length cl,sv2,av2] 275::blk gl (P.flatMap enc ++ rl) 288::R)) (fun j=>!([23].contains j)) ?_)))));replace hS:=hS.drew; generalize w.drew=w at hS ⊢;have hH:=(hS.x [3,3,3])
  refine .tp 0 rfl (fun w=>(.mo rfl)) (.tp 1 rfl (fun w=>(.no rfl)) (.tp 2 rfl (fun w=>(.fo 0 rfl X1z rfl rfl X6e rfl)) (.tk 3 rfl ⟨_,hH⟩ (fun w ⟨R,hS⟩=>(.lo rfl hS (k:=1) rfl X81 rfl)) (.tp 4 rfl (fun w=>(.mo rfl)) (.tp 5 rfl (fun w=>(.io rfl rfl (by omega) (by omega) Xf Qs3)) (.tk 6 rfl ⟨_,hH⟩ (fun w ⟨R,hS⟩=>.lo rfl hS (k:=0) rfl Qg3 (v:=I64 (o:Nat)) rfl) (.tp 7 rfl (fun w=>(.mo rfl)) (.tp 8 rfl (fun w=>(.no rfl)) (.tp 9 rfl (fun w=>(.fo 0 rfl X1z rfl rfl X6e rfl)) (.tk 10 rfl ⟨_,hH⟩ (fun w ⟨R,hS⟩=>(.lo rfl hS (k:=1) rfl X81 rfl)) (.tp 11 rfl (fun w=>(.mo rfl)) (.tp 12 rfl (fun w=>(.io rfl rfl (by omega) (by omega) Xf Qs3)) (.tk 13 rfl ⟨_,hH⟩ (fun w ⟨R,hS⟩=>.lo rfl hS (k:=0) rfl Qg3 (v:=I64 (o:Nat)) rfl) (.tp 14 rfl (fun w=>(.io rfl rfl (by omega) (by omega) X84 X9u)) (.tp 15 rfl (fun w=>(.fo 2 rfl X6h rfl rfl X1c rfl)) (.tk 16 rfl ⟨_,hH⟩ (fun w ⟨R,hS⟩=>.lo rfl hS (k:=2) rfl X3i (v:=tv) (to_get hPo rl)) (.tp 17 rfl (fun w=>(.mo rfl)) (.tp 18 rfl (fun w=>(.add (.of rfl) (.of rfl) ⟨by omega,by omega⟩)) ?_))))))))))))))))));refine .b1 19 rfl (.buildSlice (cs:=[_]) hS (pc9 rfl X4) Xf Qs3 Qz3 rfl rfl rfl rfl ?_);intro b63 w hS;refine .nil ?_;clear hH;have hH:=(hS.x [4,4,4])
  refine ⟨fun _ _=>⟨_,hH⟩,?_⟩;refine .b1 20 rfl (.append (size:=1) (bytes:=8) hS (.of rfl) (.of rfl) (k:=0) rfl Xf X1g rfl rfl rfl rfl rfl rfl rfl ⟨by omega,by unfold maxLen; omega⟩ rfl ?_);intro v64 w hS;obtain ⟨a64,c64,rfl,hcap64,_⟩:=hS.vecSlice (k:=0) (v:=v64) rfl;refine .nil ?_;clear hH;have hH:=(hS.x [3,3,3])
  refine ⟨fun _ _=>⟨_,hH⟩,?_⟩;refine .tp 21 rfl (fun w=>(.io rfl rfl (by omega) (by omega) X84 X9u)) (.tp 22 rfl (fun w=>(.fo 2 rfl X6h rfl rfl X1c rfl)) ?_);refine .b1 23 rfl ?_;refine .s1 hS (k:=3) rfl rfl rfl rfl X1c (by rw [Y0,X76 enc 3 X4i]; (try simp only [X7p]); omega) ?_;intro w hS;simp only [Yf] at hS
  rw [Xuo (by (try simp only [X7p]); omega)] at hS;refine .nil ?_;refine And.intro (by intro h; cases h) ?_;refine .dn (.dw (fun w=>∃ R,Sat B w J (blk bc [.slice (some (ad gl 0)) P0.length cl,sv2,av2] 275::R)) (fun j=>!([13].contains j)) ?_);replace hS:=hS.drew; generalize w.drew=w at hS ⊢;have hH:=(hS.x [2])
  refine .tp 0 rfl (fun w=>(.mo rfl)) (.tp 1 rfl (fun w=>(.no rfl)) (.tp 2 rfl (fun w=>(.fo 0 rfl X1z rfl rfl X6e rfl)) (.tk 3 rfl ⟨_,hH⟩ (fun w ⟨R,hS⟩=>(.lo rfl hS (k:=0) rfl X81 rfl)) (.tp 4 rfl (fun w=>(.mo rfl)) (.tp 5 rfl (fun w=>(.mo rfl)) (.tp 6 rfl (fun w=>(.no rfl)) (.tp 7 rfl (fun w=>(.fo 0 rfl X1z rfl rfl X6e rfl)) (.tk 8 rfl ⟨_,hH⟩ (fun w ⟨R,hS⟩=>(.lo rfl hS (k:=0) rfl X81 rfl)) (.tp 9 rfl (fun w=>(.lenSlice (.of rfl) X84)) ?_)))))))));refine .b1 10 rfl (.buildSlice (cs:=[_]) hS (pc9 rfl X4) Xf Qs3 Qz3 rfl rfl rfl rfl ?_);intro b77 w hS;refine .nil ?_;clear hH;have hH:=(hS.x [3])
  refine ⟨fun _ _=>⟨_,hH⟩,?_⟩;refine .tp 11 rfl (fun w=>(.io rfl rfl (by omega) (by omega) X84 X9u)) (.tp 12 rfl (fun w=>(.fo 2 rfl X6h rfl rfl X1c rfl)) ?_);refine .b1 13 rfl ?_;refine .s1 hS (k:=4) rfl rfl rfl rfl X1c (by rw [Y0,X76 enc 3 X4i]; (try simp only [X7p]); omega) ?_;intro w hS;simp only [Yf] at hS
  rw [Xuo (by (try simp only [X7p]); omega)] at hS;obtain ⟨J2,hJ2,hb2,hS⟩:=hS.freeze (k:=0) rfl;have hI2:IntsI J2 (.slice (some (ad b77 0)) 1 1) [(P0.length:Int)]:=⟨(fun h=>by cases h),_,_,rfl,Yq _,rfl,fun _=>⟨_,rfl,rfl,_,_,_,hb2,fun j u hj=>by simpa using hj⟩⟩
  refine .nil ?_;refine And.intro (by intro h; cases h) ?_;refine .dn (.region ?_)
  skip
  refine .val (.add (.of rfl) (.of rfl) ⟨by omega,by omega⟩) rfl ?_;rw [show ((pre.length:Nat):Int)+1=((pre ++ [b]).length:Nat) by simp];refine .q 1 rfl (.nil ?_);refine ⟨(pre ++ [b],r,X66 (X66 P o (.slice a64 (pre.length+1) c64)) b (.slice (some (ad b77 0)) 1 1),Xz (Xz Q o (pre.map (fun (x:Nat)=>(x:Int)+1) ++ [(b:Int)+1])) b [(P0.length:Int)],.slice a64 (pre.length+1) c64,J2),⟨rfl,rfl,rfl,rfl,rfl,trivial⟩,⟨by rw [hbs]; simp,hJ.trans hJ2,((hX.setO _ _).mono hJ2).setB _ _ _ hI2,by simp [X66,hPl],⟨ko,co,?_⟩,⟨kq,cq,?_⟩,fun h=>by simp at h,?_,?_⟩,by simp⟩
  ·simp [X66,Y1m,hPo,hbo]
  ·simp [Xz,Y1m,hQo,hbo]
  ·rw [<- hgo,X1m]; simp
  ·simpa using hS
 have hc41:=hb41; simp only [Y6] at hc41;refine .exit ?_;have hrem:rem=[]:=by
  cases rem with
  | nil=>rfl
  | cons b r=>simp at hlen; omega
 subst hrem;replace hS:=hS.drop (k:=1) rfl;obtain ⟨J2,hJ2,hI2,hS⟩:=Xl6 (k:=0) (xs:=pre.map fun (x:Nat)=>(x:Int)+1) hS (by rw [Y14]; rfl) (fun h=>htv (by simpa using h));replace hS:=hS.vecShut (k:=1) (n:=P.length) (cap:=cl) rfl (by omega) hcl2 (by rw [X76 enc 3 X4i]) (by rw [X76 enc 3 X4i] at hcl4 ⊢; omega);rw [<- hPl] at hS ⊢;refine .t 1 rfl (.call X80 rfl (ec9 rfl (ec9 rfl (ec9 rfl X0))) rfl (X30 _ _ _ _ _ _ _ _ _ _ _ _ hS (by omega)) ?_);rintro _ w ⟨rfl,lv2,hS⟩;refine .nil (X9d Tryz.results210 ?_);replace hS:=hS.say (k:=1) (A':=Vec 288 3 lv2 (P.length+1) ((P ++ [((6:Int),(0:Int),Value.slice none 0 0)]).flatMap enc)) rfl (fun h hh=>by rw [Y1k]; exact hh);refine ⟨_,rfl,rfl,lv2,sv2,av2,P ++ [(6,0,.slice none 0 0)],J2,hJ.trans hJ2,?_,?_⟩
 ·rw [hPl,<- hgo,X1m];exact ((hX.mono hJ2).back (fun p q hp hq=>by rw [hPo] at hp; rw [hQo] at hq; cases hp; cases hq; exact hI2)).snoc 6 0 _ _ (IntsI.nil _)
 ·have e5:(ats.take (st.length:Int).toNat).length=st.length:=by rw [Yf,Yr]; omega
  rw [e5] at hS;rw [Y0];exact hS
theorem Xax (s p:List UInt8) (w:World) (hs:s.length<=140737488351232) (hp:p.length<=140737488351232) :
  Cz 195 [S s,S p] w fun v w'=>v=.bool (Xg s p)/\w=w':=by
 refine calls Tryz.func195 rfl Tryz.ntmps195 rfl (.seq (.q 1 rfl (.seq (.region (.run 6 rfl ⟨Qu9,Qu9,trivial⟩ (.gm rfl rfl rfl rfl (.gm rfl rfl rfl rfl (.gval rfl rfl (fun hg1=>(.len (.gd hg1 rfl) Qu9)) rfl ?_))))))));refine .gval rfl rfl (fun hg1=>(.subTo (.gd hg1 rfl) (.gd hg1 rfl) (by (try simp only [Y6] at hg1); omega) (by (try simp only [Y6] at hg1); omega) Qu9)) rfl ?_;refine .gm rfl rfl rfl rfl (.gval rfl rfl (fun hg1=>(.eqs (.gd hg1 rfl) (.gd hg1 rfl))) rfl (.val (.pa rfl rfl rfl) rfl (.q 1 rfl (.nil (.ret (Xc Tryz.results195 rfl ?_))))));exact ⟨_,rfl,rfl,rfl⟩
theorem X1s (s p:List UInt8) (w:World) (hs:s.length<=140737488351232) (hp:p.length<=140737488351232) :
  Cz 148 [S s,S p] w fun v w'=>v=.bool (Xg s p)/\w=w':=by
 refine calls Xgl rfl Tryz.ntmps148 rfl (.seq (.q 1 rfl (.seq (.t 2 rfl (.call Tryz.func195 rfl (ec9 rfl (ec9 rfl X0)) rfl (Xax _ _ _ hs hp) ?_)))));rintro _ _ ⟨rfl,rfl⟩;refine .q 1 rfl (.nil (.ret (Xc Tryz.results148 rfl ?_)));exact ⟨_,rfl,rfl,rfl⟩
end Go.Proofs.YtbciobiiejpdgaaGreatDoor
