/- Part 7 of what the proof stands on. -/
import Derived.Test.YtbciobiiejpdgaaGreatDoorMEF
import Derived.Lib.ItoaNum
import Derived.Lib.LazyBuf
import Derived.Lib.AtoiTie
import Derived.Lib.AtoiErrMem
set_option linter.unusedVariables false
set_option linter.unusedSimpArgs false
namespace Xm
open Ul Pc Gk Pat Tk Tr
def LREQ:List UInt8:=[115,97,109,108,112,58,76,111,103,111,117,116,82,101,113,117,101,115,116]
def ID_:List UInt8:=[73,68]
def LR_:List UInt8:=[76,82,45]
def VER:List UInt8:=[86,101,114,115,105,111,110]
def V20:List UInt8:=[50,46,48]
def Xmf:List UInt8:=[73,115,115,117,101,73,110,115,116,97,110,116]
def NID:List UInt8:=[115,97,109,108,58,78,97,109,101,73,68]
def Xm4:List UInt8:=[64,78,79,84,95,85,83,69,68,64]
def SIX:List UInt8:=[115,97,109,108,112,58,83,101,115,115,105,111,110,73,110,100,101,120]
def M1:List UInt8:=[60,115,97,109,108,112,58,76,111,103,111,117,116,82,101,113,117,101,115,116,32,73,68,61,34,76,82,45]
def M2:List UInt8:=[34,32,86,101,114,115,105,111,110,61,34,50,46,48,34,32,73,115,115,117,101,73,110,115,116,97,110,116,61,34]
def M3:List UInt8:=[34,62,60,115,97,109,108,58,78,97,109,101,73,68,62,64,78,79,84,95,85,83,69,68,64,60,47,115,97,109,108,58,78,97,109,101,73,68,62,60,115,97,109,108,112,58,83,101,115,115,105,111,110,73,110,100,101,120,62]
def M4:List UInt8:=[60,47,115,97,109,108,112,58,83,101,115,115,105,111,110,73,110,100,101,120,62,60,47,115,97,109,108,112,58,76,111,103,111,117,116,82,101,113,117,101,115,116,62]
def Xup (c:UInt8):Bool:=Xss c || (48<=c && c<=57) || c == 45
def Tok (s:List UInt8):Prop:=∀ c∈s,Xup c=true
theorem X3g (c:UInt8) (h:Xup c=true):(c≠38/\c≠60/\c≠62/\c≠34/\c≠39)/\shB c=true/\c≠32:=by
 have:=Xh (p:=fun c=>!Xup c || ((c != 38 && c != 60 && c != 62 && c != 34 && c != 39) && shB c && c != 32)) (by decide +kernel) c
 rw [h] at this;simp only [Bool.not_true,Y3m,Yn,bne_iff_ne,ne_eq] at this
 obtain ⟨⟨⟨⟨⟨⟨h1,h2⟩,h3⟩,h4⟩,h5⟩,h6⟩,h7⟩:=this;exact ⟨⟨h1,h2,h3,h4,h5⟩,h6,h7⟩
theorem hx_tok {c:UInt8} {d:Nat} (h:hx c=some d):Xup c=true:=by
 have:=Xh (p:=fun c=>!(hx c).isSome || Xup c) (by decide +kernel) c
 rw [h] at this;simpa using this
theorem Xoj:∀ (s:List UInt8) (n d:Nat),hxS n s=some d->Tok s
 | [],_,_,_=>fun c hc=>by simp at hc
 | c::r,n,d,h=>by
  rw [hxS] at h;cases hc:hx c with
  | none=>rw [hc] at h; cases h
  | some x =>
   rw [hc] at h;intro y hy;rcases Y17.1 hy with rfl | hy
   ·exact hx_tok hc
   ·exact Xoj r _ _ h y hy
theorem Xpa {s:List UInt8} {k d:Nat} (h:Xt s=some (k,d)):Tok s:=by
 unfold Xt at h;split at h
 ·cases h
 ·rename_i hk
  obtain ⟨x,hx,e⟩:=Y1f.1 h;have hl:=Xor (upto [45] s);have h1:Tok (upto [45] s):=by
   rw [Xhi hk]
   have:=(by decide:∀ k:Fin 7,∀ c∈pre k.val,Xup c=true) ⟨X3b (upto [45] s),by omega⟩
   exact this
  unfold X41 at hx;split at hx
  ·rename_i h16
   have h2:=Xoj _ _ _ hx;intro c hc;rw [<- X1l [45] s] at hc;rcases Y12.1 hc with hc | hc
   ·exact h1 c hc
   ·cases hf:X6 [45] s with
    | nil=>rw [hf] at h16; simp at h16
    | cons a r =>
     rw [hf] at hc h2;rcases Y17.1 hc with rfl | hc
     ·have:=Xfe (ats:=[45]) (s:=s) (c:=c) (by rw [hf]; rfl)
      have:c=45:=by simpa using this
      rw [this]; decide
     ·exact h2 c hc
  ·cases hx
theorem Xh4 (n:Nat):Tok (Go.Lib.decDigits n):=by
 intro c hc
 have:=Y1c.1 (X49 n).2.1 c hc
 unfold Xup;unfold X7w at this;rw [this]; simp
theorem Tok.esc {s:List UInt8} (h:Tok s):esc s=s:=Xf9 fun c hc=>(X3g c (h c hc)).1
theorem Tok.un {s:List UInt8} (h:Tok s):X48 s=some s:=Xe2 fun c hc=>(X3g c (h c hc)).1
theorem Tok.sh {s:List UInt8} (h:Tok s):X94 s=true:=Y1c.2 fun c hc=>(X3g c (h c hc)).2.1
theorem Xou {t:List UInt8} (h:Tok t):Tok (LR_ ++ t):=fun c hc=>by
 rcases Y12.1 hc with hc | hc
 ·exact (by decide:∀ c∈LR_,Xup c=true) c hc
 ·exact h c hc
def X9e (t:List UInt8) (n:Nat):Nd:=.mk LREQ [(ID_,LR_ ++ t),(VER,V20),(Xmf,Go.Lib.decDigits n)] [] [.mk NID [] Xm4 [],.mk SIX [] t []]
def MSG (t:List UInt8) (n:Nat):List UInt8:=M1 ++ t ++ M2 ++ Go.Lib.decDigits n ++ M3 ++ t ++ M4
theorem Xjz {t:List UInt8} (h:Tok t) (n:Nat):X3f 8 (X9e t n)=MSG t n:=by
 have h1:=h.esc;have h2:=(Xou h).esc;have h3:=(Xh4 n).esc;have h4:esc V20=V20:=by decide +kernel
 have h5:esc Xm4=Xm4:=by decide +kernel
 have h6:esc []=[]:=rfl;simp only [X3f,X9e,Nd.name,Nd.attrs,Nd.text,Nd.kids,Y1b,Y3a,X6j,h1,h2,h3,h4,h5,h6]
 unfold MSG LREQ ID_ LR_ VER V20 Xmf NID Xm4 SIX M1 M2 M3 M4
 simp
theorem Xog {t:List UInt8} (h:Tok t) (n:Nat):X2z 8 200 (X9e t n)=some 197:=by
 have h1:=h.sh;have h2:=(Xou h).sh;have h3:=(Xh4 n).sh;have k1:X8f LREQ=true:=by decide +kernel
 have k2:X8f NID=true:=by decide +kernel
 have k3:X8f SIX=true:=by decide +kernel
 have k4:X94 Xm4=true:=by decide +kernel
 have k5:X94 []=true:=rfl;have k6:X8f ID_=true:=by decide +kernel
 have k7:X8f VER=true:=by decide +kernel
 have k8:X8f Xmf=true:=by decide +kernel
 have k9:X94 V20=true:=by decide +kernel
 have j1:(ID_ == VER)=false:=by decide
 have j2:(ID_ == Xmf)=false:=by decide
 have j3:(VER == Xmf)=false:=by decide
 simp [X2z,X3q,X9e,Nd.name,Nd.attrs,Nd.text,Nd.kids,X8v,h1,h2,h3,k1,k2,k3,k4,k5,k6,k7,k8,k9,j1,j2,j3]
theorem Xfr {a b:UInt8} (h:a≠b) (r p:List UInt8):Xg (a::r) (b::p)=false:=by
 unfold Xg;simp [h]
theorem Xph {a b:UInt8} (h:a≠b) (c:UInt8) (r p:List UInt8):Xg (c::a::r) (c::b::p)=false:=by
 unfold Xg;rw [Yf,List.length_cons,List.length_cons,Y1l,Y1l,show (c::a::r.take p.length == c::b::p)=false from beq_eq_false_iff_ne.2 fun e=>by injection e with _ e; injection e with e _; exact h e,Y43]
theorem Xd7 (a r:List UInt8):(a ++ r).drop a.length=r:=by simp
theorem Xfm {nm tx:List UInt8} (rest:List UInt8) (d:Nat) (left:Int) (hl:1<=left) (hnm:∀ c∈nm,c≠32/\c≠62) (htx:∀ x∈tx,x≠38/\x≠60/\x≠62/\x≠34/\x≠39) :
  X28 (d+1) left (60::(nm ++ 62::(tx ++ 60::47::(nm ++ 62::rest))))=some (.mk nm [] tx [],rest,left - 1):=by
 have u1:=X3h (ats:=[32,62]) (a:=nm) (b:=62::(tx ++ 60::47::(nm ++ 62::rest))) (fun c hc=>by have:=hnm c hc; simp [this.1,this.2]) (fun c hc=>by simp at hc; subst hc; decide);have u2:=X3h (ats:=[60]) (a:=tx) (b:=60::47::(nm ++ 62::rest)) (fun c hc=>by have:=htx c hc; simp [this.2.1]) (fun c hc=>by simp at hc; subst hc; decide);rw [X28,if_neg (by rintro (e | e) <;> first | omega | (rw [show (60::(nm ++ 62::(tx ++ 60::47::(nm ++ 62::rest))))=[60] ++ (nm ++ 62::(tx ++ 60::47::(nm ++ 62::rest))) from rfl,X3c] at e; cases e))];rw [Y7,Yh,u1.1,u1.2,X1a,if_pos (Xfr (by decide) _ _)];dsimp only
 rw [if_neg (by rw [show (62::(tx ++ 60::47::(nm ++ 62::rest)))=[62] ++ (tx ++ 60::47::(nm ++ 62::rest)) from rfl,X3c]; decide),Y7,Yh,u2.1,u2.2,Xe2 htx];dsimp only
 rw [X3a,if_pos (by rw [show (60::47::(nm ++ 62::rest))=[60,47] ++ (nm ++ 62::rest) from rfl,X3c])];dsimp only
 rw [if_neg (by rw [show (60::47::(nm ++ 62::rest))=(60::47::nm ++ [62]) ++ rest by simp,X3c]; decide)];have e:(60::47::(nm ++ 62::rest)).drop (nm.length+3)=rest:=by
  rw [show (60::47::(nm ++ 62::rest))=(60::47::nm ++ [62]) ++ rest by simp,show nm.length+3=(60::47::nm ++ [62]).length by simp,Xd7]
 rw [e]
theorem Xa0 {key v:List UInt8} (rest:List UInt8) (f:Nat) (out:List Px) (hk:∀ c∈key,c≠61) (hv:∀ x∈v,x≠38/\x≠60/\x≠62/\x≠34/\x≠39) :
  X1a (f+1) (32::(key ++ 61::34::(v ++ 34::rest))) out=X1a f rest (out ++ [(key,v)]):=by
 have u1:=X3h (ats:=[61]) (a:=key) (b:=61::34::(v ++ 34::rest)) (fun c hc=>by have:=hk c hc; simp [this]) (fun c hc=>by simp at hc; subst hc; decide);have u2:=X3h (ats:=[34]) (a:=v) (b:=34::rest) (fun c hc=>by have:=hv c hc; simp [this.2.2.2.1]) (fun c hc=>by simp at hc; subst hc; decide);rw [X1a,if_neg (by rw [show (32::(key ++ 61::34::(v ++ 34::rest)))=[32] ++ (key ++ 61::34::(v ++ 34::rest)) from rfl,X3c]; decide)];rw [Y7,Yh,u1.1,u1.2,if_neg (by rw [show (61::34::(v ++ 34::rest))=[61,34] ++ (v ++ 34::rest) from rfl,X3c]; decide)];rw [Y7,Y7,Yh,u2.1,u2.2,Xe2 hv];dsimp only
 rw [if_neg (by rw [show (34::rest)=[34] ++ rest from rfl,X3c]; decide),Y7,Yh]
theorem Xnn (a:UInt8) (ha:a≠32) (rest:List UInt8) (f:Nat) (out:List Px):X1a (f+1) (a::rest) out=some (out,a::rest):=by
 rw [X1a,if_pos (Xfr ha _ _)]
theorem Xew {f:Nat} (g:Nat) {s:List UInt8} {out:List Px} (hf:s.length<f) (hg:s.length<g):X1a f s out=X1a g s out:=Xa1 f g s out hf hg
theorem Xs4 {t:List UInt8} (h:Tok t) (n:Nat):X28 8 200 (MSG t n)=some (X9e t n,[],197):=by
 have ht:∀ x∈t,x≠38/\x≠60/\x≠62/\x≠34/\x≠39:=fun c hc=>(X3g c (h c hc)).1
 have hlr:∀ x∈LR_ ++ t,x≠38/\x≠60/\x≠62/\x≠34/\x≠39:=fun c hc=>(X3g c (Xou h c hc)).1
 have hd:∀ x∈Go.Lib.decDigits n,x≠38/\x≠60/\x≠62/\x≠34/\x≠39:=fun c hc=>(X3g c (Xh4 n c hc)).1
 obtain ⟨K3,hK3⟩:∃ K,K=60::47::(LREQ ++ [62]):=⟨_,rfl⟩
 obtain ⟨K2,hK2⟩:∃ K,K=60::(SIX ++ 62::(t ++ 60::47::(SIX ++ 62::K3))):=⟨_,rfl⟩
 obtain ⟨K1,hK1⟩:∃ K,K=60::(NID ++ 62::(Xm4 ++ 60::47::(NID ++ 62::K2))):=⟨_,rfl⟩
 obtain ⟨R3,hR3⟩:∃ K,K=32::(Xmf ++ 61::34::(Go.Lib.decDigits n ++ 34::62::K1)):=⟨_,rfl⟩
 obtain ⟨R2,hR2⟩:∃ K,K=32::(VER ++ 61::34::(V20 ++ 34::R3)):=⟨_,rfl⟩
 obtain ⟨R1,hR1⟩:∃ K,K=32::(ID_ ++ 61::34::((LR_ ++ t) ++ 34::R2)):=⟨_,rfl⟩
 have hM:MSG t n=60::(LREQ ++ R1):=by
  rw [hR1,hR2,hR3,hK1,hK2,hK3];unfold MSG LREQ ID_ LR_ VER V20 Xmf NID Xm4 SIX M1 M2 M3 M4
  simp
 have u1:=X3h (ats:=[32,62]) (a:=LREQ) (b:=R1) (by decide) (fun c hc=>by rw [hR1] at hc; simp at hc; subst hc; decide);have hA:X1a (R1.length+1) R1 []=some ([(ID_,LR_ ++ t),(VER,V20),(Xmf,Go.Lib.decDigits n)],62::K1):=by
  rw [Xew (R1.length+4) (by omega) (by omega)]
  conv=>lhs; rw [show R1.length+4=(R1.length+3)+1 from rfl,hR1,Xa0 R2 _ _ (by decide) hlr]
  rw [hR2,Xa0 R3 _ _ (by decide) (by decide),hR3,Xa0 (62::K1) _ _ (by decide) hd,Xnn 62 (by decide)];rfl
 have e1:X28 7 199 K1=some (.mk NID [] Xm4 [],K2,198):=by rw [hK1]; exact Xfm K2 6 199 (by decide) (by decide) (by decide)
 have e2:X28 7 198 K2=some (.mk SIX [] t [],K3,197):=by rw [hK2]; exact Xfm K3 6 198 (by decide) (by decide) ht
 have n1:Xg K1 [60,47]=false:=by rw [hK1]; exact Xph (by decide) _ _ _
 have n2:Xg K2 [60,47]=false:=by rw [hK2]; exact Xph (by decide) _ _ _
 have n3:Xg K3 [60,47]=true:=by rw [hK3]; exact X3c [60,47] _
 have l1:2<=K1.length:=by rw [hK1]; simp only [List.length_cons,Y0]; omega
 have hKd:X3a (X28 7) (K1.length+1) 199 K1 []=some ([.mk NID [] Xm4 [],.mk SIX [] t []],K3,197):=by
  obtain ⟨f,hf⟩:∃ f,K1.length=f+2:=⟨K1.length - 2,by omega⟩
  rw [hf,X3a,n1,if_neg (by decide),e1];dsimp only
  rw [X3a,n2,if_neg (by decide),e2];dsimp only
  rw [X3a,n3,if_pos rfl]; rfl
 have u2:upto [60] K1=[]/\X6 [60] K1=K1:=by
  have:=X3h (ats:=[60]) (a:=[]) (b:=K1) (by simp) (fun c hc=>by rw [hK1] at hc; simp at hc; subst hc; decide)
  simpa using this
 rw [hM,X28,if_neg (by rintro (e | e) <;> first | omega | (rw [show (60::(LREQ ++ R1))=[60] ++ (LREQ ++ R1) from rfl,X3c] at e; cases e))];rw [Y7,Yh,u1.1,u1.2,hA];dsimp only
 rw [if_neg (by rw [show (62::K1)=[62] ++ K1 from rfl,X3c]; decide),Y7,Yh,u2.1,u2.2,show X48 []=some [] from by decide];dsimp only
 rw [show (200:Int) - 1=199 from rfl,hKd];dsimp only
 rw [if_neg (by rw [hK3,show (60::47::(LREQ ++ [62]))=(60::47::LREQ ++ [62]) ++ [] by simp,X3c]; decide),hK3];rfl
theorem Xjq {t:List UInt8} (h:Tok t) (n:Nat):Xhs (MSG t n)=some (X9e t n):=by
 unfold Xhs;rw [Xs4 h n];dsimp only
 rw [if_neg (by rw [Xog h n]; simp)]
structure Nt where
 ticket:List UInt8
 url:List UInt8
 tries:Int
 next:Int
deriving DecidableEq
def X6d (t:List UInt8):Bool:=isT t 2 || isT t 3
def X2f (n:Nt):Bool:=X6d n.ticket && decide ((n.url.length:Int)<=100) && decide (0<=n.tries) && decide (n.tries<=9) && decide (0<=n.next) && decide (n.next<=1099511627776)
theorem X2w {t:List UInt8} (h:X6d t=true):Tok t/\t.length<=23:=by
 unfold X6d isT at h;cases hp:Xt t with
 | none=>rw [hp] at h; simp at h
 | some x=>obtain ⟨k,d⟩:=x; exact ⟨Xpa hp,(X35 hp).2.2.2.1⟩
def idOf (s:List UInt8):List UInt8:=upto [34] (s.drop M1.length)
def Xt9 (s:List UInt8):List UInt8:=(s.drop (M1.length+(idOf s).length+M2.length)).takeWhile X7w
def Xan (s:List UInt8):Option (List UInt8):=if X6d (idOf s)=true/\val (Xt9 s)<=1099511627776/\s=MSG (idOf s) (val (Xt9 s)) then some (idOf s) else none
theorem Xja {t:List UInt8} (h:Tok t) (n:Nat):idOf (MSG t n)=t:=by
 have e:MSG t n=M1 ++ (t ++ (M2 ++ Go.Lib.decDigits n ++ M3 ++ t ++ M4)):=by unfold MSG; simp only [Yd]
 unfold idOf;rw [e,Xd7];exact (X3h (ats:=[34]) (a:=t) (b:=M2 ++ Go.Lib.decDigits n ++ M3 ++ t ++ M4) (fun c hc=>by have:=(X3g c (h c hc)).1; simp [this.2.2.2.1]) (fun c hc=>by unfold M2 at hc; simp at hc; subst hc; decide)).1
theorem Xga:∀ (a b:List UInt8),a.all X7w=true->(∀ c,b.head?=some c->X7w c=false)->(a ++ b).takeWhile X7w=a
 | [],[],_,_=>rfl
 | [],c::b,_,h=>by rw [Ye,Y2j,h c rfl]; rfl
 | c::a,b,h,h2=>by
  simp only [Y5v,Yn] at h
  rw [Ys,Y2j,h.1,Xga a b h.2 h2]; rfl
theorem Xp5 {t:List UInt8} (h:Tok t) (n:Nat):Xt9 (MSG t n)=Go.Lib.decDigits n:=by
 unfold Xt9;rw [Xja h n];have e:MSG t n=(M1 ++ t ++ M2) ++ (Go.Lib.decDigits n ++ (M3 ++ t ++ M4)):=by unfold MSG; simp only [Yd]
 have hl:M1.length+t.length+M2.length=(M1 ++ t ++ M2).length:=by simp only [Y0]
 rw [e,hl,Xd7];exact Xga _ _ (X49 n).2.1 (fun c hc=>by unfold M3 at hc; simp at hc; subst hc; decide)
theorem Xfs {t:List UInt8} (h:X6d t=true) {n:Nat} (hn:n<=1099511627776):Xan (MSG t n)=some t:=by
 have ht:=(X2w h).1;unfold Xan;rw [Xja ht,Xp5 ht,(X49 n).1,if_pos ⟨h,hn,rfl⟩]
theorem Xlm {s t:List UInt8} (h:Xan s=some t):X6d t=true/\∃ n,n<=1099511627776/\s=MSG t n:=by
 unfold Xan at h;split at h
 ·rename_i hc
  cases h
  exact ⟨hc.1,_,hc.2.1,hc.2.2⟩
 ·cases h
theorem Xft {s:List UInt8} (h:∀ t n,X6d t=true->n<=1099511627776->s≠MSG t n):Xan s=none:=by
 cases hr:Xan s with
 | none=>rfl
 | some t =>
  obtain ⟨h1,n,h2,h3⟩:=Xlm hr;exact absurd h3 (h t n h1 h2)
end Xm
namespace Gk
open Go Go.Lib
section
variable {P:Program} {n:Nat} {K:X34} {L:Env} {w:World} {ops:Array Oper} {rest:List Oper}
theorem WL.gcallT {d j t:Nat} {b want:Bool} {ty:TypeId} {pos:String} {af:Array Edge} {v0:Value} {f:FuncId} {fn:Func} {xs:List Operand} {ts:Array TypeId} {vs:List Value} {T:World->Prop}
  (hj:(ops[j]?).bind (·.dst)=some t) (ht:Nat.blt t n=true) (hb:look L t=some (.bool b)) (hf:P.funcs[f]?=some fn) (hc:Xj fn=true)
  (hx:b=want->∀ a,Holds n L a->xs.map a.eval=vs) (hd:Nat.blt d n=true)
  (hcall:b=want->Calls P f vs.toArray w (Ret fun v w'=>v=v0/\T w')) (h0:b≠want->T w)
  (h:∀ w',T w'->WL P n ops K rest ((d,gd b want v0)::L) w'):WL P n ops K (⟨some d,.call ⟨.value (.func f),xs.toArray,ts⟩,ty,pos,af,some (j,want)⟩::rest) L w:=by
 by_cases e:b=want
 ·subst e;refine .opn hj ht hb (WL.call hf hc (hx rfl) hd (hcall rfl) ?_);rintro v w' ⟨rfl,hT⟩
  have:=h w' hT
  simpa [gd] using this
 ·exact WL.gcall (v0:=v0) (T:=fun w'=>w'=w) hj ht hb hf hc hx hd (fun h=>absurd h e) rfl (fun w' hw=>hw.symm ▸ h w (h0 e))
end
theorem Ex.slNil {P:Program} {n:Nat} {L:Env} {w:World} {ty t':TypeId} {pos:String} {af:Array Edge} {g:Option (Nat×Bool)} {t e:TypeId} {x y:Operand} {d:Option Nat} {a:Option Addr} {m c:Nat} (hx:Ev n L x (.slice a m c)) (hy:Ev n L y (.slice none 0 0)) (hT:P.underlying t=some (.slice e)):Ex P n L w ⟨d,.binOp .eql t x y t',ty,pos,af,g⟩ (.bool a.isNone) w :=
 X16 hx hy (fun _ _=>by unfold eqGuard; split <;> simp) (run_eql_slice_nil w t e a m c hT)
theorem WL.clear {P:Program} {n:Nat} {ops:Array Oper} {K:X34} {rest:List Oper} {L:Env} {w B:World} {I:Im} {As:List X7} {k b o m cap s:Nat} {cs:List Value} {E e t ty:TypeId} {x:Operand} {z:Value} {pos:String} {af:Array Edge} (hS:Sat B w I As) (hk:As[k]?=some (blk b cs E)) (hx:Ev n L x (.slice (some (ad b o)) m cap)) (ht:P.underlying t=some (.slice e)) (hz:∀ w,(zeroValue e).run P w=.ok z w) (hs:z.cells.size=s) (h1:∀ v∈z.cells,v.oneCell'=true) (ho:o+m*s<=cs.length)
  (h:∀ w' cs',cs'.length=cs.length->cs'.take o=cs.take o->Sat B w' I (As.set k (blk b cs' E))->WL P n ops K rest L w'):WL P n ops K (⟨none,.call ⟨.builtin .clear,#[x],#[t]⟩,ty,pos,af,none⟩::rest) L w:=by
 subst hs;have go:∀ w' v,(∀ a,Holds n L a->(execOp a.eval (⟨none,.call ⟨.builtin .clear,#[x],#[t]⟩,ty,pos,af,none⟩:Oper)).run P w=.ok (.value v) w')->WL P n ops K rest L w'->WL P n ops K (⟨none,.call ⟨.builtin .clear,#[x],#[t]⟩,ty,pos,af,none⟩::rest) L w:=by
  intro w' v hx h a ha;refine wpList_plain rfl fun K' hK=>?_
  unfold Oper.wp;rw [hx a ha];exact hK _ _ (h _ (ha.skip v))
 have hb:=hS.block hk;have hzl:(Builtin.zeroCells z.cells m).toList.length=m*z.cells.size:=by rw [Y3l,size_zeroCells]
 have hst:=run_storeCells_at P b o E (Builtin.zeroCells z.cells m).toList 0 cs.toArray w hb (by simp only [Y21,hzl,Y4k]; exact ho) (fun v hv=>by
  rw [Array.mem_toList_iff] at hv;unfold Builtin.zeroCells at hv;obtain ⟨i,hi,rfl⟩:=Array.mem_map.1 hv;have hi2:i<m*z.cells.size:=by simpa using hi
  have hp:0<z.cells.size:=Y5a fun e=>by rw [e] at hi2; omega
  have hlt:=Y2p i hp;rw [getElem!_pos z.cells (i % z.cells.size) hlt];exact h1 _ (Array.getElem_mem hlt))
 simp only [Y21] at hst
 cases m with
 | zero =>
  refine go w (.tuple #[]) (fun a ha=>?_) (h w cs rfl rfl ?_)
  ·simp [execOp,resolve,invoke,builtin,hx a ha,Builtin.clear_,run_underlying ht]
  ·have e:As.set k (blk b cs E)=As:=by
    apply Y1x
    intro i;rw [Y23];split
    ·rename_i e; subst e
     split
     ·exact hk.symm
     ·rename_i hlt; rw [Y1g (by omega)]
    ·rfl
   rw [e]; exact hS
 | succ m =>
  refine go (w.setRow b _) (.tuple #[]) (fun a ha=>?_) (h _ _ ?_ ?_ (hS.write (o':=Xl (cs.take o ++ (Builtin.zeroCells z.cells (m+1)).toList ++ cs.drop (o+(Builtin.zeroCells z.cells (m+1)).toList.length)) E) hk rfl rfl rfl (setRow_heap w b _ _ E _ hb) fun c hc=>setRow_other w b c _ hc))
  ·simp [execOp,resolve,invoke,builtin,hx a ha,Builtin.clear_,run_underlying ht,hz,hst]
  ·simp only [Y0,Yr,Yg,hzl]; omega
  ·rw [Yd,Y2i (by rw [Yr]; omega),Y5e,Nat.min_self]
theorem Ex.slc3 {P:Program} {n:Nat} {L:Env} {w:World} {ty:TypeId} {pos:String} {af:Array Edge} {g:Option (Nat×Bool)} {t e:TypeId} {x y z u:Operand} {d:Option Nat} {a0:Option Addr} {len cap s:Nat} {lo hi mx:Int} (hx:Ev n L x (.slice a0 len cap)) (hy:Ev n L y (I64 lo)) (hz:Ev n L z (I64 hi)) (hu:Ev n L u (I64 mx)) (h0:0<=lo) (h1:lo<=hi) (h2:hi<=mx) (h3:mx<=cap) (ht:P.underlying t=some (.slice e)) (hs:∀ w,(Go.sizeOf e).run P w=.ok s w) :
  Ex P n L w ⟨d,.slice t x (some y) (some z) (some u),ty,pos,af,g⟩ (sliced a0 lo.toNat hi.toNat mx.toNat s) w:=fun a ha=>by
 have hT:P.underlying t=some (.slice (P.elem t)):=by rw [X2j ht]; exact ht
 have h:=run_slice_lhm (P:=P) w t a0 len cap hT .i64 .i64 .i64 lo hi mx h0 h1 h2 h3;rw [X2j ht,hs] at h;simp [execOp,hx a ha,hy a ha,hz a ha,hu a ha,run_sliceAt_slice w t _ _ _ _ hT,h,Result.andThen]
theorem WL.appendSelf {P:Program} {n:Nat} {ops:Array Oper} {K:X34} {rest:List Oper} {L:Env} {w B:World} {I:Im} {As:List X7} {d k b o len m cap c size:Nat} {cs:List Value} {E t ty:TypeId} {x y:Operand} {i:TypeInfo} {p:Addr} {pos:String} {af:Array Edge} (hS:Sat B w I As) (hk:As[k]?=some (blk b cs E)) (hx:Ev n L x (.slice (some (ad b 0)) len cap)) (hy:Ev n L y (.slice (some p) m c)) (hp:0<m->p=ad b o) (ht:P.underlying t=some (.slice E)) (hi:P.info? E=some i) (hsize:i.size=size)
  (ho:o+m*size<=cs.length) (h1:∀ v∈(cs.drop o).take (m*size),v.oneCell'=true) (hroom:len+m<=cap) (hfit:len*size+m*size<=cs.length) (hd:Nat.blt d n=true)
  (h:∀ w',Sat B w' I (As.set k (blk b (cs.take (len*size) ++ (cs.drop o).take (m*size) ++ cs.drop (len*size+m*size)) E))->WL P n ops K rest ((d,.slice (some (ad b 0)) (len+m) cap)::L) w') :
  WL P n ops K (⟨some d,.call ⟨.builtin .append,#[x,y],#[t,t]⟩,ty,pos,af,none⟩::rest) L w:=by
 subst hsize;have hb:=hS.block hk;have hl:((cs.drop o).take (m*i.size)).length=m*i.size:=by rw [Yr,Yg]; omega
 have hr:=run_append_room (P:=P) w t ty E i ht hi b len cap cs.toArray hb p m c ((cs.drop o).take (m*i.size)) hl (fun j u hu=>by
  have hj:j<m*i.size:=by have:=(Y5.1 hu).1; omega
  have hm:0<m:=Y5a fun e=>by rw [e] at hj; omega
  rw [hp hm,X15];refine X1b hb ?_;rw [Y1r,if_pos hj,Y1d] at hu;exact hu) h1 hroom (by rw [hl]; simpa using hfit)
 rw [hl] at hr;simp only [] at hr
 refine .val (w':=w.setRow b _) (fun a ha=>?_) hd (h _ (hS.write (o':=Xl (cs.take (len*i.size) ++ (cs.drop o).take (m*i.size) ++ cs.drop (len*i.size+m*i.size)) E) hk rfl rfl rfl (setRow_heap w b _ _ E _ hb) fun c hc=>setRow_other w b c _ hc));simp [execOp,resolve,invoke,builtin,hx a ha,hy a ha,hr]
end Gk
namespace Go.Proofs.YtbciobiiejpdgaaGreatDoor
open Gk Ul Pc Pat Xm Tr
theorem Xhf:Tryz.prog.info? 126=some Tryz.t126:=by kernel_rfl
theorem Xhg:Tryz.prog.info? 136=some Tryz.t136:=by kernel_rfl
theorem X19:Bld Tryz.prog 126 [(0,1),(1,1),(2,1),(3,1)] [S [],.slice none 0 0,S [],.slice none 0 0]:=X23 X37 X6i (fun w=>by simp [go_sem])
theorem X3x:Bld Tryz.prog 136 [(0,1),(1,1)] [S [],S []]:=X23 X3j Xbr (fun w=>by simp [go_sem])
def tkn (b:Bool) (X x:List UInt8):List UInt8:=if (!b && Xg X x)=true then X.drop x.length else X
theorem Xpy (rb:Nat) (X x:List UInt8) (l:Int) (b:Bool) (B w:World) (I:Im) (As:List X7) (hS:Sat B w I (blk rb [S (X),I64 (l)] 171::As)) :
  (b=false->Calls Tryz.prog 144 [ptr rb 0,S x].toArray w (Ret fun v w'=>v=.bool (Xg X x)/\Sat B w' I (blk rb [S (tkn b X x),I64 (l)] 171::As)))/\(b≠false->Sat B w I (blk rb [S (tkn b X x),I64 (l)] 171::As)):=by
 refine ⟨fun h=>?_,fun h=>?_⟩
 ·subst h;exact (Xbf rb X x l B w I As hS)
 ·have:b=true:=by simpa using h
  subst this;exact hS
set_option maxRecDepth 4000 in
theorem Xik (rb:Nat) (t0:List UInt8) (hl0:t0.length<=10000) (l:Int) (B w:World) (I:Im) (hK:Kx I) (As:List X7) (hS:Sat B w I (blk rb [S (t0),I64 (l)] 171::As)) :
  Calls Tryz.prog 146 [ptr rb 0].toArray w (Ret fun v w'=>∃ J aa m c ok t',v=.tuple #[.slice aa m c,.bool ok]/\Le I J/\(match X1a (t0.length+1) t0 [] with
   | none=>ok=false
   | some (ps,r)=>ok=true/\t'=r/\m=ps.length/\m<=c/\RS J aa 2 m (X9 Xq ps)/\(∀ a∈ps,a.1.length<=t0.length/\a.2.length<=t0.length)/\ps.length<=t0.length)/\Sat B w' J (blk rb [S (t'),I64 (l)] 171::As)):=by
 refine calls Tryz.func146 rfl Tryz.ntmps146 rfl (.seq (.q 2 rfl (.seq (.q 1 rfl (.seq (.block ?_))))));replace hS:=(hS.vecNil 136 2).pick 1 rfl;refine .loop (σ:=List UInt8×List Px×Value) (fun ⟨t,out,v⟩=>[(0,ptr rb 0),(4,v)]) (fun ⟨t,out,v⟩ w=>t.length<=t0.length/\X1a (t0.length+1) t0 []=X1a (t.length+1) t out/\out.length+t.length<=t0.length/\(∀ a∈out,a.1.length<=t0.length/\a.2.length<=t0.length)/\Sat B w I (blk rb [S (t),I64 (l)] 171::Vec 136 2 v (out).length (X9 Xq (out))::As)) (fun ⟨t,out,v⟩=>t.length) (t0,[],.slice none 0 0) ⟨rfl,rfl,trivial⟩ ⟨Yq _,rfl,by simp,by simp,hS⟩ ?_;rintro ⟨t,out,v⟩ w ⟨htl,hat,hol,hom,hS⟩;refine .seq (.seq (.t 2 rfl ?_));refine .val (.fo 0 rfl X4f rfl rfl Qs9 rfl) rfl (.val (.lo rfl hS (k:=0) rfl Qg9 rfl) rfl (.call Xgl rfl (ec9 rfl (ec9 rfl X0)) rfl (X1s t [32] _ (by omega) (by decide)) ?_));rintro _ _ ⟨rfl,rfl⟩;refine .nil (.cond rfl (fun hb12=>?_) fun hb12=>?_)
 ·refine .skip (.block (.seq ?_));have hp1:=X5b hb12; simp only [List.length_cons,List.length_nil] at hp1;obtain ⟨t1,ht1⟩:∃ x,x=t.drop 1:=⟨_,rfl⟩
  have hl1:t1.length=t.length - 1:=by rw [ht1,Yg]
  refine .t 3 rfl (.val (.fo 0 rfl X4f rfl rfl Qs9 rfl) rfl (.val (.lo rfl hS (k:=0) rfl Qg9 rfl) rfl (.val (.subFrom (.of rfl) (.of rfl) (by omega) (by omega) Qu9) rfl (.q 1 rfl ?_))));refine .val (.fo 0 rfl X4f rfl rfl Qs9 rfl) rfl (.s1 hS (k:=0) rfl rfl rfl rfl Qs9 (by simp) ?_);intro w hS;refine .nil (.seq ?_);rw [show List.drop (1:Int).toNat t=t1 from ht1.symm] at hS;refine .t 1 rfl (.call Xmn rfl (ec9 rfl (ec9 rfl X0)) rfl (Xqb rb t1 61 (by decide) (by omega) l B _ I _ hS) ?_);rintro _ w ⟨rfl,hS⟩;refine .q 1 rfl (.nil (.seq (.seq ?_)));obtain ⟨t2,ht2⟩:∃ x,x=X6 [61] t1:=⟨_,rfl⟩
  rw [<- ht2] at hS;have hl2:t2.length<=t1.length:=by rw [ht2]; exact X2l _ _
  have hk2:=X12 [61] t1;refine .t 1 rfl (.call Xk8 rfl (ec9 rfl (ec9 rfl X0)) rfl (Xbf rb t2 [61,34] l B _ I _ hS) ?_);rintro _ w ⟨rfl,hS⟩;refine .q 1 rfl (.nil ?_);refine .cond rfl (fun hb25=>?_) fun hb25=>?_
  ·refine .seq (.q 2 rfl (.ret (X1t Xv2 rfl rfl ?_)));refine ⟨_,rfl,I,none,0,0,false,_,rfl,Le.refl _,?_,(hS.y 1 1)⟩;rw [hat,X1a,if_neg (by rw [hb12]; decide),<- ht1,<- ht2,if_pos (by simpa using hb25)]
  refine .skip (.seq ?_);have hq2:Xg t2 [61,34]=true:=by simpa using hb25
  rw [if_pos hq2] at hS;have hp2:=X5b hq2; simp only [List.length_cons,List.length_nil] at hp2;obtain ⟨t3,ht3⟩:∃ x,x=t2.drop 2:=⟨_,rfl⟩
  have hl3:t3.length=t2.length - 2:=by rw [ht3,Yg]
  rw [show List.drop ([61,34]:List UInt8).length t2=t3 from ht3.symm] at hS;have hk3:=X12 [34] t3;refine .t 1 rfl (.call Xmn rfl (ec9 rfl (ec9 rfl X0)) rfl (Xqb rb t3 34 (by decide) (by omega) l B _ I _ hS) ?_);rintro _ w ⟨rfl,hS⟩;refine .call Tryz.func147 rfl (ec9 rfl X0) rfl (X7v (upto [34] t3) (by omega) B _ I hK _ hS) ?_;rintro _ w ⟨n1,e1,rfl,hu,hS⟩;refine .q 5 rfl (.nil (.seq (.seq ?_)));obtain ⟨t4,ht4⟩:∃ x,x=X6 [34] t3:=⟨_,rfl⟩
  rw [<- ht4] at hS;refine .t 3 rfl (.gm rfl rfl rfl rfl ?_);have hg9:=fun b=>Xpy rb t4 [34] _ b B _ I _ hS
  refine .gcallT rfl rfl rfl Xk8 rfl (fun hg1=>Xd (.gd hg1 rfl) (ec9 rfl X0)) rfl (hg9 _).1 (hg9 _).2 ?_;clear hS hg9; intro w hS;refine .gval rfl rfl (fun hg1=>(.not (.gd hg1 rfl))) rfl (.val (.po rfl rfl rfl) rfl (.nil ?_));refine .cond rfl (fun hb38=>?_) fun hb38=>?_
  ·refine .seq (.q 2 rfl (.ret (X1t Xv2 rfl rfl ?_)));refine ⟨_,rfl,I,none,0,0,false,_,rfl,Le.refl _,?_,(hS.y 1 1)⟩;rw [hat,X1a,if_neg (by rw [hb12]; decide),<- ht1,<- ht2,if_neg (by rw [hq2]; decide),<- ht3];cases hh:X48 (upto [34] t3) with
   | none=>rfl
   | some z =>
    rw [hh] at hu;have h0:=hu.2;subst h0;dsimp only
    rw [<- ht4,if_pos (by simpa using hb38)]
  refine .skip ?_;have he0:e1=0/\Xg t4 [34]=true:=by simpa using hb38
  have hk4:(!((e1:Int) != 0) && Xg t4 [34])=true:=by rw [he0.1,he0.2]; rfl
  have hp4:=X5b he0.2; simp only [List.length_cons,List.length_nil] at hp4;unfold tkn at hS;rw [if_pos hk4] at hS;obtain ⟨t5,ht5⟩:∃ x,x=t4.drop 1:=⟨_,rfl⟩
  have hl5:t5.length=t4.length - 1:=by rw [ht5,Yg]
  rw [show List.drop ([34]:List UInt8).length t4=t5 from ht5.symm] at hS;have hun:X48 (upto [34] t3)=some n1:=by
   cases hh:X48 (upto [34] t3) with
   | none=>rw [hh] at hu; have:=hu.2; omega
   | some z=>rw [hh] at hu; rw [hu.1]
  have hun1:=Xur hun;rw [<- ht4] at hk3;refine .t 3 rfl (.val (.build (cs:=[_,_]) (pc9 rfl (pc9 rfl X4)) X3x rfl) rfl (.buildSlice (cs:=[_,_]) hS (pc9 rfl X4) X2e X2i Xbr rfl rfl rfl rfl ?_));intro b43 w hS;refine .append (size:=2) (bytes:=32) hS (.of rfl) (.of rfl) (k:=1) rfl X2e Xhg rfl rfl rfl rfl rfl rfl rfl ⟨by omega,by unfold maxLen; omega⟩ rfl ?_;intro v44 w hS;obtain ⟨a44,c44,rfl,hcap44,_⟩:=hS.vecSlice (k:=1) (v:=v44) rfl;refine .q 1 rfl (.nil ?_);replace hS:=((hS.pick 1 rfl).pick 1 rfl)
  have er:X9 Xq (out ++ [(upto [61] t1,n1)])=X9 Xq out ++ [S (upto [61] t1),S n1]:=by simp [X9,Xq]
  have el:(out ++ [(upto [61] t1,n1)]).length=out.length+1:=by simp
  refine ⟨(t5,out ++ [(upto [61] t1,n1)],_),⟨rfl,rfl,trivial⟩,⟨by (try dsimp only); omega,?_,by rw [el]; (try dsimp only); omega,fun a ha=>?_,by rw [er,el]; exact hS⟩,by (try dsimp only); omega⟩
  ·rw [hat,X1a,if_neg (by rw [hb12]; decide),<- ht1,<- ht2,if_neg (by rw [hq2]; decide),<- ht3,hun];dsimp only
   rw [<- ht4,if_neg (by rw [he0.2]; decide),<- ht5];exact Xew _ (by omega) (by omega)
  ·rcases Y12.1 ha with h | h
   ·exact hom a h
   ·rw [Y3t.1 h]; (try dsimp only); omega
 refine .exit (.seq (.q 3 rfl (.ret (X1t Xv2 rfl rfl ?_))));obtain ⟨a9,c9,rfl,hc9,_⟩:=hS.vecSlice (k:=1) rfl;obtain ⟨J,hJ,hRS,hS⟩:=hS.freezeVec (k:=1) rfl;refine ⟨_,rfl,J,a9,out.length,c9,true,t,rfl,hJ,?_,hS⟩;rw [hat,X1a,if_pos hb12];exact ⟨rfl,rfl,rfl,hc9,hRS,hom,by omega⟩
theorem Xc9 {el:Int->List UInt8->Option (Nd×List UInt8×Int)} (hel:∀ l s k r l2,el l s=some (k,r,l2)->r.length<s.length):∀ (f g:Nat) (left:Int) (s:List UInt8) (out:List Nd),s.length<f->s.length<g->X3a el f left s out=X3a el g left s out
 | 0,_,_,_,_,h,_=>by omega
 | _+1,0,_,_,_,_,h=>by omega
 | f+1,g+1,left,s,out,hf,hg=>by
  rw [X3a,X3a];split
  ·rfl
  ·split
   ·rfl
   ·rename_i k r l he
    have:=hel _ _ _ _ _ he
    exact Xc9 hel f g _ _ _ (by omega) (by omega)
theorem Xjd {el:Int->List UInt8->Option (Nd×List UInt8×Int)} (hel:∀ l s k r l2,0<=l->el l s=some (k,r,l2)->0<=l2/\l2<=l):∀ (f:Nat) (left:Int) (s:List UInt8) (out ks:List Nd) (r:List UInt8) (l2:Int),0<=left->X3a el f left s out=some (ks,r,l2)->0<=l2/\l2<=left
 | 0,_,_,_,_,_,_,_,h=>by cases h
 | f+1,left,s,out,ks,r,l2,h0,h=>by
  rw [X3a] at h;split at h
  ·cases h; exact ⟨h0,Y3u _⟩
  ·split at h
   ·cases h
   ·rename_i k r1 l1 he
    have h1:=hel _ _ _ _ _ h0 he;have h2:=Xjd hel f _ _ _ _ _ _ h1.1 h;exact ⟨h2.1,by omega⟩
theorem Xiz:∀ (d:Nat) (l:Int) (s:List UInt8) (k:Nd) (r:List UInt8) (l2:Int),0<=l->X28 d l s=some (k,r,l2)->0<=l2/\l2<=l
 | 0,_,_,_,_,_,_,h=>by cases h
 | d+1,l,s,k,r,l2,h0,h=>by
  rw [X28] at h;split at h
  ·cases h
  ·rename_i hc
   simp only [not_or] at hc
   split at h
   ·cases h
   ·split at h
    ·cases h
    ·split at h
     ·cases h
     ·split at h
      ·cases h
      ·rename_i ks q l3 hk
       split at h
       ·cases h
       ·cases h
        have:=Xjd (fun l s k r l2 h0 h=>Xiz d l s k r l2 h0 h) _ _ _ _ _ _ _ (by omega) hk
        exact ⟨this.1,by omega⟩
set_option maxRecDepth 4000 in
theorem Xf6 (d:Nat) (ih:∀ e,d=e+1->∀ (deep:Int) (t:List UInt8) (l:Int) (rb:Nat) (B w:World) (I:Im) (As:List X7),1<=deep->deep+(e:Int)=9->t.length<=10000->0<=l->l<=1000->Kx I->Sat B w I (blk rb [S (t),I64 (l)] 171::As)->Calls Tryz.prog 104 [ptr rb 0,I64 deep].toArray w (Ret fun v w'=>∃ J s1 a1 n1 m1 s2 a2 n2 m2 ok t' l',v=.tuple #[.agg ([S s1,.slice a1 n1 m1,S s2,.slice a2 n2 m2]:List Value).toArray,.bool ok]/\Le I J/\(match X28 e l t with
   | none=>ok=false
   | some (k,r,l2)=>ok=true/\t'=r/\l'=l2/\NdV e J [S s1,.slice a1 n1 m1,S s2,.slice a2 n2 m2] k)/\Sat B w' J (blk rb [S (t'),I64 (l')] 171::As)))
  (deep:Int) (t:List UInt8) (l:Int) (rb:Nat) (B w:World) (I:Im) (As:List X7) (hp:1<=deep) (hd:deep+(d:Int)=9) (hl0:t.length<=10000) (h0:0<=l) (h1:l<=1000) (hK:Kx I) (hS:Sat B w I (blk rb [S (t),I64 (l)] 171::As)):Calls Tryz.prog 104 [ptr rb 0,I64 deep].toArray w (Ret fun v w'=>∃ J s1 a1 n1 m1 s2 a2 n2 m2 ok t' l',v=.tuple #[.agg ([S s1,.slice a1 n1 m1,S s2,.slice a2 n2 m2]:List Value).toArray,.bool ok]/\Le I J/\(match X28 d l t with
   | none=>ok=false
   | some (k,r,l2)=>ok=true/\t'=r/\l'=l2/\NdV d J [S s1,.slice a1 n1 m1,S s2,.slice a2 n2 m2] k)/\Sat B w' J (blk rb [S (t'),I64 (l')] 171::As)):=by
 refine calls Tryz.func104 rfl Tryz.ntmps104 rfl (.seq (.region (.allocA (cs:=[_,_,_,_]) hS X6i rfl ?_)));intro b4 w hS;refine .q 1 rfl (.nil (.scope (.seq (.t 2 rfl ?_))));refine .val (.fo 1 rfl X4f rfl rfl Qs3 rfl) rfl (.val (.lo rfl hS (k:=1) rfl Qg3 rfl) rfl (.run 2 rfl ⟨⟨by omega,by omega⟩,trivial⟩ (.val (.fo 1 rfl X4f rfl rfl Qs3 rfl) rfl (.s1 hS (k:=1) rfl rfl rfl rfl Qs3 (by simp) ?_))));intro w hS;refine .nil (.seq (.seq (.t 3 rfl (.gm rfl rfl rfl rfl (.gval rfl rfl (fun hg1=>(.nilCheck (.gd hg1 rfl))) rfl ?_)))));refine .gval rfl rfl (fun hg1=>(by exact .fieldAddr 1 (.gd hg1 rfl) X4f rfl rfl Qs3 rfl)) rfl ?_;refine .gval rfl rfl (fun hg1=>(by exact (.ld (.gd hg1 rfl) hS (k:=1) rfl Qg3 rfl))) rfl ?_;refine .gval rfl rfl (fun hg1=>(.lss (.gd hg1 rfl) (.of rfl))) rfl (.val (.po rfl rfl rfl) rfl (.q 1 rfl (.gm rfl rfl rfl rfl ?_)));replace hS:=(hS.pick 1 rfl)
 have hg9:=fun b=>Xpy rb t [60] _ b B _ I _ hS
 refine .gcallT rfl rfl rfl Xk8 rfl (fun hg1=>Xd (.gd hg1 rfl) (ec9 rfl X0)) rfl (hg9 _).1 (hg9 _).2 ?_;clear hS hg9; intro w hS;refine .gval rfl rfl (fun hg1=>(.not (.gd hg1 rfl))) rfl (.val (.po rfl rfl rfl) rfl (.nil ?_));refine .cond rfl (fun hb32=>?_) fun hb32=>?_
 ·refine .seq (.region (.val (.build (cs:=[_,_,_,_]) X4 X19 rfl) rfl ?_));refine .so hS (k:=1) rfl rfl rfl rfl X11 rfl (by simp) ?_;intro w hS;try simp only [Yk,Ye,Y9,Y7,Yh,Ym,Yc] at hS
  refine .q 1 rfl (.nil (.ret ?_));refine X1k (b:=_) (cs:=[_,_,_,_]) Xmt hS (k:=1) rfl X32 X11 rfl rfl rfl (⟨_,rfl,I,[],none,0,0,[],none,0,0,false,_,_,rfl,Le.refl _,?_,(hS.y 1 1)⟩);cases d with
  | zero=>rfl
  | succ e =>
   rw [X28,if_pos]
   by_cases h1:l - 1<0
   ·exact .inl h1
   ·right
    have h2:¬ deep > 8:=by push_cast at hd; omega
    rw [decide_eq_false h1,decide_eq_false h2] at hb32;simpa using hb32
 have hc32:=hb32; simp only [Y6] at hc32;refine .skip (.seq ?_);obtain ⟨hl1,hp1⟩:(deep<=8/\0<=l - 1)/\Xg t [60]=true:=by simpa using hb32
 have htk:(!(decide (deep > 8) || decide (l - 1<0)) && Xg t [60])=true:=by rw [hp1,decide_eq_false (by omega),decide_eq_false (by omega)]; rfl
 unfold tkn at hS;rw [if_pos htk] at hS;obtain ⟨e,he9⟩:∃ e,d=e+1:=⟨d - 1,by omega⟩
 subst he9;have hp1l:=X5b hp1; simp only [List.length_cons,List.length_nil] at hp1l;obtain ⟨t1,ht1⟩:∃ x,x=t.drop 1:=⟨_,rfl⟩
 have hl1t:t1.length=t.length - 1:=by rw [ht1,Yg]
 rw [show List.drop ([60]:List UInt8).length t=t1 from ht1.symm] at hS;have hE1:X28 (e+1) l t=match X1a ((X6 [32,62] t1).length+1) (X6 [32,62] t1) [] with
   | none=>none
   | some (ps,r)=>if Xg r [62]=false then none else match X48 (upto [60] (r.drop 1)) with
    | none=>none
    | some z=>match X3a (X28 e) ((X6 [60] (r.drop 1)).length+1) (l - 1) (X6 [60] (r.drop 1)) [] with
     | none=>none
     | some (ks,q,l)=>if Xg q (60::47::upto [32,62] t1 ++ [62])=false then none else some (.mk (upto [32,62] t1) ps z ks,q.drop ((upto [32,62] t1).length+3),l):=by
  rw [X28,if_neg (by rintro (h | h) <;> first | omega | (rw [hp1] at h; cases h)),<- ht1];rfl
 have hk1:=X12 [32,62] t1;refine .t 1 rfl (.call Xmn rfl (ec9 rfl (ec9 rfl X0)) rfl (xword2 rb t1 (by omega) (l - 1) B _ I _ hS) ?_);rintro _ w ⟨rfl,hS⟩;try dsimp only [List.eraseIdx] at hS
 refine .val (.build (cs:=[_,_,_,_]) (pc9 rfl X4) X19 rfl) rfl (.allocA (cs:=[_,_,_,_]) hS X6i rfl ?_);intro b6 w hS;refine .so hS (k:=0) rfl rfl rfl rfl X11 rfl (by simp) ?_;intro w hS;try simp only [Yk,Ye,Y9,Y7,Yh,Ym,Yc] at hS
 refine .nil (.seq ?_);obtain ⟨t2,ht2⟩:∃ x,x=X6 [32,62] t1:=⟨_,rfl⟩
 obtain ⟨nm,hnm⟩:∃ x,x=upto [32,62] t1:=⟨_,rfl⟩
 rw [<- ht2,<- hnm] at hS hE1 hk1;refine .q 1 rfl (.seq (.seq (.t 1 rfl (.call Tryz.func146 rfl (ec9 rfl X0) rfl (Xik rb t2 (by omega) (l - 1) B _ I hK _ (hS.x [1])) ?_))));rintro _ w ⟨J,aa,m,c,ok,t3,rfl,hJ,hA,hS⟩;try dsimp only [List.eraseIdx] at hS
 have hA2:(X1a (t2.length+1) t2 []=none/\ok=false)\/∃ ps,X1a (t2.length+1) t2 []=some (ps,t3)/\ok=true/\m=ps.length/\m<=c/\RS J aa 2 m (X9 Xq ps)/\(∀ a∈ps,a.1.length<=t2.length/\a.2.length<=t2.length)/\ps.length<=t2.length:=by
  cases h:X1a (t2.length+1) t2 [] with
  | none=>rw [h] at hA; exact .inl ⟨rfl,hA⟩
  | some x =>
   obtain ⟨ps,r⟩:=x;rw [h] at hA;obtain ⟨h1,h2,h3⟩:=hA;subst h2;exact .inr ⟨ps,rfl,h1,h3⟩
 refine .q 3 rfl (.val (.fo 1 rfl X37 rfl rfl X4u rfl) rfl (.s1 hS (k:=1) rfl rfl rfl rfl X4u (by simp) ?_));intro w hS;refine .q 1 rfl (.nil (.seq (.t 3 rfl (.gm rfl rfl rfl rfl ?_))));have hg9:=fun b=>Xpy rb t3 [62] _ b B _ J _ hS
 refine .gcallT rfl rfl rfl Xk8 rfl (fun hg1=>Xd (.gd hg1 rfl) (ec9 rfl X0)) rfl (hg9 _).1 (hg9 _).2 ?_;clear hS hg9; intro w hS;refine .gval rfl rfl (fun hg1=>(.not (.gd hg1 rfl))) rfl (.val (.po rfl rfl rfl) rfl (.nil ?_));refine .cond rfl (fun hb49=>?_) fun hb49=>?_
 ·refine .seq (.region (.val (.build (cs:=[_,_,_,_]) X4 X19 rfl) rfl ?_));refine .so hS (k:=2) rfl rfl rfl rfl X11 rfl (by simp) ?_;intro w hS;try simp only [Yk,Ye,Y9,Y7,Yh,Ym,Yc] at hS
  refine .q 1 rfl (.nil (.ret ?_));refine X1k (b:=_) (cs:=[_,_,_,_]) Xmt hS (k:=2) rfl X32 X11 rfl rfl rfl (⟨_,rfl,J,[],none,0,0,[],none,0,0,false,_,_,rfl,hJ,?_,(hS.y 1 2)⟩);rw [hE1];rcases hA2 with ⟨h,_⟩ | ⟨ps,h1,h2,_⟩
  ·rw [h]
  ·rw [h1];dsimp only
   rw [if_pos (by rw [h2] at hb49; simpa using hb49)]
 have hc49:=hb49; simp only [Y6] at hc49;refine .skip (.seq ?_);obtain ⟨hok9,hp3⟩:ok=true/\Xg t3 [62]=true:=by simpa using hb49
 have htk3:(!(!ok) && Xg t3 [62])=true:=by rw [hok9,hp3]; rfl
 unfold tkn at hS;rw [if_pos htk3] at hS;obtain ⟨ps,hAF,hmp,hmc,hRS,hps,hpl⟩:∃ ps,X1a (t2.length+1) t2 []=some (ps,t3)/\m=ps.length/\m<=c/\RS J aa 2 m (X9 Xq ps)/\(∀ a∈ps,a.1.length<=t2.length/\a.2.length<=t2.length)/\ps.length<=t2.length:=by
  rcases hA2 with ⟨_,h⟩ | ⟨ps,h1,h2,h3⟩
  ·rw [h] at hok9; cases hok9
  ·exact ⟨ps,h1,h3⟩
 have hl3:=X85 _ _ _ _ _ hAF;have hp3l:=X5b hp3; simp only [List.length_cons,List.length_nil] at hp3l;obtain ⟨t4,ht4⟩:∃ x,x=t3.drop 1:=⟨_,rfl⟩
 have hl4:t4.length=t3.length - 1:=by rw [ht4,Yg]
 rw [show List.drop ([62]:List UInt8).length t3=t4 from ht4.symm] at hS;rw [hAF] at hE1;dsimp only at hE1
 rw [if_neg (by rw [hp3]; decide),<- ht4] at hE1;have hk4:=X12 [60] t4;have hKJ:=hK.mono hJ;refine .t 1 rfl (.call Xmn rfl (ec9 rfl (ec9 rfl X0)) rfl (Xqb rb t4 60 (by decide) (by omega) (l - 1) B _ J _ hS) ?_);rintro _ w ⟨rfl,hS⟩;try dsimp only [List.eraseIdx] at hS
 refine .call Tryz.func147 rfl (ec9 rfl X0) rfl (X7v (upto [60] t4) (by omega) B _ J hKJ _ hS) ?_;rintro _ w ⟨n1,e1,rfl,hu,hS⟩;refine .q 5 rfl (.nil (.seq (.seq (.q 2 rfl ?_))));refine .cond rfl (fun hb58=>?_) fun hb58=>?_
 ·have hc58:=hb58; simp only [Y6] at hc58;refine .seq (.region (.val (.build (cs:=[_,_,_,_]) X4 X19 rfl) rfl ?_));refine .so hS (k:=2) rfl rfl rfl rfl X11 rfl (by simp) ?_;intro w hS;try simp only [Yk,Ye,Y9,Y7,Yh,Ym,Yc] at hS
  refine .q 1 rfl (.nil (.ret ?_));refine X1k (b:=_) (cs:=[_,_,_,_]) Xmt hS (k:=2) rfl X32 X11 rfl rfl rfl (⟨_,rfl,J,[],none,0,0,[],none,0,0,false,_,_,rfl,hJ,?_,(hS.y 1 2)⟩);rw [hE1];cases hh:X48 (upto [60] t4) with
  | none=>rfl
  | some z=>rw [hh] at hu; have:=hu.2; have:=hc58; omega
 have hc58:=hb58; simp only [Y6] at hc58;refine .skip (.seq ?_);have he0:e1=0:=by have:=hc58; omega
 have hun:X48 (upto [60] t4)=some n1:=by
  cases hh:X48 (upto [60] t4) with
  | none=>rw [hh] at hu; have:=hu.2; omega
  | some z=>rw [hh] at hu; rw [hu.1]
 have hun1:=Xur hun;rw [hun] at hE1;dsimp only at hE1
 obtain ⟨t5,ht5⟩:∃ x,x=X6 [60] t4:=⟨_,rfl⟩
 rw [<- ht5] at hS hE1 hk4;refine .t 1 rfl (.val (.fo 2 rfl X37 rfl rfl Qs9 rfl) rfl (.s1 hS (k:=1) rfl rfl rfl rfl Qs9 (by simp) ?_));intro w hS;refine .nil (.seq (.label (.seq (.block ?_))));have hS0:=((hS.vecNil 126 4).pick 2 rfl).pick 2 rfl; clear hS; try dsimp only [List.eraseIdx] at hS0
 refine .loop (σ:=List UInt8×Int×List Nd×List (List Value)×Value×Im) (fun ⟨tq,lq,ks,xs,v,M⟩=>[(0,ptr rb 0),(1,I64 deep),(4,ptr b4 0),(6,ptr b6 0)]) (fun ⟨tq,lq,ks,xs,v,M⟩ w=>tq.length<=t5.length/\0<=lq/\lq<=1000/\X3a (X28 e) (t5.length+1) (l - 1) t5 []=X3a (X28 e) (tq.length+1) lq tq ks/\Le J M/\xs.length=ks.length/\(∀ x∈xs,x.length=4)/\(∀ (i:Nat) x k,xs[i]?=some x->ks[i]?=some k->NdV e M x k)/\ks.length+tq.length<=t5.length/\Sat B w M (blk rb [S (tq),I64 (lq)] 171::blk b6 [S nm,.slice aa m c,S n1,v] 126::Vec 126 4 v xs.length xs.flatten::blk b4 [S [],.slice none 0 0,S [],.slice none 0 0] 126::As)) (fun ⟨tq,lq,ks,xs,v,M⟩=>tq.length) (t5,l - 1,[],[],.slice none 0 0,J) ⟨rfl,rfl,rfl,rfl,trivial⟩ ⟨Yq _,by omega,by omega,rfl,Le.refl _,rfl,by simp,by simp,by simp,hS0⟩ ?_;rintro ⟨tq,lq,ks,xs,v,M⟩ w ⟨htq,h0q,h1q,hkf,hJM,hxk,hx4,hNd,hkl,hS⟩;clear hS0;refine .block (.seq (.seq (.t 2 rfl ?_)));refine .val (.fo 0 rfl X4f rfl rfl Qs9 rfl) rfl (.val (.lo rfl hS (k:=0) rfl Qg9 rfl) rfl (.call Xgl rfl (ec9 rfl (ec9 rfl X0)) rfl (X1s tq [60,47] _ (by omega) (by decide)) ?_));rintro _ _ ⟨rfl,rfl⟩;refine .nil (.cond rfl (fun hb66=>?_) fun hb66=>?_)
 ·refine .exit (.seq ?_);obtain ⟨ka,kc,rfl,hkc,_⟩:=hS.vecSlice (k:=2) rfl;refine .dw (fun w=>∃ R,Sat B w M (blk b6 [S nm,.slice aa m c,S n1,.slice ka xs.length kc] 126::R)) (fun j=>!([].contains j)) ?_;replace hS:=hS.drew; generalize w.drew=w at hS ⊢;have hH:=(hS.x [1])
  refine .tk 0 rfl ⟨_,hH⟩ (fun w ⟨R,hS⟩=>((.ldsW (cs:=[_,_,_,_]) (.of rfl) hS (k:=0) rfl X32 X11 rfl))) (.tp 1 rfl (fun w=>(.mo rfl)) (.tp 2 rfl (fun w=>(.fo 0 rfl X37 rfl rfl Qs9 rfl)) (.tk 3 rfl ⟨_,hH⟩ (fun w ⟨R,hS⟩=>(.lo rfl hS (k:=0) rfl Qg9 rfl)) (.tp 4 rfl (fun w=>(.cat (.of rfl) (.of rfl) (by (try simp only [Y0,List.length_cons,List.length_nil]); omega))) (.tp 5 rfl (fun w=>(.cat (.of rfl) (.of rfl) (by (try simp only [Y0,List.length_cons,List.length_nil]); omega))) (.b1 6 rfl (.call Xk8 rfl (ec9 rfl (ec9 rfl X0)) rfl (Xbf rb tq (([60,47] ++ nm) ++ [62]) lq B _ M _ hS) ?_)))))));rintro _ w ⟨rfl,hS⟩;refine .nil ?_;clear hH;have hH:=(hS.x [1])
  refine ⟨fun _ _=>⟨_,hH⟩,?_⟩;refine .b1 7 rfl (.so hS (k:=3) rfl rfl rfl rfl X11 rfl (by simp) ?_);intro w hS;try simp only [Yk,Ye,Y9,Y7,Yh,Ym,Yc] at hS
  refine .nil ?_;clear hH;have hH:=(hS.x [1])
  refine ⟨fun _ _=>⟨_,hH⟩,?_⟩;refine .tp 8 rfl (fun w=>(.ao rfl)) (.dn (.ret ?_));refine X1k (b:=_) (cs:=[_,_,_,_]) Xmt hS (k:=3) rfl X32 X11 rfl rfl rfl ?_;have hS9:=((((hS.pick 2 rfl).pick 1 rfl).drop (k:=2) rfl).drop (k:=2) rfl)
  obtain ⟨M3,hM3,hRk,hS9⟩:=hS9.freezeVec (k:=1) rfl;have hkq:X3a (X28 e) (tq.length+1) lq tq ks=some (ks,tq,lq):=by rw [X3a,if_pos hb66]
  rw [hkf,hkq] at hE1;dsimp only at hE1
  have hnl:nm.length<=10000:=by omega
  refine ⟨_,rfl,M3,nm,aa,m,c,n1,ka,xs.length,kc,_,_,_,rfl,hJ.trans (hJM.trans hM3),?_,hS9⟩;rw [hE1];rw [show (([60,47]:List UInt8) ++ nm ++ [62])=60::47::nm ++ [62] from rfl];cases hpq:Xg tq (60::47::nm ++ [62]) with
  | false=>rfl
  | true =>
   refine ⟨rfl,?_,rfl,?_⟩
   ·rw [if_pos rfl]; congr 1; simp only [List.length_cons,Y0,List.length_nil]
   ·refine ⟨hnl,by (try dsimp only [Nd.text]); show n1.length<=10000; omega,by show ps.length<=10000; omega,by show ks.length<=10000; omega,fun a ha=>by have:=hps a ha; omega,aa,c,ka,kc,xs,?_,?_,?_,?_,?_,hxk,hx4,fun i x k hx hk=>(hNd i x k hx hk).mono hM3⟩
    ·show [S nm,.slice aa m c,S n1,.slice ka xs.length kc]=[S nm,.slice aa ps.length c,S n1,.slice ka ks.length kc]
     rw [hmp,hxk]
    ·show ps.length<=c; omega
    ·show ks.length<=kc; omega
    ·have:=(hRS.mono hJM).mono hM3; rw [hmp] at this; exact this
    ·rw [hxk] at hRk; exact hRk
 refine .skip (.seq (.region (.run 3 rfl ⟨⟨by omega,by omega⟩,trivial⟩ ?_)));refine .call Tryz.func104 rfl (ec9 rfl (ec9 rfl X0)) rfl (ih e rfl (deep+1) tq lq rb B _ M _ (by omega) (by push_cast at hd; omega) (by omega) h0q h1q (hK.mono (hJ.trans hJM)) hS) ?_;rintro _ w ⟨M2,s1,a1,n1,m1,s2,a2,n2,m2,ok2,t7,l7,rfl,hM2,hE,hS⟩;refine .q 3 rfl (.allocA (cs:=[_,_,_,_]) hS X6i rfl ?_);intro b10 w hS;refine .so hS (k:=0) rfl rfl rfl rfl X11 rfl (by simp) ?_;intro w hS;try simp only [Yk,Ye,Y9,Y7,Yh,Ym,Yc] at hS
 refine .q 1 rfl (.nil (.seq (.seq (.q 2 rfl ?_))));refine .cond rfl (fun hb75=>?_) fun hb75=>?_
 ·refine .seq (.region (.val (.build (cs:=[_,_,_,_]) X4 X19 rfl) rfl ?_));refine .so hS (k:=4) rfl rfl rfl rfl X11 rfl (by simp) ?_;intro w hS;try simp only [Yk,Ye,Y9,Y7,Yh,Ym,Yc] at hS
  refine .q 1 rfl (.nil (.ret ?_));refine X1k (b:=_) (cs:=[_,_,_,_]) Xmt hS (k:=4) rfl X32 X11 rfl rfl rfl (⟨_,rfl,M2,[],none,0,0,[],none,0,0,false,_,_,rfl,hJ.trans (hJM.trans hM2),?_,(hS.z [1] 1 4)⟩);have hks:X3a (X28 e) (t5.length+1) (l - 1) t5 []=none:=by
   rw [hkf,X3a,if_neg (by rw [hb66]; decide)];cases hh:X28 e lq tq with
   | none=>rfl
   | some x=>obtain ⟨k,r,z⟩:=x; rw [hh] at hE; rw [hE.1] at hb75; cases hb75
  rw [hE1,hks]
 refine .skip ?_;have hok5:ok2=true:=by simpa using hb75
 obtain ⟨k,hEk,hNk⟩:∃ k,X28 e lq tq=some (k,t7,l7)/\NdV e M2 [S s1,.slice a1 n1 m1,S s2,.slice a2 n2 m2] k:=by
  cases hh:X28 e lq tq with
  | none=>rw [hh] at hE; rw [hE] at hok5; cases hok5
  | some x =>
   obtain ⟨k,r,z⟩:=x;rw [hh] at hE;obtain ⟨_,h2,h3,h4⟩:=hE;subst h2; subst h3;exact ⟨k,rfl,h4⟩
 have hshort:=Xaa _ _ _ _ _ _ hEk;have hlow:=Xiz _ _ _ _ _ _ h0q hEk;refine .region (.val (.fo 3 rfl X37 rfl rfl Xep rfl) rfl (.val (.lo rfl hS (k:=2) rfl Xkc rfl) rfl (.val (.ldsW (cs:=[_,_,_,_]) (.of rfl) hS (k:=0) rfl X32 X11 rfl) rfl (.buildSlice (cs:=[_,_,_,_]) hS (pc9 rfl X4) X83 X11 X6i rfl rfl rfl rfl ?_))));intro b80 w hS;refine .append (size:=4) (bytes:=80) hS (.of rfl) (.of rfl) (k:=3) rfl X83 Xhf rfl rfl rfl rfl rfl rfl rfl ⟨by omega,by unfold maxLen; omega⟩ rfl ?_;intro v81 w hS;obtain ⟨a81,c81,rfl,hcap81,_⟩:=hS.vecSlice (k:=3) (v:=v81) rfl;refine .val (.fo 3 rfl X37 rfl rfl Xep rfl) rfl (.s1 hS (k:=2) rfl rfl rfl rfl Xep (by simp) ?_);intro w hS;refine .nil ?_;replace hS:=(((((hS.pick 4 rfl).pick 4 rfl).pick 4 rfl).pick 4 rfl).drop (k:=4) rfl)
 have hxl9:(xs ++ [[S s1,.slice a1 n1 m1,S s2,.slice a2 n2 m2]]).length=xs.length+1:=by simp
 have hxf9:(xs ++ [[S s1,.slice a1 n1 m1,S s2,.slice a2 n2 m2]]).flatten=xs.flatten ++ [S s1,.slice a1 n1 m1,S s2,.slice a2 n2 m2]:=by simp
 refine ⟨(t7,l7,ks ++ [k],xs ++ [[S s1,.slice a1 n1 m1,S s2,.slice a2 n2 m2]],_,M2),⟨rfl,rfl,rfl,rfl,trivial⟩,⟨by (try dsimp only); omega,by (try dsimp only); omega,by (try dsimp only); omega,?_,hJM.trans hM2,by simp [hxk],fun x hx=>?_,fun i x k2 hx hk=>?_,by rw [Y0]; (try dsimp only [List.length_cons,List.length_nil]); omega,by rw [hxl9,hxf9]; exact hS⟩,by (try dsimp only); omega⟩
 ·rw [hkf,X3a,if_neg (by rw [hb66]; decide),hEk];exact Xc9 (fun l s k r l2 h=>Xaa _ _ _ _ _ _ h) _ _ _ _ _ (by omega) (by omega)
 ·rcases Y12.1 hx with h | h
  ·exact hx4 x h
  ·rw [Y3t.1 h]; rfl
 ·rcases Yp i xs.length with h | h
  ·rw [Yi h] at hx;rw [Yi (by omega)] at hk;exact (hNd i x k2 hx hk).mono hM2
  ·have hi:i=xs.length:=by have:=(Y5.1 hx).1; rw [hxl9] at this; omega
   subst hi;rw [Yt (Yq _),Y3k] at hx;rw [hxk,Yt (Yq _),Y3k] at hk;cases hx; cases hk
   exact hNk
theorem Xgd:∀ (d:Nat) (deep:Int) (t:List UInt8) (l:Int) (rb:Nat) (B w:World) (I:Im) (As:List X7),1<=deep->deep+(d:Int)=9->t.length<=10000->0<=l->l<=1000->Kx I->Sat B w I (blk rb [S (t),I64 (l)] 171::As)->Calls Tryz.prog 104 [ptr rb 0,I64 deep].toArray w (Ret fun v w'=>∃ J s1 a1 n1 m1 s2 a2 n2 m2 ok t' l',v=.tuple #[.agg ([S s1,.slice a1 n1 m1,S s2,.slice a2 n2 m2]:List Value).toArray,.bool ok]/\Le I J/\(match X28 d l t with
   | none=>ok=false
   | some (k,r,l2)=>ok=true/\t'=r/\l'=l2/\NdV d J [S s1,.slice a1 n1 m1,S s2,.slice a2 n2 m2] k)/\Sat B w' J (blk rb [S (t'),I64 (l')] 171::As)):=by
 intro d
 induction d with
 | zero=>exact fun deep t l rb B w I As=>Xf6 0 (fun e he=>by omega) deep t l rb B w I As
 | succ d ih=>exact fun deep t l rb B w I As=>Xf6 (d+1) (fun e he=>by have:e=d:=(by omega); subst this; exact ih) deep t l rb B w I As
theorem Xkq:Bld Tryz.prog 171 [(0,1),(1,1)] [S [],.int .i64 0]:=X23 X4f Tryz.zeroValue171 (fun w=>by simp [go_sem])
theorem nd0_V (I:Im) (d:Nat):NdV (d+1) I [S [],.slice none 0 0,S [],.slice none 0 0] nd0:=by
 refine ⟨by decide,by decide,by decide,by decide,fun a h=>by simp [nd0,Nd.attrs] at h,none,0,none,0,[],rfl,Yq _,Yq _,RS.nil I 2,RS.nil I 4,rfl,fun x h=>by simp at h,fun i x k h _=>by simp at h⟩
set_option maxRecDepth 4000 in
theorem Xqa (s:List UInt8) (hl:s.length<=10000) (B w:World) (I:Im) (hK:Kx I) (As:List X7) (hS:Sat B w I As) :
  Cz 63 [S s] w fun v w'=>∃ J s1 a1 n1 m1 s2 a2 n2 m2 e nd,v=.tuple #[.agg ([S s1,.slice a1 n1 m1,S s2,.slice a2 n2 m2]:List Value).toArray,I64 (e:Nat)]/\Le I J/\NdV 8 J [S s1,.slice a1 n1 m1,S s2,.slice a2 n2 m2] nd/\(Xhs s=none/\e=10/\nd=nd0\/Xhs s=some nd/\e=0)/\Sat B w' J As:=by
 refine calls Tryz.func63 rfl Tryz.ntmps63 rfl (.seq (.region (.allocA (cs:=[_,_,_,_]) hS X6i rfl ?_)));intro b2 w hS;refine .q 1 rfl (.nil (.seq (.t 1 rfl (.val (.build (cs:=[_,_]) (pc9 rfl (pc9 rfl X4)) Xkq rfl) rfl (.boxA (cs:=[_,_]) hS (.of rfl) rfl ?_)))));intro b9 w hS;refine .q 1 rfl (.nil (.seq (.t 1 rfl (.call Tryz.func104 rfl (ec9 rfl (ec9 rfl X0)) rfl (Xgd 8 1 s 200 b9 B _ I _ (by decide) (by decide) hl (by decide) (by decide) hK hS) ?_))));rintro _ w ⟨J,s1,a1,n1,m1,s2,a2,n2,m2,ok,t7,l7,rfl,hJ,hE,hS⟩;have hE2:∃ k,(X28 8 200 s=none/\ok=false)\/(X28 8 200 s=some (k,t7,l7)/\ok=true/\NdV 8 J [S s1,.slice a1 n1 m1,S s2,.slice a2 n2 m2] k):=by
  cases h:X28 8 200 s with
  | none=>rw [h] at hE; exact ⟨nd0,.inl ⟨rfl,hE⟩⟩
  | some x =>
   obtain ⟨k,r,z⟩:=x;rw [h] at hE;obtain ⟨h1,h2,h3,h4⟩:=hE;subst h2; subst h3;exact ⟨k,.inr ⟨rfl,h1,h4⟩⟩
 obtain ⟨k,hE2⟩:=hE2;have hN9:ok=true->NdV 8 J [S s1,.slice a1 n1 m1,S s2,.slice a2 n2 m2] k:=fun h=>by
  rcases hE2 with ⟨_,h2⟩ | ⟨_,_,h4⟩
  ·rw [h2] at h; cases h
  ·exact h4
 refine .q 3 rfl (.allocA (cs:=[_,_,_,_]) hS X6i rfl ?_);intro b5 w hS;refine .so hS (k:=0) rfl rfl rfl rfl X11 rfl (by simp) ?_;intro w hS;try simp only [Yk,Ye,Y9,Y7,Yh,Ym,Yc] at hS
 refine .q 1 rfl (.nil (.seq (.seq (.t 3 rfl (.gm rfl rfl rfl rfl (.gval rfl rfl (fun hg1=>(.nilCheck (.gd hg1 rfl))) rfl ?_))))));refine .gval rfl rfl (fun hg1=>(by exact .fieldAddr 0 (.gd hg1 rfl) X4f rfl rfl Qs9 rfl)) rfl ?_;refine .gval rfl rfl (fun hg1=>(by exact (.ld (.gd hg1 rfl) hS (k:=1) rfl Qg9 rfl))) rfl ?_;refine .gval rfl rfl (fun hg1=>(.nes (.gd hg1 rfl) (.of rfl))) rfl (.val (.po rfl rfl rfl) rfl (.q 1 rfl ?_));refine .gval rfl rfl (fun hg1=>(by exact (.ldsW (cs:=[_,_,_,_]) (.of rfl) hS (k:=0) rfl X32 X11 rfl))) rfl ?_;refine .gcall (T:=fun w=>Sat B w J (blk b5 [S s1,.slice a1 n1 m1,S s2,.slice a2 n2 m2] 126::blk b9 [S t7,I64 l7] 171::blk b2 [S [],.slice none 0 0,S [],.slice none 0 0] 126::As)) rfl rfl rfl Tryz.func105 rfl (fun hg1=>(Xd (.gd hg1 rfl) X0)) rfl (fun hg1=>Xco k [S s1,.slice a1 n1 m1,S s2,.slice a2 n2 m2] B _ J (hN9 (by revert hg1; cases ok <;> simp)) _ hS) hS ?_;rintro w hS;refine .gval rfl rfl (fun hg1=>(.not (.gd hg1 rfl))) rfl (.val (.po rfl rfl rfl) rfl (.nil ?_));refine .cond rfl (fun hb28=>?_) fun hb28=>?_
 ·refine .seq (.region (.val (.build (cs:=[_,_,_,_]) X4 X19 rfl) rfl ?_));refine .so hS (k:=2) rfl rfl rfl rfl X11 rfl (by simp) ?_;intro w hS;try simp only [Yk,Ye,Y9,Y7,Yh,Ym,Yc] at hS
  refine .q 1 rfl (.nil (.ret ?_));refine X1k (b:=_) (cs:=[_,_,_,_]) Tryz.results63 hS (k:=2) rfl X32 X11 rfl rfl rfl (⟨_,rfl,J,[],none,0,0,[],none,0,0,10,nd0,rfl,hJ,nd0_V J 7,.inl ⟨?_,rfl,rfl⟩,(hS.y 0 3)⟩);unfold Xhs;rcases hE2 with ⟨h,_⟩ | ⟨h,h2,_⟩
  ·rw [h]
  ·rw [h];dsimp only
   rw [if_pos];rw [h2] at hb28
   revert hb28
   cases (X2z 8 200 k) <;> simp
 refine .skip (.seq (.region ?_));refine .val (.ldsW (cs:=[_,_,_,_]) (.of rfl) hS (k:=0) rfl X32 X11 rfl) rfl (.so hS (k:=2) rfl rfl rfl rfl X11 rfl (by simp) ?_);intro w hS;try simp only [Yk,Ye,Y9,Y7,Yh,Ym,Yc] at hS
 refine .q 1 rfl (.nil (.ret ?_));refine X1k (b:=_) (cs:=[_,_,_,_]) Tryz.results63 hS (k:=2) rfl X32 X11 rfl rfl rfl ?_;have hb8:=hb28;simp only [Y10,Y2m] at hb8
 obtain ⟨⟨h1,h2⟩,h3⟩:=hb8;refine ⟨_,rfl,J,_,_,_,_,_,_,_,_,0,k,rfl,hJ,hN9 h1,.inr ⟨?_,rfl⟩,(hS.y 0 3)⟩;unfold Xhs;rcases hE2 with ⟨_,h⟩ | ⟨h,_,_⟩
 ·rw [h1] at h; cases h
 ·rw [h];dsimp only
  rw [if_neg];rintro (h5 | h5)
  ·exact h5 (by simpa using h2)
  ·rw [Option.isNone_iff_eq_none] at h5; rw [h5] at h3; cases h3
abbrev Xqc:=List UInt8×Option Addr×Nat×Nat×List UInt8×Option Addr×Nat×Nat
def clC (c:Xqc):List Value:=[S c.1,.slice c.2.1 c.2.2.1 c.2.2.2.1,S c.2.2.2.2.1,.slice c.2.2.2.2.2.1 c.2.2.2.2.2.2.1 c.2.2.2.2.2.2.2]
theorem Xu7 {d:Nat} {I:Im}:∀ {xs:List (List Value)} {ks:List Nd},xs.length=ks.length->(∀ (i:Nat) x k,xs[i]?=some x->ks[i]?=some k->NdV d I x k)->∃ ys:List Xqc,xs=ys.map clC
 | [],_,_,_=>⟨[],rfl⟩
 | x::xs,[],h,_=>by simp at h
 | x::xs,k::ks,h,hN=>by
  obtain ⟨s1,a1,n1,m1,s2,a2,n2,m2,rfl⟩:=(hN 0 x k rfl rfl).cells;obtain ⟨ys,rfl⟩:=Xu7 (xs:=xs) (ks:=ks) (by simpa using h) (fun i x k hx hk=>hN (i+1) x k hx hk);exact ⟨(s1,a1,n1,m1,s2,a2,n2,m2)::ys,rfl⟩
theorem NdV.name {I:Im}:∀ {d:Nat} {c:Xqc} {n:Nd},NdV d I (clC c) n->c.1=n.name
 | 0,_,_,h=>h.elim
 | d+1,c,n,h=>by
  obtain ⟨h1,h2,h3,h4,h5,aa,ca,ka,ck,xs,h6,_⟩:=h;injection h6 with h6; injection h6 with h6; injection h6 with h6; simpa using h6
theorem X8b {α:Type} (pr:α->Bool):∀ (l:List α) (k:Nat),(Xx pr l k=-1/\∀ x∈l,pr x=false)\/∃ j x,Xx pr l k=((k+j:Nat):Int)/\l[j]?=some x/\pr x=true/\∀ (i:Nat) y,i<j->l[i]?=some y->pr y=false
 | [],_=>.inl ⟨rfl,by simp⟩
 | a::l,k=>by
  rw [Xx];cases ha:pr a with
  | true=>exact .inr ⟨0,a,by simp,rfl,ha,fun _ _ h=>absurd h (by omega)⟩
  | false =>
   rcases X8b pr l (k+1) with ⟨h1,h2⟩ | ⟨j,x,h1,h2,h3,h4⟩
   ·refine .inl ⟨by simpa using h1,fun x hx=>?_⟩;rcases Y17.1 hx with rfl | hx
    ·exact ha
    ·exact h2 x hx
   ·refine .inr ⟨j+1,x,by simp only [Y1p,if_false]; rw [h1]; congr 1; omega,by simpa using h2,h3,fun i y hi hy=>?_⟩;cases i with
    | zero=>cases hy; exact ha
    | succ i=>exact h4 i y (by omega) (by simpa using hy)
def Xdf (n:Nd) (p:List UInt8):Option Nd:=n.kids.find? fun k=>k.name == p
theorem Xfc {α:Type} {pr:α->Bool}:∀ {l:List α} {j:Nat} {x:α},l[j]?=some x->pr x=true->(∀ (i:Nat) y,i<j->l[i]?=some y->pr y=false)->l.find? pr=some x
 | [],j,x,h,_,_=>by simp at h
 | a::l,0,x,h,hp,_=>by cases h; rw [Y2v,hp]
 | a::l,j+1,x,h,hp,hn=>by
  rw [Y2v,hn 0 a (by omega) rfl];exact Xfc (l:=l) (j:=j) (by simpa using h) hp (fun i y hi hy=>hn (i+1) y (by omega) (by simpa using hy))
theorem Xbk (a:Option Addr) (cap:Nat) (l:List (Xqc)) (hln:l.length<=9223372036854775807) (pr:Xqc->Bool) (fid:FuncId) (fn:Func) (hfn:Tryz.prog.funcs[fid]?=some fn) (hcal:Xj fn=true) (capv:List Value) (B w:World) (I:Im) (As:List X7) (hE:∀ w,Sat B w I As->X6y w clC 4 a l) (hf:∀ (r:Xqc) (hr:r∈l) w,Sat B w I As->Calls Tryz.prog fid ([Value.agg (clC r).toArray] ++ capv).toArray w (Ret fun v w'=>v=.bool (pr r)/\Sat B w' I As)) (hS:Sat B w I As) :
  Cz 106 [.slice a l.length cap,.func (.func fid) #[] capv.toArray] w fun v w'=>v=I64 (Xx pr l 0)/\Sat B w' I As:=by
 refine calls Tryz.func106 rfl Tryz.ntmps106 rfl (.seq (.q 1 rfl (.seq (.seq (.region (.run 3 rfl ⟨⟨_,X83⟩,trivial⟩ (.nil (.block (.loop (σ:=Nat) (fun i=>[(0,.slice a l.length cap),(1,.func (.func fid) #[] capv.toArray),(7,I64 (l.length:Nat)),(8,I64 (i:Nat))]) (fun i w=>i<=l.length/\(∀ (j:Nat) t,j<i->l[j]?=some t->pr t=false)/\Sat B w I As) (fun i=>l.length - i) 0 ⟨rfl,rfl,rfl,rfl,trivial⟩ ⟨Yo _,fun _ _ h=>absurd h (by omega),hS⟩ ?_)))))))));rintro i w ⟨hi,hno,hS⟩;refine .seq (.q 1 rfl (.seq ?_));refine .cond rfl (fun hb9=>?_) fun hb9=>?_
 ·have hc9:=hb9; try simp only [Y6] at hc9
  refine .skip (.seq (.block (.seq ?_)));obtain ⟨r,hr⟩:∃ r,l[i]?=some r:=⟨_,Y4 (by omega)⟩
  obtain ⟨p,rfl,hx⟩:=hE w hS i r hr;refine .q 2 rfl (.seq (.t 3 rfl ?_));refine .val (.ii rfl rfl (by omega) (by omega) X83 X11) rfl (.val (.ldR (.of rfl) hx X32 X11 rfl) rfl (.vcall (cap:=capv) hfn hcal (.of rfl) (ec9 rfl X0) rfl (hf r (Yl hr) w hS) ?_));clear hS;rintro _ w ⟨rfl,hS⟩;refine .nil (.cond rfl (fun hb16=>?_) fun hb16=>?_)
  ·refine .seq (.q 2 rfl (.ret (Xc Tryz.results106 rfl ?_)));exact ⟨_,rfl,by rw [X2k hno hr hb16],hS⟩
  have hc16:=hb16; try simp only [Y6] at hc16
  refine .skip (.region (.run 2 rfl ⟨⟨by omega,by omega⟩,trivial⟩ (.nil ?_)));refine ⟨i+1,⟨rfl,rfl,rfl,rfl,trivial⟩,⟨by (try dsimp only); omega,fun j t hj ht=>?_,hS⟩,by (try dsimp only); omega⟩;rcases Yp j i with h1 | h1
  ·exact hno j t h1 ht
  ·have e:j=i:=by omega
   subst e;rw [hr] at ht; cases ht;exact hb16
 have hc9:=hb9; try simp only [Y6] at hc9
 refine .exit (.seq (.q 1 rfl (.ret (Xc Tryz.results106 rfl ?_))));exact ⟨_,rfl,by rw [X21 (fun j t ht=>hno j t (by have:=(Y5.1 ht).1; omega) ht)],hS⟩
theorem Xh9 (r:Xqc) (p:List UInt8) (b7:Nat) (B w:World) (I:Im) (As:List X7) (hS:Sat B w I (blk b7 [S p] 9::As)) :
  Cz 107 [.agg (clC r).toArray,ptr b7 0] w fun v w'=>v=.bool (r.1 == p)/\Sat B w' I (blk b7 [S p] 9::As):=by
 refine calls Tryz.func107 rfl Tryz.ntmps107 rfl (.seq (.region (.boxA (cs:=[_,_,_,_]) hS (.of rfl) rfl ?_)));intro b2 w hS;refine .q 1 rfl (.nil (.seq (.region ?_)));refine .val (.fo 0 rfl X37 rfl rfl Qs9 rfl) rfl (.val (.lo rfl hS (k:=0) rfl Qg9 rfl) rfl (.val (.lo rfl hS (k:=1) rfl Qg9 rfl) rfl (.q 2 rfl (.nil (.ret (Xc Tryz.results107 rfl ?_))))));exact ⟨_,rfl,rfl,hS.y 0 1⟩
set_option maxRecDepth 4000 in
theorem Xq9 (n:Nd) (p:List UInt8) (s1:List UInt8) (a1:Option Addr) (n1 m1:Nat) (s2:List UInt8) (a2:Option Addr) (n2 m2:Nat) (pb:Nat) (B w:World) (I:Im) (hN:NdV 8 I [S s1,.slice a1 n1 m1,S s2,.slice a2 n2 m2] n) (As:List X7) (hS:Sat B w I (blk pb [S p] 9::As)) :
  Cz 64 [.agg ([S s1,.slice a1 n1 m1,S s2,.slice a2 n2 m2]:List Value).toArray,.slice (some (ad pb 0)) 1 1] w fun v w'=>∃ t1 b1 k1 l1 t2 b2 k2 l2 ok nd,v=.tuple #[.agg ([S t1,.slice b1 k1 l1,S t2,.slice b2 k2 l2]:List Value).toArray,.bool ok]/\(Xdf n p=none/\ok=false\/Xdf n p=some nd/\ok=true)/\(∃ d,NdV d I [S t1,.slice b1 k1 l1,S t2,.slice b2 k2 l2] nd)/\Sat B w' I (blk pb [S p] 9::As):=by
 refine calls Tryz.func64 rfl Tryz.ntmps64 rfl (.seq (.region (.boxA (cs:=[_,_,_,_]) hS (.of rfl) rfl ?_)));intro b2 w hS;refine .allocA (cs:=[_,_,_,_]) hS X6i rfl ?_;intro b4 w hS;refine .q 1 rfl (.nil (.seq (.seq (.region (.run 3 rfl ⟨⟨_,X1u⟩,trivial⟩ (.nil (.block ?_)))))));have hS0:=hS; clear hS;refine .loop (σ:=Nat×Nat×Nd×Xqc) (fun ⟨i,d,nd,s1,a1,n1,m1,s2,a2,n2,m2⟩=>[(2,ptr b2 0),(4,ptr b4 0),(9,.slice (some (ad pb 0)) 1 1),(10,I64 ((1:Nat):Int)),(11,I64 (i:Nat))]) (fun ⟨i,d,nd,s1,a1,n1,m1,s2,a2,n2,m2⟩ w=>(i=0/\nd=n\/i=1/\Xdf n p=some nd)/\NdV (d+1 - i) I [S s1,.slice a1 n1 m1,S s2,.slice a2 n2 m2] nd/\(i=0->d=7)/\Sat B w I (blk b4 [S [],.slice none 0 0,S [],.slice none 0 0] 126::blk b2 [S s1,.slice a1 n1 m1,S s2,.slice a2 n2 m2] 126::blk pb [S p] 9::As)) (fun ⟨i,d,nd,s1,a1,n1,m1,s2,a2,n2,m2⟩=>1 - i) (0,7,n,s1,a1,n1,m1,s2,a2,n2,m2) ⟨rfl,rfl,rfl,rfl,rfl,trivial⟩ ⟨.inl ⟨rfl,rfl⟩,hN,fun _=>rfl,hS0⟩ ?_;rintro ⟨i,d,nd,s1,a1,n1,m1,s2,a2,n2,m2⟩ w ⟨hin,hNd,hd7,hS⟩;clear hS0;refine .seq (.q 1 rfl (.seq ?_));refine .cond rfl (fun hb12=>?_) fun hb12=>?_
 ·have hc12:=hb12; simp only [Y6] at hc12;refine .skip (.seq (.block (.seq ?_)));have hi0:i=0:=by omega
  subst hi0;obtain rfl:=hd7 rfl;obtain rfl:nd=n:=by
   rcases hin with ⟨_,h⟩ | ⟨h,_⟩
   ·exact h
   ·omega
  replace hNd:NdV 8 I [S s1,.slice a1 n1 m1,S s2,.slice a2 n2 m2] nd:=hNd;refine .region (.val (.io rfl rfl (by omega) (by omega) X1u Qs9) rfl (.val (.lo rfl hS (k:=2) rfl Qg9 rfl) rfl (.alloc1 hS Qz9 rfl rfl ?_)));intro b7 w hS;refine .s1 hS (k:=0) rfl rfl rfl rfl Qs9 (by simp) ?_;intro w hS;refine .nil (.seq ?_);obtain ⟨hnl,htl,hal,hkl,hat,aa,ca,ka,ck,xs,hcs,hca,hck,hRa,hRk,hxl,hx4,hKD⟩:=hNd;obtain ⟨ys,rfl⟩:=Xu7 hxl hKD;have hyl:ys.length=nd.kids.length:=by simpa using hxl
  injection hcs with e1 hcs; injection hcs with e2 hcs; injection hcs with e3 hcs; injection hcs with e4 hcs
  injection e1 with e1; injection e3 with e3; injection e2 with e2 e2b e2c; injection e4 with e4 e4b e4c
  rw [<- hyl] at e4b hRk;subst e4; subst e4b; subst e4c;have hnm:∀ (i:Nat) y k,ys[i]?=some y->nd.kids[i]?=some k->y.1=k.name:=fun i y k hy hk=>NdV.name (hKD i _ k (by rw [Yu,hy]; rfl) hk)
  refine .region (.val (.fo 3 rfl X37 rfl rfl Xep rfl) rfl (.val (.lo rfl hS (k:=2) rfl Xkc rfl) rfl (.val (.makeFunc (ec9 rfl X0)) rfl (.call Tryz.func106 rfl (ec9 rfl (ec9 rfl X0)) rfl (Xbk a2 m2 ys (by omega) (fun r=>r.1 == p) 107 _ Tryz.func107 rfl [ptr b7 0] B _ I _ (fun w h=>X6r (cells:=clC) (s:=4) (fun _=>rfl) h (by exact hRk)) (fun r hr w h=>Xh9 r p b7 B w I _ h) hS) ?_))));rintro _ w ⟨rfl,hS⟩;try dsimp only [List.eraseIdx] at hS
  have hfi:=X8b (fun r:Xqc=>r.1 == p) ys 0;generalize Xx (fun r:Xqc=>r.1 == p) ys 0=ix at hfi;refine .q 1 rfl (.nil (.seq (.seq (.q 2 rfl ?_))));refine .cond rfl (fun hb20=>?_) fun hb20=>?_
  ·have hc20:=hb20; simp only [Y6] at hc20;refine .seq (.region (.val (.build (cs:=[_,_,_,_]) X4 X19 rfl) rfl ?_));refine .so hS (k:=1) rfl rfl rfl rfl X11 rfl (by simp) ?_;intro w hS;try simp only [Yk,Ye,Y9,Y7,Yh,Ym,Yc] at hS
   refine .q 1 rfl (.nil (.ret ?_));refine X1k (b:=_) (cs:=[_,_,_,_]) Tryz.results64 hS (k:=1) rfl X32 X11 rfl rfl rfl (⟨_,rfl,[],none,0,0,[],none,0,0,false,nd0,rfl,.inl ⟨?_,rfl⟩,⟨_,nd0_V I 6⟩,(hS.z [3] 1 3)⟩);unfold Xdf;rw [Y57];intro k hk;obtain ⟨i,hi⟩:=Yy.1 hk;obtain ⟨y,hy⟩:∃ y,ys[i]?=some y:=⟨_,Y4 (by have:=(Y5.1 hi).1; omega)⟩
   rcases hfi with ⟨_,h⟩ | ⟨j,y2,h1,_⟩
   ·have:=h y (Yl hy)
    rw [hnm i y k hy hi] at this;simpa using this
   ·rw [h1] at hc20; omega
  have hc20:=hb20; simp only [Y6] at hc20;refine .skip ?_;obtain ⟨j,y,hj,hyj,hpy,hfst⟩:∃ j y,ix=((j:Nat):Int)/\ys[j]?=some y/\(y.1 == p)=true/\∀ (i:Nat) y,i<j->ys[i]?=some y->(y.1 == p)=false:=by
   rcases hfi with ⟨h,_⟩ | ⟨j,y,h1,h2,h3,h4⟩
   ·rw [h] at hc20; omega
   ·exact ⟨j,y,by simpa using h1,h2,h3,h4⟩
  subst hj;have hjl:=(Y5.1 hyj).1;obtain ⟨k,hk⟩:∃ k,nd.kids[j]?=some k:=⟨_,Y4 (by omega)⟩
  obtain ⟨q,hq9,hx⟩:=Xde hRk (by rw [Y14]) hx4 (i:=j) (x:=clC y) (by rw [Yu,hyj]; rfl);have hNk:=hKD j (clC y) k (by rw [Yu,hyj]; rfl) hk;have hkd:Xdf nd p=some k:=Xfc hk (by rw [<- hnm j y k hyj hk]; exact hpy) (fun i k2 hi hk2=>by
   obtain ⟨y2,hy2⟩:∃ y,ys[i]?=some y:=⟨_,Y4 (by omega)⟩
   rw [<- hnm i y2 k2 hy2 hk2];exact hfst i y2 hi hy2)
  obtain ⟨s3,a3,n3,m3,s4,a4,n4,m4⟩:=y;unfold clC at hx hNk;dsimp only at hx hNk
  subst hq9;refine .region (.val (.fo 3 rfl X37 rfl rfl Xep rfl) rfl (.val (.lo rfl hS (k:=2) rfl Xkc rfl) rfl (.q 1 rfl (.val (.ii rfl rfl (by omega) (by omega) X83 X11) rfl ?_))));rw [Yf];refine .val (.ldsI (us:=[S s3,.slice a3 n3 m3,S s4,.slice a4 n4 m4]) (.of rfl) hS hx X32 X11 rfl (fun _ _ h=>h)) rfl (.so hS (k:=2) rfl rfl rfl rfl X11 rfl (by simp) ?_);intro w hS;try simp only [Yk,Ye,Y9,Y7,Yh,Ym,Yc] at hS
  refine .nil (.region (.run 2 rfl ⟨⟨by omega,by omega⟩,trivial⟩ (.nil ?_)));exact ⟨(0+1,7,k,s3,a3,n3,m3,s4,a4,n4,m4),⟨rfl,rfl,rfl,rfl,rfl,trivial⟩,⟨.inr ⟨rfl,hkd⟩,hNk,fun h=>by simp at h,(hS.z [3,3,3] 3 1)⟩,by simp⟩
 have hc12:=hb12; simp only [Y6] at hc12;refine .exit (.seq (.region ?_));refine .val (.ldsW (cs:=[_,_,_,_]) (.of rfl) hS (k:=1) rfl X32 X11 rfl) rfl (.so hS (k:=0) rfl rfl rfl rfl X11 rfl (by simp) ?_);intro w hS;try simp only [Yk,Ye,Y9,Y7,Yh,Ym,Yc] at hS
 refine .q 1 rfl (.nil (.ret ?_));refine X1k (b:=_) (cs:=[_,_,_,_]) Tryz.results64 hS (k:=0) rfl X32 X11 rfl rfl rfl ?_;have hi1:i=1:=by rcases hin with ⟨h,_⟩ | ⟨h,_⟩ <;> omega
 subst hi1;have hkd:Xdf n p=some nd:=by
  rcases hin with ⟨h,_⟩ | h
  ·omega
  ·exact h.2
 exact ⟨_,rfl,s1,a1,n1,m1,s2,a2,n2,m2,true,nd,rfl,.inr ⟨hkd,rfl⟩,⟨d,hNd⟩,(hS.z [2] 1 2)⟩
end Go.Proofs.YtbciobiiejpdgaaGreatDoor
namespace Go.Proofs.YtbciobiiejpdgaaGreatDoor
open Gk Ul Pc Pat Xm Tr Tk
theorem X3z:Bld Tryz.prog 45 [(0,1),(1,1),(2,1),(3,1)] [S [],S [],.int .i64 0,.int .i64 0]:=X23 X8s Xgw (fun w=>by simp [go_sem])
theorem Xkl (s:List UInt8) (hs:s.length<=1000000) (B w:World) (I:Im) (hK:Kx I) (hP:PreAt I) (As:List X7) (hS:Sat B w I As) :
  Cz 141 [S s] w fun v w'=>v=(match Xt s with | some (k,d)=>.tuple #[I64 (k:Nat),U64 (d:Nat),.bool true] | none=>.tuple #[I64 0,U64 0,.bool false])/\Sat B w' I As:=by
 refine calls Xmm rfl Tryz.ntmps141 rfl (.seq (.q 3 rfl (.seq (.t 1 rfl (.call Qf187 rfl (ec9 rfl (ec9 rfl X0)) rfl (Xim s 45 hs B _ I hK _ hS) ?_)))));rintro _ w ⟨rfl,hS⟩;refine .q 7 rfl (.nil (.seq (.t 1 rfl ?_)));refine .call Tryz.func188 rfl (ec9 rfl X0) rfl (Xiy _ (by have:=X2l [45] s; rw [Yg]; omega) B _ I _ hS) ?_;rintro _ w ⟨rfl,hS⟩;rcases hdr:X41 ((X6 [45] s).drop 1) with _ | d
 ·refine .vm rfl rfl (.q 4 rfl (.nil (.seq (.region (.val (Ex.slcArr (m:=7) (s:=1) (.of rfl) Xn0 Qs9) rfl (.q 1 rfl (.call Xk9 rfl (ec9 rfl (ec9 rfl X0)) rfl (X3u (some (ad 1 0)) 7 PREV (by decide) (upto [45] s) B _ I ⟨rfl,fun _=>⟨_,rfl,hP⟩⟩ As hS) ?_)))))));rintro _ w ⟨rfl,hS⟩;refine .q 1 rfl (.nil (.seq (.seq (.t 3 rfl (.gm rfl rfl rfl rfl (.gval rfl rfl (fun hg1=>(.lss (.gd hg1 rfl) (.of rfl))) rfl (.val (.po rfl rfl rfl) rfl (.nil ?_))))))));refine .cond rfl (fun hb30=>?_) fun hb30=>?_
  ·refine .seq (.q 3 rfl (.ret (Xap Xem rfl rfl rfl ?_)));refine ⟨_,rfl,?_,hS⟩
   have:Xt s=none:=by
    unfold Xt;split
    ·rfl
    ·rw [hdr]; rfl
   rw [this]
  refine .skip (.seq (.q 5 rfl (.ret (Xap Xem rfl rfl rfl ?_))));exfalso; simp at hb30
 refine .vm rfl rfl (.q 4 rfl (.nil (.seq (.region (.val (Ex.slcArr (m:=7) (s:=1) (.of rfl) Xn0 Qs9) rfl (.q 1 rfl (.call Xk9 rfl (ec9 rfl (ec9 rfl X0)) rfl (X3u (some (ad 1 0)) 7 PREV (by decide) (upto [45] s) B _ I ⟨rfl,fun _=>⟨_,rfl,hP⟩⟩ As hS) ?_)))))));rintro _ w ⟨rfl,hS⟩;refine .q 1 rfl (.nil (.seq (.seq (.t 3 rfl (.gm rfl rfl rfl rfl (.gval rfl rfl (fun hg1=>(.lss (.gd hg1 rfl) (.of rfl))) rfl (.val (.po rfl rfl rfl) rfl (.nil ?_))))))));refine .cond rfl (fun hb30=>?_) fun hb30=>?_
 ·refine .seq (.q 3 rfl (.ret (Xap Xem rfl rfl rfl ?_)));refine ⟨_,rfl,?_,hS⟩;have h0:=(X9k (upto [45] s)).2 (by simp at hb30; omega);rw [Xt,if_pos h0]
 refine .skip (.seq (.q 5 rfl (.ret (Xap Xem rfl rfl rfl ?_))));refine ⟨_,rfl,?_,hS⟩;obtain ⟨h0,h1⟩:=(X9k (upto [45] s)).1 (by simp at hb30; omega);rw [Xt,if_neg h0,hdr,h1];rfl
theorem Xnd (s:List UInt8) (kind:Int) (hs:s.length<=1000000) (B w:World) (I:Im) (hK:Kx I) (hP:PreAt I) (As:List X7) (hS:Sat B w I As) :
  Cz 99 [S s,I64 kind] w fun v w'=>v=.bool (isT s kind)/\Sat B w' I As:=by
 refine calls Qf99 rfl Tryz.ntmps99 rfl (.seq (.q 1 rfl (.seq (.t 1 rfl (.call Xmm rfl (ec9 rfl X0) rfl (Xkl s hs B _ I hK hP _ hS) ?_)))));rintro _ w ⟨rfl,hS⟩;rcases hps:Xt s with _ | ⟨k,d⟩
 ·refine .vm rfl rfl (.q 6 rfl (.nil (.seq (.t 2 rfl (.gm rfl rfl rfl rfl (.gm rfl rfl rfl rfl (.gval rfl rfl (fun hg1=>(.eql (.gd hg1 rfl) (.gd hg1 rfl))) rfl (.val (.pa rfl rfl rfl) rfl (.q 1 rfl (.nil (.ret (Xc Qr99 rfl ?_))))))))))));exact ⟨_,rfl,by rw [isT,hps]; rfl,hS⟩
 refine .vm rfl rfl (.q 6 rfl (.nil (.seq (.t 2 rfl (.gm rfl rfl rfl rfl (.gm rfl rfl rfl rfl (.gval rfl rfl (fun hg1=>(.eql (.gd hg1 rfl) (.gd hg1 rfl))) rfl (.val (.pa rfl rfl rfl) rfl (.q 1 rfl (.nil (.ret (Xc Qr99 rfl ?_))))))))))));exact ⟨_,rfl,by rw [isT,hps]; rfl,hS⟩
theorem Xd5 {n:Nat} (h:n<=1099511627776):(Go.Lib.decDigits n).length<=13:=by
 rw [Go.Lib.decDigits_length];have key:∀ (k n:Nat),n<10 ^ k->1<=k->Go.Lib.nDigits n<=k:=by
  intro k
  induction k with
  | zero=>intro n _ h; omega
  | succ k ih =>
   intro n h _
   by_cases h10:n<10
   ·rw [Go.Lib.nDigits_small h10]; omega
   ·rw [Go.Lib.nDigits_big h10];rw [Y22] at h;cases k with
    | zero=>simp at h; omega
    | succ k=>have:=ih (n / 10) (by omega) (by omega); omega
 exact key 13 n (by omega) (by decide)
theorem Xry (n:Nat):Go.Lib.decFrom 0 (Go.Lib.decDigits n)=some n:=by
 induction n using Nat.strongRecOn with
 | _ n ih =>
  have dig:∀ d,d<10->Go.Lib.digitVal (UInt8.ofNat (48+d))=some d:=fun d hd =>
   (by decide:∀ d:Fin 10,Go.Lib.digitVal (UInt8.ofNat (48+d.val))=some d.val) ⟨d,hd⟩
  by_cases h:n<10
  ·rw [Go.Lib.decDigits,dif_pos h]
   have:=dig n h
   simp only [Go.Lib.decFrom,this,Y32,Yc]
  ·rw [Go.Lib.decDigits,dif_neg h];have h1:=ih (n / 10) (by omega);have h2:=Go.Lib.decFrom_take (Go.Lib.decDigits (n / 10) ++ [UInt8.ofNat (48+n % 10)]) (Go.Lib.decDigits (n / 10)).length 0 (n / 10) (UInt8.ofNat (48+n % 10)) (n % 10) (by rw [Y2d]; exact h1) (by rw [Yt (Yq _),Y3k]; rfl) (dig (n % 10) (by omega));rw [Yx (by rw [Y0]; simp)] at h2;rw [h2]; congr 1; omega
theorem X9z {n:Nat} (h:n<=1099511627776):Go.Lib.atoiAll (Go.Lib.decDigits n)=.ok (n:Int):=by
 rw [Go.Lib.atoiAll_short _ (by have:=Xd5 h; omega)];have h1:=Xry n;have h2:=(X49 n).2.1;have h3:=(X49 n).2.2.2;have h4:Go.Lib.atoi (Go.Lib.decDigits n)=some (n:Int):=by
  cases hd:Go.Lib.decDigits n with
  | nil=>exact absurd hd h3
  | cons c r =>
   rw [hd] at h1 h2;have hc:=(Y1c.1 h2) c (by simp);have n45:(c == 45)=false:=by
    have:=Xh (p:=fun c=>!X7w c || !(c == 45)) (by decide +kernel) c
    rw [hc] at this; simpa using this
   have n43:(c == 43)=false:=by
    have:=Xh (p:=fun c=>!X7w c || !(c == 43)) (by decide +kernel) c
    rw [hc] at this; simpa using this
   rw [Go.Lib.atoi,n45,n43];simp only [Y1p,if_false]
   rw [show Go.Lib.decNat (c::r)=some n from h1]; rfl
 rw [h4]; rfl
theorem Xev (n:Nat) (hn:n<=1099511627776) (B w:World) (I:Im) (hK:Kx I) (As:List X7) (hS:Sat B w I As):Calls Tryz.prog 67 [I64 (n:Nat)].toArray w (Ret fun v w'=>v=S (Go.Lib.decDigits n)/\Sat B w' I As) :=
 (Tryz.strconv_Itoa n (by omega) (by omega) w (hK.pow B w As hS)).mono fun e w' he=>by
  obtain ⟨rfl,k,os,rfl⟩:=he;refine ⟨_,rfl,?_,Xj9 (X53 hS k) os⟩;unfold Go.Lib.itoa;rw [if_neg (by omega),Yf]
theorem Xnc (s:List UInt8) (hs:s.length<=10000) (B w:World) (I:Im) (hK:Kx I) (As:List X7) (hS:Sat B w I As):Calls Tryz.prog 65 [S s].toArray w (Ret fun v w'=>∃ n e,v=.tuple #[I64 n,e]/\(∀ k:Nat,k<=1099511627776->s=Go.Lib.decDigits k->n=k)/\Sat B w' I As):=by
 have hl:(ByteArray.mk s.toArray).size<=10000:=hs;have hl2:(ByteArray.mk s.toArray).data.toList=s:=rfl;cases h:Go.Lib.atoiAll s with
 | ok v =>
  refine (Tryz.strconv_Atoi_ok ⟨s.toArray⟩ (by omega) v h w).mono fun e w' he=>?_
  obtain ⟨rfl,hw⟩:=he;refine ⟨_,rfl,v,_,rfl,fun k hk e=>?_,?_⟩
  ·subst e; rw [X9z hk] at h; injection h with h; exact h.symm
  ·rcases hw with rfl | ⟨t,rfl⟩
   ·exact hS
   ·exact hS.grown (Go.Lib.bytesWorld_below _ _ _)
 | range =>
  obtain ⟨te,pe,hv⟩:=hK.rng B w As hS;refine (Tryz.strconv_Atoi_range ⟨s.toArray⟩ (by omega) h _ w hv (.inr ⟨te,pe,rfl⟩)).mono fun e w' he=>?_
  obtain ⟨N,rfl,_,_,hb⟩:=he;exact ⟨_,rfl,_,_,rfl,fun k hk e=>(by subst e; rw [X9z hk] at h; cases h),hS.grown hb⟩
 | _ =>
  obtain ⟨te,pe,hv⟩:=hK.syn B w As hS;refine (Any.strconv_Atoi_syntax Tryz.laysC172 ⟨s.toArray⟩ (by omega) h _ w hv (.inr ⟨te,pe,rfl⟩)).mono fun e w' he=>?_
  obtain ⟨N,rfl,_,_,hb⟩:=he;exact ⟨_,rfl,0,_,rfl,fun k hk e=>(by subst e; rw [X9z hk] at h; cases h),hS.grown hb⟩
def X8 (n:Nt):List Value:=[S n.ticket,S n.url,I64 n.tries,I64 n.next]
theorem Xg4 (n:Nt) (hn:n.ticket.length<=1000000) (hu:n.url.length<=9223372036854775807) (B w:World) (I:Im) (hK:Kx I) (hP:PreAt I) (As:List X7) (hS:Sat B w I As) :
  Cz 54 [.agg (X8 n).toArray] w fun v w'=>v=.bool (X2f n)/\Sat B w' I As:=by
 refine calls Tryz.func54 rfl Tryz.ntmps54 rfl (.seq (.region (.boxA (cs:=[_,_,_,_]) hS (.of rfl) rfl ?_)));intro b1 w hS;refine .q 1 rfl (.nil (.seq (.region ?_)));refine .val (.fo 0 rfl X8s rfl rfl Qs9 rfl) rfl (.val (.lo rfl hS (k:=0) rfl Qg9 rfl) rfl (.call Qf99 rfl (ec9 rfl (ec9 rfl X0)) rfl (Xnd n.ticket 2 hn B _ I hK hP _ hS) ?_));rintro _ w ⟨rfl,hS⟩;refine .q 1 rfl (.gval rfl rfl (fun hg1=>(by exact .fo 0 rfl X8s rfl rfl Qs9 rfl)) rfl ?_);refine .gval rfl rfl (fun hg1=>(.ld (.gd hg1 rfl) hS (k:=0) rfl Qg9 rfl)) rfl (.gcall (T:=fun w=>Sat B w I (blk b1 [S n.ticket,S n.url,I64 n.tries,I64 n.next] 45::As)) rfl rfl rfl Qf99 rfl (fun hg1=>(Xd (.gd hg1 rfl) (ec9 rfl X0))) rfl (fun hg1=>Xnd n.ticket 3 hn B _ I hK hP _ hS) hS ?_);rintro w hS;refine .val (.po rfl rfl rfl) rfl (.q 1 rfl ?_);refine .gval rfl rfl (fun hg1=>(by exact .fo 1 rfl X8s rfl rfl Qs9 rfl)) rfl ?_;refine .gval rfl rfl (fun hg1=>(.ld (.gd hg1 rfl) hS (k:=0) rfl Qg9 rfl)) rfl (.gval rfl rfl (fun hg1=>(.len (.gd hg1 rfl) Qu9)) rfl (.gval rfl rfl (fun hg1=>(.leq (.gd hg1 rfl) (.of rfl))) rfl (.val (.pa rfl rfl rfl) rfl (.q 1 rfl ?_))));refine .gval rfl rfl (fun hg1=>(by exact .fo 2 rfl X8s rfl rfl Qs3 rfl)) rfl ?_;refine .gval rfl rfl (fun hg1=>(.ld (.gd hg1 rfl) hS (k:=0) rfl Qg3 rfl)) rfl (.gval rfl rfl (fun hg1=>(.geq (.gd hg1 rfl) (.of rfl))) rfl (.val (.pa rfl rfl rfl) rfl (.q 1 rfl ?_)));refine .gval rfl rfl (fun hg1=>(by exact .fo 2 rfl X8s rfl rfl Qs3 rfl)) rfl ?_;refine .gval rfl rfl (fun hg1=>(.ld (.gd hg1 rfl) hS (k:=0) rfl Qg3 rfl)) rfl (.gval rfl rfl (fun hg1=>(.leq (.gd hg1 rfl) (.of rfl))) rfl (.val (.pa rfl rfl rfl) rfl (.q 1 rfl ?_)));refine .gval rfl rfl (fun hg1=>(by exact .fo 3 rfl X8s rfl rfl Qs3 rfl)) rfl ?_;refine .gval rfl rfl (fun hg1=>(.ld (.gd hg1 rfl) hS (k:=0) rfl Qg3 rfl)) rfl (.gval rfl rfl (fun hg1=>(.geq (.gd hg1 rfl) (.of rfl))) rfl (.val (.pa rfl rfl rfl) rfl (.q 1 rfl ?_)));refine .gval rfl rfl (fun hg1=>(by exact .fo 3 rfl X8s rfl rfl Qs3 rfl)) rfl ?_;refine .gval rfl rfl (fun hg1=>(.ld (.gd hg1 rfl) hS (k:=0) rfl Qg3 rfl)) rfl (.gval rfl rfl (fun hg1=>(.leq (.gd hg1 rfl) (.of rfl))) rfl (.val (.pa rfl rfl rfl) rfl (.q 1 rfl (.nil (.ret (Xc Tryz.results54 rfl ?_))))));exact ⟨_,rfl,rfl,hS.y 0 1⟩
theorem Xd2 {J:Im} {b:Nat} {cs:List Value} {E:TypeId} (h:J b=some (Xl cs E)):At J (ad b 0) cs :=
 ⟨rfl,cs.toArray,E,(0,0),h,fun j v hv=>by rw [show (ad b 0).off+j=j from Yc j]; simpa using hv⟩
theorem Xuc (J:Im) (nm tx:List UInt8) (h1:nm.length<=10000) (h2:tx.length<=10000) (d:Nat):NdV (d+1) J [S nm,.slice none 0 0,S tx,.slice none 0 0] (.mk nm [] tx []) :=
 ⟨h1,h2,Yo _,Yo _,fun a h=>by simp [Nd.attrs] at h,none,0,none,0,[],rfl,Yq _,Yq _,RS.nil J 2,RS.nil J 4,rfl,fun x h=>by simp at h,fun i x k h _=>by simp at h⟩
theorem Xwr {J:Im} {b15 b20:Nat} {t:List UInt8} {nn:Nat} (ht:t.length<=9000) (hn:nn<=1099511627776) (h1:J b15=some (Xl [S ID_,S (LR_ ++ t),S VER,S V20,S Xmf,S (Go.Lib.decDigits nn)] 136)) (h2:J b20=some (Xl [S NID,.slice none 0 0,S Xm4,.slice none 0 0,S SIX,.slice none 0 0,S t,.slice none 0 0] 126)) :
  NdV 8 J [S LREQ,.slice (some (ad b15 0)) 3 3,S [],.slice (some (ad b20 0)) 2 2] (X9e t nn):=by
 have hd:=Xd5 hn;refine ⟨(show LREQ.length<=10000 by decide),Yo _,(show 3<=10000 by decide),(show 2<=10000 by decide),fun a ha=>?_,some (ad b15 0),3,some (ad b20 0),2,[[S NID,.slice none 0 0,S Xm4,.slice none 0 0],[S SIX,.slice none 0 0,S t,.slice none 0 0]],rfl,Yq _,Yq _,⟨rfl,fun _=>⟨_,rfl,Xd2 h1⟩⟩,⟨rfl,fun _=>⟨_,rfl,Xd2 h2⟩⟩,rfl,fun x hx=>?_,fun i x k hx hk=>?_⟩
 ·simp only [X9e,Nd.attrs,Y17,List.mem_nil_iff,or_false] at ha
  rcases ha with rfl | rfl | rfl
  ·refine ⟨by (try dsimp only); decide,?_⟩;show (LR_ ++ t).length<=10000
   rw [Y0]; show 3+t.length<=10000; omega
  ·exact ⟨by decide,by decide⟩
  ·exact ⟨by (try dsimp only); decide,by (try dsimp only); omega⟩
 ·simp only [Y17,List.mem_nil_iff,or_false] at hx
  rcases hx with rfl | rfl <;> rfl
 ·match i,hx,hk with
  | 0,hx,hk=>cases hx; cases hk; exact Xuc J NID Xm4 (by decide) (by decide) 6
  | 1,hx,hk=>cases hx; cases hk; exact Xuc J SIX t (by decide) (by omega) 6
  | i+2,hx,_=>simp at hx
theorem Xws {t:List UInt8} {nn:Nat} (ht:t.length<=9000) (hn:nn<=1099511627776):(MSG t nn).length<=100000:=by
 have hd:=Xd5 hn;unfold MSG M1 M2 M3 M4;simp only [Y0,List.length_cons,List.length_nil]
 omega
theorem X5k (t:List UInt8) (nn:Nat) (hk:X6d t=true) (hn:nn<=1099511627776) (cs:List Value) (B w:World) (I:Im) (hK:Kx I) (hN:NdV 8 I cs (X9e t nn)) (As:List X7) (hS:Sat B w I As):Calls Tryz.prog 66 [.agg cs.toArray].toArray w (Ret fun v w'=>v=.tuple #[S (MSG t nn),I64 0]/\Sat B w' I As):=by
 obtain ⟨hT,hl⟩:=X2w hk
 have:=Xm2 (X9e t nn) cs B w I hK hN (by rw [Xjz hT]; have:=Xws (t:=t) (by omega) hn; omega) As hS
 rw [Xog hT,Xjz hT] at this;exact this
set_option maxRecDepth 4000 in
theorem Xgk (t u:List UInt8) (tr:Int) (nn:Nat) (hk:X6d t=true) (hn:nn<=1099511627776) (B w:World) (I:Im) (hK:Kx I) (As:List X7) (hS:Sat B w I As) :
  Cz 28 [.agg ([S t,S u,I64 tr,I64 (nn:Nat)]:List Value).toArray] w fun v w'=>v=S (MSG t nn)/\Sat B w' I As:=by
 have hkl:=(X2w hk).2;refine calls Tryz.func28 rfl Tryz.ntmps28 rfl (.seq (.region (.boxA (cs:=[_,_,_,_]) hS (.of rfl) rfl ?_)));intro b1 w hS;refine .q 1 rfl (.nil (.seq (.dw (fun w=>∃ J9 R,Le I J9/\Sat B w J9 (blk b1 [S t,S u,I64 tr,I64 (nn:Nat)] 45::R)) (fun j=>!([].contains j)) ?_)));replace hS:=hS.drew; generalize w.drew=w at hS ⊢;have hH:∃ J9 R,Le I J9/\Sat B w J9 (blk b1 [S t,S u,I64 tr,I64 (nn:Nat)] 45::R):=⟨_,_,Le.refl _,(hS.x [0])⟩
 refine .tp 0 rfl (fun w=>(.fo 0 rfl X8s rfl rfl Qs9 rfl)) (.tk 1 rfl hH (fun w ⟨J9,R,hL9,hS⟩=>(.lo rfl hS (k:=0) rfl Qg9 rfl)) (.tp 2 rfl (fun w=>(.cat (.of rfl) (.of rfl) (by (try simp only [Y0,List.length_cons,List.length_nil]); omega))) (.tp 3 rfl (fun w=>(.build (cs:=[_,_]) (pc9 rfl (pc9 rfl X4)) X3x rfl)) (.tp 4 rfl (fun w=>(.build (cs:=[_,_]) (pc9 rfl (pc9 rfl X4)) X3x rfl)) ?_))));refine .tp 5 rfl (fun w=>(.fo 3 rfl X8s rfl rfl Qs3 rfl)) (.tk 6 rfl hH (fun w ⟨J9,R,hL9,hS⟩=>(.lo rfl hS (k:=0) rfl Qg3 rfl)) (.tp 10 rfl (fun w=>(.build (cs:=[_,_,_,_]) (pc9 rfl (pc9 rfl X4)) X19 rfl)) ?_));refine .tp 11 rfl (fun w=>(.fo 0 rfl X8s rfl rfl Qs9 rfl)) (.tk 12 rfl hH (fun w ⟨J9,R,hL9,hS⟩=>(.lo rfl hS (k:=0) rfl Qg9 rfl)) (.tp 13 rfl (fun w=>(.build (cs:=[_,_,_,_]) (pc9 rfl (pc9 rfl X4)) X19 rfl)) ?_));refine .branch [7,14] (by kernel_rfl) rfl (WO.cons rfl ?_ (WO.cons rfl ?_ (WO.nil)))
 ·refine .call Qf67 rfl (ec9 rfl X0) rfl (Xev nn hn B _ I hK _ hS) ?_;rintro _ w ⟨rfl,hS⟩;refine .nil ?_;clear hH;have hH:∃ J9 R,Le I J9/\Sat B w J9 (blk b1 [S t,S u,I64 tr,I64 (nn:Nat)] 45::R):=⟨_,_,Le.refl _,(hS.x [0])⟩
  refine ⟨fun _ _=>hH,?_⟩;refine .tp 8 rfl (fun w=>(.build (cs:=[_,_]) (pc9 rfl (pc9 rfl X4)) X3x rfl)) (.branch [9,14] (by kernel_rfl) rfl (WO.cons rfl ?_ (WO.cons rfl ?_ (WO.nil))))
  ·refine .buildSlice (cs:=[_,_,_,_,_,_]) hS (pc9 rfl (pc9 rfl (pc9 rfl X4))) X2e X2i Xbr rfl rfl rfl rfl ?_;intro b15 w hS;refine .nil ?_;clear hH;have hH:∃ J9 R,Le I J9/\Sat B w J9 (blk b1 [S t,S u,I64 tr,I64 (nn:Nat)] 45::R):=⟨_,_,Le.refl _,(hS.x [1])⟩
   refine ⟨fun _ _=>hH,?_⟩;refine .b1 14 rfl (.buildSlice (cs:=[_,_,_,_,_,_,_,_]) hS (pc9 rfl (pc9 rfl X4)) X83 X11 X6i rfl rfl rfl rfl ?_);intro b20 w hS;refine .nil ?_;clear hH;have hH:∃ J9 R,Le I J9/\Sat B w J9 (blk b1 [S t,S u,I64 tr,I64 (nn:Nat)] 45::R):=⟨_,_,Le.refl _,(hS.x [2])⟩
   refine ⟨fun _ _=>hH,?_⟩;refine .tp 15 rfl (fun w=>(.build (cs:=[_,_,_,_]) (pc9 rfl (pc9 rfl (pc9 rfl X4))) X19 rfl)) (.b1 16 rfl ?_);replace hS:=(hS.pick 1 rfl)
   obtain ⟨J1,hJ1,hq15,hS⟩:=hS.freeze (k:=0) rfl;try dsimp only [List.eraseIdx] at hS
   obtain ⟨J2,hJ2,hq20,hS⟩:=hS.freeze (k:=0) rfl;try dsimp only [List.eraseIdx] at hS
   have hJJ:=hJ1.trans hJ2;have hNV:=Xwr (by have:=(X2w hk).2; omega) hn (hJ2 _ _ hq15) hq20;refine .call Qf66 rfl (ec9 rfl X0) rfl (X5k t nn hk hn _ B _ J2 (hK.mono hJJ) hNV _ hS) ?_;rintro _ w ⟨rfl,hS⟩;refine .nil ?_;clear hH;have hH:∃ J9 R,Le I J9/\Sat B w J9 (blk b1 [S t,S u,I64 tr,I64 (nn:Nat)] 45::R):=⟨_,_,hJJ,(hS.x [0])⟩
   refine ⟨fun _ _=>hH,?_⟩;refine .tp 17 rfl (fun w=>(.mo rfl)) (.tp 18 rfl (fun w=>(.extract (.of rfl) rfl)) (.tp 19 rfl (fun w=>(.extract (.of rfl) rfl)) (.tp 20 rfl (fun w=>(.ao rfl)) (.tp 21 rfl (fun w=>(.ao rfl)) (.dn (.seq (.q 2 rfl (.ret (Xc Tryz.results28 rfl ?_)))))))));exact ⟨_,rfl,rfl,X5e hJJ (hS.y 0 1)⟩
  ·refine .buildSlice (cs:=[_,_,_,_,_,_,_,_]) hS (pc9 rfl (pc9 rfl X4)) X83 X11 X6i rfl rfl rfl rfl ?_;intro b20 w hS;refine .nil ?_;clear hH;have hH:∃ J9 R,Le I J9/\Sat B w J9 (blk b1 [S t,S u,I64 tr,I64 (nn:Nat)] 45::R):=⟨_,_,Le.refl _,(hS.x [1])⟩
   refine ⟨fun _ _=>hH,?_⟩;refine .b1 9 rfl (.buildSlice (cs:=[_,_,_,_,_,_]) hS (pc9 rfl (pc9 rfl (pc9 rfl X4))) X2e X2i Xbr rfl rfl rfl rfl ?_);intro b15 w hS;refine .nil ?_;clear hH;have hH:∃ J9 R,Le I J9/\Sat B w J9 (blk b1 [S t,S u,I64 tr,I64 (nn:Nat)] 45::R):=⟨_,_,Le.refl _,(hS.x [2])⟩
   refine ⟨fun _ _=>hH,?_⟩;refine .tp 15 rfl (fun w=>(.build (cs:=[_,_,_,_]) (pc9 rfl (pc9 rfl (pc9 rfl X4))) X19 rfl)) (.b1 16 rfl ?_);replace hS:=((hS.pick 1 rfl).pick 1 rfl)
   obtain ⟨J1,hJ1,hq15,hS⟩:=hS.freeze (k:=0) rfl;try dsimp only [List.eraseIdx] at hS
   obtain ⟨J2,hJ2,hq20,hS⟩:=hS.freeze (k:=0) rfl;try dsimp only [List.eraseIdx] at hS
   have hJJ:=hJ1.trans hJ2;have hNV:=Xwr (by have:=(X2w hk).2; omega) hn (hJ2 _ _ hq15) hq20;refine .call Qf66 rfl (ec9 rfl X0) rfl (X5k t nn hk hn _ B _ J2 (hK.mono hJJ) hNV _ hS) ?_;rintro _ w ⟨rfl,hS⟩;refine .nil ?_;clear hH;have hH:∃ J9 R,Le I J9/\Sat B w J9 (blk b1 [S t,S u,I64 tr,I64 (nn:Nat)] 45::R):=⟨_,_,hJJ,(hS.x [0])⟩
   refine ⟨fun _ _=>hH,?_⟩;refine .tp 17 rfl (fun w=>(.mo rfl)) (.tp 18 rfl (fun w=>(.extract (.of rfl) rfl)) (.tp 19 rfl (fun w=>(.extract (.of rfl) rfl)) (.tp 20 rfl (fun w=>(.ao rfl)) (.tp 21 rfl (fun w=>(.ao rfl)) (.dn (.seq (.q 2 rfl (.ret (Xc Tryz.results28 rfl ?_)))))))));exact ⟨_,rfl,rfl,X5e hJJ (hS.y 0 1)⟩
 ·refine .buildSlice (cs:=[_,_,_,_,_,_,_,_]) hS (pc9 rfl (pc9 rfl X4)) X83 X11 X6i rfl rfl rfl rfl ?_;intro b20 w hS;refine .nil ?_;clear hH;have hH:∃ J9 R,Le I J9/\Sat B w J9 (blk b1 [S t,S u,I64 tr,I64 (nn:Nat)] 45::R):=⟨_,_,Le.refl _,(hS.x [1])⟩
  refine ⟨fun _ _=>hH,?_⟩;refine .b1 7 rfl (.call Qf67 rfl (ec9 rfl X0) rfl (Xev nn hn B _ I hK _ hS) ?_);rintro _ w ⟨rfl,hS⟩;refine .nil ?_;clear hH;have hH:∃ J9 R,Le I J9/\Sat B w J9 (blk b1 [S t,S u,I64 tr,I64 (nn:Nat)] 45::R):=⟨_,_,Le.refl _,(hS.x [1])⟩
  refine ⟨fun _ _=>hH,?_⟩;refine .tp 8 rfl (fun w=>(.build (cs:=[_,_]) (pc9 rfl (pc9 rfl X4)) X3x rfl)) (.b1 9 rfl (.buildSlice (cs:=[_,_,_,_,_,_]) hS (pc9 rfl (pc9 rfl (pc9 rfl X4))) X2e X2i Xbr rfl rfl rfl rfl ?_));intro b15 w hS;refine .nil ?_;clear hH;have hH:∃ J9 R,Le I J9/\Sat B w J9 (blk b1 [S t,S u,I64 tr,I64 (nn:Nat)] 45::R):=⟨_,_,Le.refl _,(hS.x [2])⟩
  refine ⟨fun _ _=>hH,?_⟩;refine .tp 15 rfl (fun w=>(.build (cs:=[_,_,_,_]) (pc9 rfl (pc9 rfl (pc9 rfl X4))) X19 rfl)) (.b1 16 rfl ?_);replace hS:=((hS.pick 1 rfl).pick 1 rfl)
  obtain ⟨J1,hJ1,hq15,hS⟩:=hS.freeze (k:=0) rfl;try dsimp only [List.eraseIdx] at hS
  obtain ⟨J2,hJ2,hq20,hS⟩:=hS.freeze (k:=0) rfl;try dsimp only [List.eraseIdx] at hS
  have hJJ:=hJ1.trans hJ2;have hNV:=Xwr (by have:=(X2w hk).2; omega) hn (hJ2 _ _ hq15) hq20;refine .call Qf66 rfl (ec9 rfl X0) rfl (X5k t nn hk hn _ B _ J2 (hK.mono hJJ) hNV _ hS) ?_;rintro _ w ⟨rfl,hS⟩;refine .nil ?_;clear hH;have hH:∃ J9 R,Le I J9/\Sat B w J9 (blk b1 [S t,S u,I64 tr,I64 (nn:Nat)] 45::R):=⟨_,_,hJJ,(hS.x [0])⟩
  refine ⟨fun _ _=>hH,?_⟩;refine .tp 17 rfl (fun w=>(.mo rfl)) (.tp 18 rfl (fun w=>(.extract (.of rfl) rfl)) (.tp 19 rfl (fun w=>(.extract (.of rfl) rfl)) (.tp 20 rfl (fun w=>(.ao rfl)) (.tp 21 rfl (fun w=>(.ao rfl)) (.dn (.seq (.q 2 rfl (.ret (Xc Tryz.results28 rfl ?_)))))))));exact ⟨_,rfl,rfl,X5e hJJ (hS.y 0 1)⟩
theorem NdV.parts {I:Im}:∀ {d:Nat} {s1:List UInt8} {a1:Option Addr} {n1 m1:Nat} {s2:List UInt8} {a2:Option Addr} {n2 m2:Nat} {n:Nd},NdV d I [S s1,.slice a1 n1 m1,S s2,.slice a2 n2 m2] n ->
  n1=n.attrs.length/\s2=n.text/\RS I a1 2 n.attrs.length (X9 Xq n.attrs)/\(∀ a∈n.attrs,a.1.length<=10000/\a.2.length<=10000)/\n.text.length<=10000
 | 0,_,_,_,_,_,_,_,_,_,h=>h.elim
 | d+1,s1,a1,n1,m1,s2,a2,n2,m2,n,h=>by
  obtain ⟨h1,h2,h3,h4,h5,aa,ca,ka,ck,xs,hcs,h7,h8,h9,_⟩:=h;injection hcs with e1 hcs; injection hcs with e2 hcs; injection hcs with e3 hcs
  injection e2 with e2 e2b e2c
  injection e3 with e3; injection e3 with e3
  subst e2;exact ⟨e2b,by simpa using e3,h9,h5,h2⟩
theorem X4n {n:Nt} (h:X2f n=true):X6d n.ticket=true/\0<=n.next/\n.next<=1099511627776/\n.url.length<=100/\0<=n.tries/\n.tries<=9:=by
 unfold X2f at h;simp only [Yn,decide_eq_true_eq] at h
 obtain ⟨⟨⟨⟨⟨h1,h2⟩,h3⟩,h4⟩,h5⟩,h6⟩:=h;exact ⟨h1,h5,h6,by omega,h3,h4⟩
theorem Xeg (n:Nt) (h:X2f n=true) (B w:World) (I:Im) (hK:Kx I) (As:List X7) (hS:Sat B w I As):Calls Tryz.prog 28 [.agg (X8 n).toArray].toArray w (Ret fun v w'=>v=S (MSG n.ticket n.next.toNat)/\Sat B w' I As):=by
 obtain ⟨h1,h2,h3,_⟩:=X4n h
 have:=Xgk n.ticket n.url n.tries n.next.toNat h1 (by omega) B w I hK As hS
 rw [Y4x h2] at this;exact this
theorem Xoq (t:List UInt8) (n:Nat):Xdf (X9e t n) SIX=some (.mk SIX [] t []):=by
 unfold Xdf X9e;simp only [Nd.kids,Y2v,Nd.name]
 rw [show (NID == SIX)=false by decide,show (SIX == SIX)=true by decide]
set_option maxRecDepth 4000 in
theorem Xrd (s:List UInt8) (hl:s.length<=400) (B w:World) (I:Im) (hK:Kx I) (hP:PreAt I) (As:List X7) (hS:Sat B w I As) :
  Cz 25 [S s] w fun v w'=>v=.tuple #[S ((Xan s).getD []),.bool (Xan s).isSome]/\Sat B w' I As:=by
 refine calls Tryz.func25 rfl Tryz.ntmps25 rfl (.seq (.q 2 rfl (.seq (.t 1 rfl (.call Tryz.func63 rfl (ec9 rfl X0) rfl (Xqa s (by omega) B _ I hK _ hS) ?_)))));rintro _ w ⟨J,s1,a1,n1,m1,s2,a2,n2,m2,e,nd,rfl,hJ,hN,hR,hS⟩;refine .q 3 rfl (.allocA (cs:=[_,_,_,_]) hS X6i rfl ?_);intro b4 w hS;refine .so hS (k:=0) rfl rfl rfl rfl X11 rfl (by simp) ?_;intro w hS;try simp only [Yk,Ye,Y9,Y7,Yh,Ym,Yc] at hS
 refine .q 1 rfl (.nil (.seq (.region ?_)));refine .val (.ldsW (cs:=[_,_,_,_]) (.of rfl) hS (k:=0) rfl X32 X11 rfl) rfl (.buildSlice (cs:=[_]) hS (pc9 rfl X4) X1u Qs9 Qz9 rfl rfl rfl rfl ?_);intro b18 w hS;refine .call Tryz.func64 rfl (ec9 rfl (ec9 rfl X0)) rfl (Xq9 nd SIX s1 a1 n1 m1 s2 a2 n2 m2 b18 B _ J hN _ hS) ?_;rintro _ w ⟨t1,c1,k1,l1,t2,c2,k2,l2,ok,kd,rfl,hF,hD,hS⟩;refine .q 3 rfl (.allocA (cs:=[_,_,_,_]) hS X6i rfl ?_);intro b6 w hS;refine .so hS (k:=0) rfl rfl rfl rfl X11 rfl (by simp) ?_;intro w hS;try simp only [Yk,Ye,Y9,Y7,Yh,Ym,Yc] at hS
 refine .q 1 rfl (.nil (.seq (.seq (.t 3 rfl (.gm rfl rfl rfl rfl (.gval rfl rfl (fun hg1=>(.not (.gd hg1 rfl))) rfl (.val (.po rfl rfl rfl) rfl (.q 1 rfl ?_))))))));refine .gval rfl rfl (fun hg1=>(by exact .fo 1 rfl X37 rfl rfl X4u rfl)) rfl ?_;refine .gval rfl rfl (fun hg1=>(by exact (.ld (.gd hg1 rfl) hS (k:=2) rfl X6x rfl))) rfl ?_;refine .gval rfl rfl (fun hg1=>(.lenSlice (.gd hg1 rfl) X2e)) rfl (.gval rfl rfl (fun hg1=>(.neq (.gd hg1 rfl) (.of rfl))) rfl (.val (.po rfl rfl rfl) rfl (.nil ?_)));refine .cond rfl (fun hb33=>?_) fun hb33=>?_
 ·refine .seq (.q 2 rfl (.ret (X1t Tryz.results25 rfl rfl ?_)));refine ⟨_,rfl,?_,X5e hJ (hS.y 0 3)⟩;have hno:Xan s=none:=Xft fun t n ht hn es=>by
   have hx:=Xjq (X2w ht).1 n;rw [<- es] at hx;rcases hR with ⟨h,_⟩ | ⟨h,h2⟩
   ·rw [h] at hx; cases hx
   ·rw [h] at hx;injection hx with hx
    subst hx;have hk:=Xoq t n;have hl:=hN.parts.1;have h3:n1=3:=hl;rcases hF with ⟨h,_⟩ | ⟨_,h4⟩
    ·rw [hk] at h; cases h
    ·rw [h2,h4,h3] at hb33; simp at hb33
  rw [hno]; rfl
 refine .skip (.seq ?_);have hb9:=hb33;simp only [Y10,bne_eq_false_iff_eq,Y2m] at hb9
 obtain ⟨⟨he0,hok⟩,h3⟩:=hb9;obtain ⟨hp1,hp2,hpR,hpa,hpt⟩:=hN.parts;obtain ⟨dd,hD⟩:=hD;obtain ⟨hq1,hq2,_,_,hqt⟩:=hD.parts;have ht2l:t2.length<=10000:=by rw [hq2]; exact hqt
 have hal3:nd.attrs.length=3:=by omega
 obtain ⟨av,hav⟩:∃ a,nd.attrs[2]?=some a:=⟨_,Y4 (by omega)⟩
 obtain ⟨qa,hqa9,hx⟩:=Xnm hpR hav;have hav2:=hpa av (Yl hav);have h39:n1=3:=by omega
 subst h39;clear hp1;subst hqa9;have hfnd:Xhs s=some nd/\Xdf nd SIX=some kd:=by
  refine ⟨?_,?_⟩
  ·rcases hR with ⟨_,h,_⟩ | ⟨h,_⟩
   ·rw [h] at he0; simp at he0
   ·exact h
  ·rcases hF with ⟨_,h⟩ | ⟨h,_⟩
   ·rw [h] at hok; cases hok
   ·exact h
 refine .region (.val (.fo 1 rfl X37 rfl rfl X4u rfl) rfl (.val (.lo rfl hS (k:=2) rfl X6x rfl) rfl (.val (.ii rfl rfl (by omega) (by omega) X2e X2i) rfl (.val (.fo 1 rfl X3j rfl rfl Qs9 rfl) rfl (.val (.ldI (.of rfl) hS (At.add hx 1) Qg9 rfl) rfl (.call Tryz.func65 rfl (ec9 rfl X0) rfl (Xnc av.2 (by omega) B _ J (hK.mono hJ) _ hS) ?_))))));rintro _ w ⟨nx,ee,rfl,hnx,hS⟩;refine .q 5 rfl (.nil (.seq (.region ?_)));refine .val (.fo 2 rfl X37 rfl rfl Qs9 rfl) rfl (.val (.lo rfl hS (k:=0) rfl Qg9 rfl) rfl (.q 1 rfl (.val (.build (cs:=[_,_,_,_]) (pc9 rfl (pc9 rfl X4)) X3z rfl) rfl (.allocA (cs:=[_,_,_,_]) hS Xgw rfl ?_))));intro b10 w hS;refine .so hS (k:=0) rfl rfl rfl rfl X4e rfl (by simp) ?_;intro w hS;try simp only [Yk,Ye,Y9,Y7,Yh,Ym,Yc] at hS
 refine .nil (.seq (.seq (.region ?_)));refine .val (.ldsW (cs:=[_,_,_,_]) (.of rfl) hS (k:=0) rfl Xio X4e rfl) rfl ?_;refine .call Tryz.func54 rfl (ec9 rfl X0) rfl (Xg4 ⟨t2,[],0,nx⟩ (by (try dsimp only); omega) (by (try dsimp only [List.length_nil]); decide) B _ J (hK.mono hJ) (hP.mono hJ) _ hS) ?_;rintro _ w ⟨rfl,hS⟩;refine .q 2 rfl (.gval rfl rfl (fun hg1=>(by exact (.ldsW (cs:=[_,_,_,_]) (.of rfl) hS (k:=0) rfl Xio X4e rfl))) rfl ?_);refine .gcall (T:=fun w=>Sat B w J _) rfl rfl rfl Tryz.func28 rfl (fun hg1=>(Xd (.gd hg1 rfl) X0)) rfl (fun hg1=>Xeg ⟨t2,[],0,nx⟩ (by simpa using hg1) B _ J (hK.mono hJ) _ hS) hS ?_;rintro w hS;refine .gm rfl rfl rfl rfl (.gval rfl rfl (fun hg1=>(.nes (.gd hg1 rfl) (.gd hg1 rfl))) rfl (.val (.po rfl rfl rfl) rfl (.nil ?_)));refine .cond rfl (fun hb55=>?_) fun hb55=>?_
 ·refine .seq (.q 2 rfl (.ret (X1t Tryz.results25 rfl rfl ?_)));refine ⟨_,rfl,?_,X5e hJ (hS.y 0 4)⟩;have hno:Xan s=none:=Xft fun t n ht hn es=>by
   have hr:=Xjq (X2w ht).1 n;rw [<- es,hfnd.1] at hr;injection hr with hr
   subst hr;have hk:=Xoq t n;rw [hfnd.2] at hk;injection hk with hk
   subst hk;have hav3:av=(Xmf,Go.Lib.decDigits n):=by
    have:some av=some (Xmf,Go.Lib.decDigits n):=hav.symm
    injection this
   have hn2:=hnx n hn (by rw [hav3]);have ht2:t2=t:=hq2;subst ht2; subst hn2;have hright:X2f ⟨t2,[],0,(n:Int)⟩=true:=by
    unfold X2f;simp only [ht,List.length_nil]
    simp
    omega
   rw [hright,Yf,<- es] at hb55;simp at hb55
  rw [hno]; rfl
 refine .skip (.seq (.region ?_));refine .val (.fo 0 rfl X8s rfl rfl Qs9 rfl) rfl (.val (.lo rfl hS (k:=0) rfl Qg9 rfl) rfl (.q 2 rfl (.nil (.ret (X1t Tryz.results25 rfl rfl ?_)))));refine ⟨_,rfl,?_,X5e hJ (hS.y 0 4)⟩;have hb8:=hb55;simp only [Y10,bne_eq_false_iff_eq,Y2m] at hb8
 obtain ⟨hr1,hr2⟩:=hb8;obtain ⟨hr3,hr4,hr5,_⟩:=X4n hr1
 have:=Xfs (t:=t2) hr3 (n:=nx.toNat) (by (try dsimp only at hr4 hr5); omega)
 rw [show MSG t2 nx.toNat=s by simpa using hr2] at this;rw [this]; rfl
end Go.Proofs.YtbciobiiejpdgaaGreatDoor
namespace Go.Proofs.YtbciobiiejpdgaaGreatDoor
open Gk Rk Flt
set_option maxRecDepth 20000
theorem Xrf (x y:Nat) (n:Int) (z:Nat) (B w:World) (I:Im) (As:List X7) (hS:Sat B w I As) :
  Cz 59 [F64 x,F64 y,I64 n,F64 z] w fun v w'=>v=F64 (waitV x y n z)/\Sat B w' I As:=by
 refine calls Tryz.func59 rfl Tryz.ntmps59 rfl (.seq (.q 1 rfl (.seq (.seq (.t 1 rfl (.val (.fgtr (.of rfl) (.of rfl)) rfl (.q 1 rfl (.nil ?_))))))));refine .cond rfl (fun hb11=>?_) fun hb11=>?_
 ·refine .seq (.q 1 rfl (.ret (Xc Qr59 rfl ?_)));exact ⟨_,rfl,by rw [waitV,Xtw (by simpa using hb11)],hS⟩
 have hc11:=hb11; try simp only [Y6] at hc11
 refine .skip (.seq (.seq (.t 1 rfl (.val (.min2 (.of rfl) (.of rfl)) rfl (.val (.max2 (.of rfl) (.of rfl)) rfl (.q 1 rfl (.nil (.block ?_))))))));refine .loop (σ:=Nat×Nat) (fun ⟨r,j⟩=>[(0,F64 r),(1,F64 y),(3,F64 z),(14,I64 (max 0 (min n 64))),(15,I64 (j:Nat))]) (fun ⟨r,j⟩ w=>nf r=W x y j/\(j:Int)<=max 0 (min n 64)/\Sat B w I As) (fun ⟨r,j⟩=>(max 0 (min n 64)).toNat - j) (x,0) ⟨rfl,rfl,rfl,rfl,rfl,trivial⟩ ⟨rfl,by (try dsimp only); omega,hS⟩ ?_;rintro ⟨r,j⟩ w ⟨hr,hj,hS⟩;refine .seq (.q 1 rfl (.seq ?_));refine .cond rfl (fun hb16=>?_) fun hb16=>?_
 ·have hc16:=hb16; try simp only [Y6] at hc16
  refine .skip (.seq (.block (.t 2 rfl (.fmul hS (.of rfl) (.of rfl) rfl ?_))));clear hS; intro fr19 w hr19 hn19 hS;refine .q 1 rfl (.nil (.region (.run 2 rfl ⟨⟨by omega,by omega⟩,trivial⟩ (.nil ?_))));refine ⟨(fr19,j+1),⟨rfl,rfl,rfl,rfl,rfl,trivial⟩,⟨W_step hr hn19,by (try dsimp only); omega,hS⟩,by (try dsimp only); omega⟩
 have hc16:=hb16; try simp only [Y6] at hc16
 refine .exit (.seq (.block (.seq (.t 1 rfl (.call Tryz.func101 rfl (ec9 rfl X0) rfl (Xef _ _) ?_)))));rintro _ _ ⟨rfl,rfl⟩;refine .q 1 rfl (.gm rfl rfl rfl rfl (.gm rfl rfl rfl rfl (.gval rfl rfl (fun hg1=>(.fgtr (.gd hg1 rfl) (.gd hg1 rfl))) rfl (.val (.po rfl rfl rfl) rfl (.q 1 rfl (.nil ?_))))));refine .cond rfl (fun hb21=>?_) fun hb21=>?_
 ·have hc21:=hb21; try simp only [Y6] at hc21
  refine .seq (.q 2 rfl (.ret (Xc Qr59 rfl ?_)));have ht:j=Xie n:=by unfold Xie; omega
  subst ht;have hz:lt 0 z=true:=by simpa using hb11
  exact ⟨_,rfl,by rw [waitV,Xe4 hz hr,if_pos hb21],hS⟩
 have hc21:=hb21; try simp only [Y6] at hc21
 refine .seq (.t 1 rfl (.val (.fgtr (.of rfl) (.of rfl)) rfl (.q 1 rfl (.nil ?_))));refine .cond rfl (fun hb30=>?_) fun hb30=>?_
 ·have hc30:=hb30; try simp only [Y6] at hc30
  refine .seq (.q 2 rfl (.ret (Xc Qr59 rfl ?_)));have ht:j=Xie n:=by unfold Xie; omega
  subst ht;have hz:lt 0 z=true:=by simpa using hb11
  exact ⟨_,rfl,by rw [waitV,Xe4 hz hr,if_neg (by rw [hb21]; simp),if_pos hb30],hS⟩
 have hc30:=hb30; try simp only [Y6] at hc30
 refine .skip (.seq (.q 1 rfl (.ret (Xc Qr59 rfl ?_))));have ht:j=Xie n:=by unfold Xie; omega
 subst ht;have hz:lt 0 z=true:=by simpa using hb11
 exact ⟨_,rfl,by rw [waitV,Xe4 hz hr,if_neg (by rw [hb21]; simp),if_neg (by rw [hb30]; simp)],hS⟩
theorem Xru {P : Program} (w : World) {x : Nat} (hn : Flt.nan x = false) : (Extern.MathFloor.toIntegral "math.archCeil" .up [F64 x].toArray).run P w = .ok (F64 (Xez x)) w := by
 have hx:Ieee.double.read x=FloatKind.f64.decode x:=rfl;have hd:(∃ s m i,FloatKind.f64.decode x=.number s m i)\/∃ s,FloatKind.f64.decode x=.infinity s:=by
  have h1:¬ 9218868437227405312<rg x:=by simpa [Flt.nan] using hn
  rcases Yp (rg x) 9218868437227405312 with h | h
  ·obtain ⟨m,i,e,_⟩:=X5x h;exact .inl ⟨_,m,i,e⟩
  ·exact .inr ⟨_,X9m (by omega)⟩
 have e:Xez x=FloatKind.f64.encode ((FloatKind.f64.decode x).integral .up):=rfl;rw [e];rcases hd with ⟨s,m,i,hd⟩ | ⟨s,hd⟩
 ·delta Extern.MathFloor.toIntegral
  conv=>lhs; arg 2; whnf
  rw [hd];rfl
 ·delta Extern.MathFloor.toIntegral
  conv=>lhs; arg 2; whnf
  rw [hd];rfl
theorem Xqk (x:Nat) (hn:Flt.nan x=false) (w:World) :
  Cz 102 [F64 x] w fun v w'=>v=F64 (Xez x)/\w=w':=by
 refine calls Tryz.func102 rfl Tryz.ntmps102 rfl (.seq (.q 1 rfl (.seq (.condT (rfl) (.seq (.t 1 rfl (.val (.extern Tryz.func142 (by kernel_rfl) (by kernel_rfl) (by kernel_rfl) (e := Extern.MathFloor.toIntegral "math.archCeil" .up) (by kernel_rfl) (ec9 rfl X0) (Xru w hn)) rfl (.q 1 rfl (.nil (.ret (Xc Tryz.results102 rfl ?_)))))))))));exact ⟨_,rfl,rfl,rfl⟩
theorem Xma (x:Nat) (most:Int) (w:World) :
  Cz 60 [F64 x,I64 most] w fun v w'=>v=I64 (cnt x most)/\w=w':=by
 refine calls Tryz.func60 rfl Tryz.ntmps60 rfl (.seq (.q 1 rfl (.seq (.t 1 rfl (.val (.min2 (.of rfl) (.of rfl)) rfl (.val (.max2 (.of rfl) (.of rfl)) rfl (.q 1 rfl (.nil (.seq (.block (.seq (.t 1 rfl (.call Tryz.func101 rfl (ec9 rfl X0) rfl (Xef _ _) ?_)))))))))))));rintro _ _ ⟨rfl,rfl⟩;refine .q 1 rfl (.gm rfl rfl rfl rfl (.gm rfl rfl rfl rfl (.gval rfl rfl (fun hg1=>(.toF (.gd hg1 rfl) rfl Qu27)) rfl (.gval rfl rfl (fun hg1=>(.fgtr (.gd hg1 rfl) (.gd hg1 rfl))) rfl (.val (.po rfl rfl rfl) rfl (.q 1 rfl (.nil ?_)))))));refine .cond rfl (fun hb8=>?_) fun hb8=>?_
 ·refine .seq (.q 2 rfl (.ret (Xc Tryz.results60 rfl ?_)));exact ⟨_,rfl,by rw [cnt,if_pos (show (Flt.nan x || lt (ofI (top most)) x)=true from hb8)]; rfl,rfl⟩
 refine .seq (.t 1 rfl (.val (.fgtr (.of rfl) (.of rfl)) rfl (.q 1 rfl (.nil ?_))));refine .cond rfl (fun hb18=>?_) fun hb18=>?_
 ·refine .seq ?_;have hnx:Flt.nan x=false:=by cases h:Flt.nan x <;> simp [h] at hb8 ⊢
  have hcs:=Xiv (x:=x) (most:=most) hb8 hb18;have htp:=Xgb most;refine .t 1 rfl (.call Tryz.func102 rfl (ec9 rfl X0) rfl (Xqk x hnx _) ?_);rintro _ _ ⟨rfl,rfl⟩;refine .val (.ofF (.of rfl) rfl Qu3 hcs.1 hcs.2.1 (by omega)) rfl (.q 1 rfl (.nil (.ret (Xc Tryz.results60 rfl ?_))));exact ⟨_,rfl,by rw [cnt,if_neg (show ¬ _ by rw [show (Flt.nan x || lt (ofI (top most)) x)=false from hb8]; simp),if_pos hb18],rfl⟩
 refine .skip (.seq (.q 1 rfl (.ret (Xc Tryz.results60 rfl ?_))));exact ⟨_,rfl,by rw [cnt,if_neg (show ¬ _ by rw [show (Flt.nan x || lt (ofI (top most)) x)=false from hb8]; simp),if_neg (by rw [hb18]; simp)],rfl⟩
end Go.Proofs.YtbciobiiejpdgaaGreatDoor
namespace Xm
open Ul Pc Gk Pat Tk Tr
def nt0:Nt:=⟨[],[],0,0⟩
def Xw5:List Nt->List Nt->Bool
 | _,[]=>false
 | q,n::r=>(q.any fun x=>x.ticket == n.ticket) || Xw5 (q ++ [n]) r
def Xjp (q l:List Nt):List Nt×Nat:=if (l.any fun n=>!X2f n)=true then (q,1) else if Xw5 q l=true then (q,7) else if 64<q.length+l.length then (q,5) else (q ++ l,0)
def X87:Option Nt->List Nt->Option Nt
 | b,[]=>b
 | none,n::r=>X87 (some n) r
 | some b,n::r=>X87 (some (if n.next<b.next then n else b)) r
def Xae (q:List Nt) (now:Int):Nt×Bool:=match X87 none q with
 | none=>(nt0,false)
 | some b=>if now<b.next then (nt0,false) else (b,true)
structure Qc where
 x:Nat
 y:Nat
 z:Nat
 tries:Int
def limQ (c:Qc):Int:=max 1 (min c.tries 9)
def X8u (c:Qc) (n:Nt) (now:Int):Nt:=⟨n.ticket,n.url,n.tries+1,min (now+Rk.cnt (Rk.waitV c.x c.y n.tries c.z) 1099511627776) 1099511627776⟩
def ixN (q:List Nt) (t:List UInt8):Int:=Xx (fun n=>n.ticket == t) q 0
def X75 (c:Qc) (q:List Nt) (t:List UInt8) (ok:Bool) (now:Int):List Nt×Nat:=match q[(ixN q t).toNat]? with
 | none=>(q,6)
 | some n=>if ixN q t<0 then (q,6) else if ok=true\/limQ c<=n.tries+1 then (q.eraseIdx (ixN q t).toNat,0) else (q.set (ixN q t).toNat (X8u c n now),0)
theorem Xa3:∀ (a b:List Nt) (s:Option Nt),X87 s (a ++ b)=X87 (X87 s a) b
 | [],b,s=>rfl
 | m::r,b,none=>Xa3 r b _
 | m::r,b,some _=>Xa3 r b _
theorem Xvz (x:Nat):0<=Rk.cnt x 1099511627776/\Rk.cnt x 1099511627776<=1099511627776:=by
 have h:=Rk.cnt_laws x 1099511627776;have h2:Rk.top 1099511627776=1099511627776:=by decide
 rw [h2] at h;exact ⟨h.1,h.2.1⟩
end Xm
namespace Go.Proofs.YtbciobiiejpdgaaGreatDoor
open Gk Ul Pc Pat Xm Tr Tk
set_option maxRecDepth 4000
theorem X8d:Tryz.prog.info? 45=some Tryz.t45:=by kernel_rfl
theorem Xkp:Bld Tryz.prog 113 [(0,1),(1,1),(2,1),(3,1),(4,1)] [.int .i64 0,.float .f64 0,.float .f64 0,.float .f64 0,.slice none 0 0]:=X23 X82 Tryz.zeroValue113 (fun w=>by simp [go_sem])
theorem X4y (a:Option Addr) (cap:Nat) (l:List (Nt)) (hln:l.length<=9223372036854775807) (pr:Nt->Bool) (fid:FuncId) (fn:Func) (hfn:Tryz.prog.funcs[fid]?=some fn) (hcal:Xj fn=true) (capv:List Value) (B w:World) (I:Im) (As:List X7) (hE:∀ w,Sat B w I As->X6y w X8 4 a l) (hf:∀ (r:Nt) (hr:r∈l) w,Sat B w I As->Calls Tryz.prog fid ([Value.agg (X8 r).toArray] ++ capv).toArray w (Ret fun v w'=>v=.bool (pr r)/\Sat B w' I As)) (hS:Sat B w I As) :
  Cz 98 [.slice a l.length cap,.func (.func fid) #[] capv.toArray] w fun v w'=>v=I64 (Xx pr l 0)/\Sat B w' I As:=by
 refine calls Tryz.func98 rfl Tryz.ntmps98 rfl (.seq (.q 1 rfl (.seq (.seq (.region (.run 3 rfl ⟨⟨_,X64⟩,trivial⟩ (.nil (.block (.loop (σ:=Nat) (fun i=>[(0,.slice a l.length cap),(1,.func (.func fid) #[] capv.toArray),(7,I64 (l.length:Nat)),(8,I64 (i:Nat))]) (fun i w=>i<=l.length/\(∀ (j:Nat) t,j<i->l[j]?=some t->pr t=false)/\Sat B w I As) (fun i=>l.length - i) 0 ⟨rfl,rfl,rfl,rfl,trivial⟩ ⟨Yo _,fun _ _ h=>absurd h (by omega),hS⟩ ?_)))))))));rintro i w ⟨hi,hno,hS⟩;refine .seq (.q 1 rfl (.seq ?_));refine .cond rfl (fun hb9=>?_) fun hb9=>?_
 ·have hc9:=hb9; try simp only [Y6] at hc9
  refine .skip (.seq (.block (.seq ?_)));obtain ⟨r,hr⟩:∃ r,l[i]?=some r:=⟨_,Y4 (by omega)⟩
  obtain ⟨p,rfl,hx⟩:=hE w hS i r hr;refine .q 2 rfl (.seq (.t 3 rfl ?_));refine .val (.ii rfl rfl (by omega) (by omega) X64 X4e) rfl (.val (.ldR (.of rfl) hx Xio X4e rfl) rfl (.vcall (cap:=capv) hfn hcal (.of rfl) (ec9 rfl X0) rfl (hf r (Yl hr) w hS) ?_));clear hS;rintro _ w ⟨rfl,hS⟩;refine .nil (.cond rfl (fun hb16=>?_) fun hb16=>?_)
  ·refine .seq (.q 2 rfl (.ret (Xc Tryz.results98 rfl ?_)));exact ⟨_,rfl,by rw [X2k hno hr hb16],hS⟩
  have hc16:=hb16; try simp only [Y6] at hc16
  refine .skip (.region (.run 2 rfl ⟨⟨by omega,by omega⟩,trivial⟩ (.nil ?_)));refine ⟨i+1,⟨rfl,rfl,rfl,rfl,trivial⟩,⟨by (try dsimp only); omega,fun j t hj ht=>?_,hS⟩,by (try dsimp only); omega⟩;rcases Yp j i with h1 | h1
  ·exact hno j t h1 ht
  ·have e:j=i:=by omega
   subst e;rw [hr] at ht; cases ht;exact hb16
 have hc9:=hb9; try simp only [Y6] at hc9
 refine .exit (.seq (.q 1 rfl (.ret (Xc Tryz.results98 rfl ?_))));exact ⟨_,rfl,by rw [X21 (fun j t ht=>hno j t (by have:=(Y5.1 ht).1; omega) ht)],hS⟩
theorem X6v (a:Option Addr) (cap:Nat) (l:List (Nt)) (hln:l.length<=9223372036854775807) (pr:Nt->Bool) (fid:FuncId) (fn:Func) (hfn:Tryz.prog.funcs[fid]?=some fn) (hcal:Xj fn=true) (capv:List Value) (B w:World) (I:Im) (As:List X7) (hE:∀ w,Sat B w I As->X6y w X8 4 a l) (hf:∀ (r:Nt) (hr:r∈l) w,Sat B w I As->Calls Tryz.prog fid ([Value.agg (X8 r).toArray] ++ capv).toArray w (Ret fun v w'=>v=.bool (pr r)/\Sat B w' I As)) (hS:Sat B w I As) :
  Cz 52 [.slice a l.length cap,.func (.func fid) #[] capv.toArray] w fun v w'=>v=.bool (l.any pr)/\Sat B w' I As:=by
 refine calls Tryz.func52 rfl Tryz.ntmps52 rfl (.seq (.q 1 rfl (.seq (.t 2 rfl (.call Tryz.func98 rfl (ec9 rfl (ec9 rfl X0)) rfl (X4y a cap l hln pr fid fn hfn hcal capv B _ I As hE hf hS) ?_)))));rintro _ w ⟨rfl,hS⟩;refine .q 2 rfl (.nil (.ret (Xc Tryz.results52 rfl ?_)));exact ⟨_,rfl,by rw [<- X24 pr l 0],hS⟩
theorem nt_vec {B w:World} {I:Im} {As:List X7} {k c:Nat} {a:Option Addr} {l:List Nt} (hS:Sat B w I As) (hk:As[k]?=some (Vec 45 4 (.slice a l.length c) l.length (X9 X8 (l)))):X6y w X8 4 a l:=fun i r hr=>by
 obtain ⟨b,cap,rest,hv,_,_,_,_,hSo⟩:=hS.vecOpen hk (by have:=(Y5.1 hr).1; omega);injection hv with h1 h2 h3
 subst h1;have hb:=hSo.block (k:=k) (by rw [Y4h ((Y5.1 hk).1)]; rfl);refine ⟨_,rfl,fun j v hj=>?_⟩;rw [Addr.add_add];have h3:=X7k (cells:=X8) (s:=4) (fun _=>rfl) hr hj
 have:=X1b hb (o:=i*4+j) (by rw [Yi (Y5.1 h3).1]; exact h3)
 rw [X15,Yc];exact this
theorem Xar {α:Type} {cells:α->List Value} (h:∀ r,(cells r).all Value.oneCell'=true):∀ l:List α,(X9 cells l).all Value.oneCell'=true
 | []=>rfl
 | x::l=>by
  show (cells x ++ X9 cells l).all _=true
  rw [Y4y,h x,Xar h l]; rfl
theorem Xng (r:Nt) (t:List UInt8) (b3:Nat) (B w:World) (I:Im) (As:List X7) (hS:Sat B w I (blk b3 [S t] 9::As)) :
  Cz 100 [.agg (X8 r).toArray,ptr b3 0] w fun v w'=>v=.bool (r.ticket == t)/\Sat B w' I (blk b3 [S t] 9::As):=by
 refine calls Tryz.func100 rfl Tryz.ntmps100 rfl (.seq (.region (.boxA (cs:=[_,_,_,_]) hS (.of rfl) rfl ?_)));intro b2 w hS;refine .q 1 rfl (.nil (.seq (.region ?_)));refine .val (.fo 0 rfl X8s rfl rfl Qs9 rfl) rfl (.val (.lo rfl hS (k:=0) rfl Qg9 rfl) rfl (.val (.lo rfl hS (k:=1) rfl Qg9 rfl) rfl (.q 2 rfl (.nil (.ret (Xc Tryz.results100 rfl ?_))))));exact ⟨_,rfl,rfl,hS.y 0 1⟩
theorem Xip (a:Option Addr) (c:Nat) (l:List Nt) (hl:l.length<=100000) (t:List UInt8) (B w:World) (I:Im) (As:List X7) (hE:∀ (w:World) (X:X7),Sat B w I (X::As)->X6y w X8 4 a l) (hS:Sat B w I As) :
  Cz 56 [.slice a l.length c,S t] w fun v w'=>v=I64 (ixN l t)/\Sat B w' I As:=by
 refine calls Tryz.func56 rfl Tryz.ntmps56 rfl (.seq (.region (.box1 hS (.of rfl) rfl rfl ?_)));intro b3 w hS;refine .q 1 rfl (.nil (.seq (.t 1 rfl (.val (.makeFunc (ec9 rfl X0)) rfl (.call Tryz.func98 rfl (ec9 rfl (ec9 rfl X0)) rfl (X4y a c l (by omega) (fun r=>r.ticket == t) 100 _ Tryz.func100 rfl [ptr b3 0] B _ I _ (fun w h=>hE w _ h) (fun r hr w h=>Xng r t b3 B w I _ h) hS) ?_)))));rintro _ w ⟨rfl,hS⟩;refine .q 1 rfl (.nil (.ret (Xc Tryz.results56 rfl ?_)));exact ⟨_,rfl,rfl,hS.y 0 1⟩
theorem X7x (a:Option Addr) (c:Nat) (l:List Nt) (hl:l.length<=100000) (B w:World) (I:Im) (hR:RS I a 4 l.length (X9 X8 l)) (As:List X7) (hS:Sat B w I As) :
  Cz 55 [.slice a l.length c] w fun v w'=>Sat B w' I (Vec 45 4 v (l).length (X9 X8 (l))::As):=by
 refine calls Qf55 rfl Tryz.ntmps55 rfl (.seq (.q 1 rfl (.seq (.seq (.t 1 rfl (.val (Ex.slNil (.of rfl) (.of rfl) X64) rfl (.nil ?_)))))));refine .cond rfl (fun hb4=>?_) fun hb4=>?_
 ·refine .seq (.q 1 rfl (.ret (Xc Tryz.results55 rfl ?_)));cases a with
  | some p=>simp at hb4
  | none =>
  have h0:l=[]:=by
   cases l with
   | nil=>rfl
   | cons x l=>obtain ⟨p,h,_⟩:=hR.2 (by simp); cases h
  subst h0;exact ⟨_,rfl,hS.vecNil 45 4⟩
 refine .skip (.seq (.region (.buildSlice (cs:=[]) hS X4 X64 X4e Xgw rfl rfl rfl rfl ?_)));intro b5 w hS;refine .q 1 rfl ?_;replace hS:=hS.vecOf (k:=0) (E:=45) (size:=4) (n:=0) rfl rfl (Yo _);refine .appendF (size:=4) (bytes:=48) hS (.of rfl) (.of rfl) hR (k:=0) rfl X64 (i:=Tryz.t45) (by kernel_rfl) rfl rfl rfl rfl (Xar (fun r=>rfl) l) ⟨by omega,by unfold maxLen; omega⟩ rfl ?_;intro v7 w hS;rw [Yc,Ye] at hS;refine .q 1 rfl (.nil (.ret (Xc Tryz.results55 rfl ?_)));exact ⟨_,rfl,hS⟩
theorem Xm8 (qb:Nat) (lim:Int) (x y z:Nat) (a:Option Addr) (c:Nat) (q:List Nt) (hq:q.length<=64) (B w:World) (I:Im) (hR:RS I a 4 q.length (X9 X8 q)) (hc:q.length<=c) (As:List X7) (hS:Sat B w I (blk qb [I64 lim,F64 x,F64 y,F64 z,.slice a q.length c] 113::As)) :
  Cz 20 [ptr qb 0] w fun v w'=>∃ J ra rc,v=.slice ra q.length rc/\Le I J/\q.length<=rc/\RS J ra 4 q.length (X9 X8 q)/\Sat B w' J (blk qb [I64 lim,F64 x,F64 y,F64 z,.slice a q.length c] 113::As):=by
 refine calls Tryz.func20 rfl Tryz.ntmps20 rfl (.seq (.q 1 rfl (.seq (.t 2 rfl ?_))));refine .val (.fo 4 rfl X82 rfl rfl Xmy rfl) rfl (.val (.lo rfl hS (k:=0) rfl Qg38 rfl) rfl (.call Qf55 rfl (ec9 rfl X0) rfl (X7x a c q (by omega) B _ I hR _ hS) ?_));rintro v9 w hS;refine .q 1 rfl (.nil (.ret (Xc Tryz.results20 rfl ?_)));obtain ⟨ra,rc,rfl,hrc,_⟩:=hS.vecSlice (k:=0) rfl;obtain ⟨J,hJ,hRS,hS⟩:=hS.freezeVec (k:=0) rfl;exact ⟨_,rfl,J,ra,rc,rfl,hJ,hrc,hRS,hS⟩
theorem Xmi (cs:List Value) (x y z:Nat) (tr:Int) (h24:cs[24]?=some (F64 x)) (h25:cs[25]?=some (F64 y)) (h26:cs[26]?=some (F64 z)) (h27:cs[27]?=some (I64 tr)) (B w:World) (I:Im) (As:List X7) (hS:Sat B w I As) :
  Cz 11 [.agg cs.toArray] w fun v w'=>∃ qb,v=ptr qb 0/\Sat B w' I (blk qb [I64 (max 1 (min tr 9)),F64 x,F64 y,F64 z,.slice none 0 0] 113::As):=by
 refine calls Tryz.func11 rfl Tryz.ntmps11 rfl (.seq (.region (.boxA (cs:=cs) hS (.of rfl) rfl ?_)));intro b1 w hS;refine .q 1 rfl (.nil (.seq (.region ?_)));refine .val (.fo 27 rfl Xe5 rfl rfl Qs3 rfl) rfl (.val (.ld (v:=I64 tr) (.of rfl) hS (k:=0) rfl Qg3 h27) rfl (.val (.min2 (.of rfl) (.of rfl)) rfl (.val (.max2 (.of rfl) (.of rfl)) rfl ?_)));refine .val (.fo 24 rfl Xe5 rfl rfl Xgf rfl) rfl (.val (.ld (v:=F64 x) (.of rfl) hS (k:=0) rfl Xm5 h24) rfl (.val (.fo 25 rfl Xe5 rfl rfl Xgf rfl) rfl (.val (.ld (v:=F64 y) (.of rfl) hS (k:=0) rfl Xm5 h25) rfl (.val (.fo 26 rfl Xe5 rfl rfl Xgf rfl) rfl (.val (.ld (v:=F64 z) (.of rfl) hS (k:=0) rfl Xm5 h26) rfl (.val (.build (cs:=[_,_,_,_,_]) (pc9 rfl (pc9 rfl (pc9 rfl (pc9 rfl X4)))) Xkp rfl) rfl (.boxA (cs:=[_,_,_,_,_]) hS (.of rfl) rfl ?_)))))));intro b14 w hS;refine .q 1 rfl (.nil (.ret (Xc Tryz.results11 rfl ?_)));exact ⟨_,rfl,b14,rfl,(hS.y 1 1)⟩
theorem X9s (qb:Nat) (lim:Int) (x y z:Nat) (a:Option Addr) (c:Nat) (q:List Nt) (hq:q.length<=64) (B w:World) (I:Im) (hR:RS I a 4 q.length (X9 X8 q)) (hc:q.length<=c) (hqr:∀ n∈q,X2f n=true) (now:Int) (hn0:0<=now) (hn1:now<=1099511627776) (As:List X7) (hS:Sat B w I (blk qb [I64 lim,F64 x,F64 y,F64 z,.slice a q.length c] 113::As)) :
  Cz 17 [ptr qb 0,I64 now] w fun v w'=>v=.tuple #[.agg (X8 (Xae q now).1).toArray,.bool (Xae q now).2]/\Sat B w' I (blk qb [I64 lim,F64 x,F64 y,F64 z,.slice a q.length c] 113::As):=by
 refine calls Qf17 rfl Tryz.ntmps17 rfl (.seq (.region (.allocA (cs:=[_,_,_,_]) hS Xgw rfl ?_)));intro b4 w hS;refine .q 1 rfl (.nil (.seq (.region (.val (.build (cs:=[_,_,_,_]) (pc9 rfl X4) X3z rfl) rfl (.allocA (cs:=[_,_,_,_]) hS Xgw rfl ?_)))));intro b6 w hS;refine .so hS (k:=0) rfl rfl rfl rfl X4e rfl (by simp) ?_;intro w hS;try simp only [Yk,Ye,Y9,Y7,Yh,Ym,Yc] at hS
 refine .nil (.seq (.seq (.t 2 rfl ?_)));refine .val (.fo 4 rfl X82 rfl rfl Xmy rfl) rfl (.val (.lo rfl hS (k:=2) rfl Qg38 rfl) rfl (.run 2 rfl ⟨⟨_,X64⟩,trivial⟩ (.nil (.block ?_))));have hS0:=hS; clear hS;refine .loop (σ:=Nat×Nt) (fun ⟨i,b⟩=>[(1,I64 now),(4,ptr b4 0),(6,ptr b6 0),(13,.slice a q.length c),(14,I64 (q.length:Nat)),(15,I64 (i:Nat))]) (fun ⟨i,b⟩ w=>i<=q.length/\(X87 none (q.take i)=none/\i=0/\b=⟨[],[],0,1099511627777⟩\/X87 none (q.take i)=some b)/\Sat B w I (blk b6 [S b.ticket,S b.url,I64 b.tries,I64 b.next] 45::blk b4 [S [],S [],I64 0,I64 0] 45::blk qb [I64 lim,F64 x,F64 y,F64 z,.slice a q.length c] 113::As)) (fun ⟨i,b⟩=>q.length - i) (0,⟨[],[],0,1099511627777⟩) ⟨rfl,rfl,rfl,rfl,rfl,rfl,trivial⟩ ⟨Yo _,.inl ⟨rfl,rfl,rfl⟩,hS0⟩ ?_;rintro ⟨i,b⟩ w ⟨hi,hbb,hS⟩;clear hS0;refine .seq (.q 1 rfl (.seq ?_));refine .cond rfl (fun hb16=>?_) fun hb16=>?_
 ·have hc16:=hb16; simp only [Y6] at hc16;refine .skip (.seq (.block (.seq ?_)));obtain ⟨n,hn⟩:∃ n,q[i]?=some n:=⟨_,Y4 (by omega)⟩
  obtain ⟨p,hp9,hx⟩:=Xcg (cells:=X8) (s:=4) (fun _=>rfl) hR hn;subst hp9;have hrn:=X4n (hqr n (Yl hn));have hst:X87 none (q.take (i+1))=X87 (X87 none (q.take i)) [n]:=by rw [Yz,hn,Y1e,Xa3]
  refine .region (.val (.ii rfl rfl (by omega) (by omega) X64 X4e) rfl ?_);rw [Yf];refine .val (.ldsI (us:=[S n.ticket,S n.url,I64 n.tries,I64 n.next]) (.of rfl) hS hx Xio X4e rfl (fun _ _ h=>h)) rfl (.allocA (cs:=[_,_,_,_]) hS Xgw rfl ?_);intro b8 w hS;refine .so hS (k:=0) rfl rfl rfl rfl X4e rfl (by simp) ?_;intro w hS;try simp only [Yk,Ye,Y9,Y7,Yh,Ym,Yc] at hS
  refine .nil (.seq (.region ?_));refine .val (.fo 3 rfl X8s rfl rfl Qs3 rfl) rfl (.val (.lo rfl hS (k:=0) rfl Qg3 rfl) rfl (.val (.fo 3 rfl X8s rfl rfl Qs3 rfl) rfl (.val (.lo rfl hS (k:=1) rfl Qg3 rfl) rfl (.q 1 rfl (.nil ?_)))));refine .cond rfl (fun hb23=>?_) fun hb23=>?_
  ·have hc23:=hb23; simp only [Y6] at hc23;refine .region (.val (.ldsW (cs:=[_,_,_,_]) (.of rfl) hS (k:=0) rfl Xio X4e rfl) rfl (.so hS (k:=1) rfl rfl rfl rfl X4e rfl (by simp) ?_));intro w hS;try simp only [Yk,Ye,Y9,Y7,Yh,Ym,Yc] at hS
   refine .nil (.region (.run 2 rfl ⟨⟨by omega,by omega⟩,trivial⟩ (.nil ?_)));refine ⟨(i+1,n),⟨rfl,rfl,rfl,rfl,rfl,rfl,trivial⟩,⟨by (try dsimp only); omega,.inr ?_,(hS.z [3,3,3] 3 1)⟩,by (try dsimp only); omega⟩;rcases hbb with ⟨h1,h2,h3⟩ | h1
   ·rw [hst,h1]; rfl
   ·rw [hst,h1];show X87 (some (if n.next<b.next then n else b)) []=_
    rw [if_pos (by have h9:=hc23; omega)]; rfl
  have hc23:=hb23; simp only [Y6] at hc23;refine .skip (.region (.run 2 rfl ⟨⟨by omega,by omega⟩,trivial⟩ (.nil ?_)));refine ⟨(i+1,b),⟨rfl,rfl,rfl,rfl,rfl,rfl,trivial⟩,⟨by (try dsimp only); omega,.inr ?_,(hS.z [3,3,3] 3 1)⟩,by (try dsimp only); omega⟩;rcases hbb with ⟨h1,h2,h3⟩ | h1
  ·subst h3; exfalso; have h9:=hc23; (try dsimp only at h9); omega
  ·rw [hst,h1];show X87 (some (if n.next<b.next then n else b)) []=_
   rw [if_neg (by have h9:=hc23; omega)]; rfl
 have hc16:=hb16; simp only [Y6] at hc16;refine .exit (.seq (.seq (.region ?_)));refine .val (.fo 3 rfl X8s rfl rfl Qs3 rfl) rfl (.val (.lo rfl hS (k:=0) rfl Qg3 rfl) rfl (.q 1 rfl (.val (.min2 (.of rfl) (.of rfl)) rfl (.q 1 rfl (.nil ?_)))));refine .cond rfl (fun hb30=>?_) fun hb30=>?_
 ·have hc30:=hb30; simp only [Y6] at hc30;refine .seq (.region (.val (.build (cs:=[_,_,_,_]) X4 X3z rfl) rfl ?_));refine .so hS (k:=1) rfl rfl rfl rfl X4e rfl (by simp) ?_;intro w hS;try simp only [Yk,Ye,Y9,Y7,Yh,Ym,Yc] at hS
  refine .q 1 rfl (.nil (.ret ?_));refine X1k (b:=_) (cs:=[_,_,_,_]) Tryz.results17 hS (k:=1) rfl Xio X4e rfl rfl rfl (⟨_,rfl,?_,(hS.z [2] 1 2)⟩);have hiq:i=q.length:=by omega
  subst hiq;rw [Y15] at hbb;unfold Xae;rcases hbb with ⟨h1,_⟩ | h1
  ·rw [h1]; rfl
  ·rw [h1];dsimp only
   rw [if_pos (by have h9:=hc30; omega)]; rfl
 have hc30:=hb30; simp only [Y6] at hc30;refine .skip (.seq (.region ?_));refine .val (.ldsW (cs:=[_,_,_,_]) (.of rfl) hS (k:=0) rfl Xio X4e rfl) rfl (.so hS (k:=1) rfl rfl rfl rfl X4e rfl (by simp) ?_);intro w hS;try simp only [Yk,Ye,Y9,Y7,Yh,Ym,Yc] at hS
 refine .q 1 rfl (.nil (.ret ?_));refine X1k (b:=_) (cs:=[_,_,_,_]) Tryz.results17 hS (k:=1) rfl Xio X4e rfl rfl rfl (⟨_,rfl,?_,(hS.z [2] 1 2)⟩);have hiq:i=q.length:=by omega
 subst hiq;rw [Y15] at hbb;unfold Xae;rcases hbb with ⟨h1,h2,h3⟩ | h1
 ·subst h3; exfalso; have h9:=hc30; (try dsimp only at h9); omega
 ·rw [h1];dsimp only
  rw [if_neg (by have h9:=hc30; omega)]; rfl
theorem Xqp (r:Nt) (h1:r.ticket.length<=60) (h2:r.url.length<=120) (B w:World) (I:Im) (hK:Kx I) (hP:PreAt I) (As:List X7) (hS:Sat B w I As) :
  Cz 53 [.agg (X8 r).toArray] w fun v w'=>v=.bool (!X2f r)/\Sat B w' I As:=by
 refine calls Tryz.func53 rfl Tryz.ntmps53 rfl (.seq (.region (.boxA (cs:=[_,_,_,_]) hS (.of rfl) rfl ?_)));intro b1 w hS;refine .q 1 rfl (.nil (.seq (.region ?_)));refine .val (.ldsW (cs:=[_,_,_,_]) (.of rfl) hS (k:=0) rfl Xio X4e rfl) rfl (.call Tryz.func54 rfl (ec9 rfl X0) rfl (Xg4 r (by omega) (by omega) B _ I hK hP _ hS) ?_);rintro _ w ⟨rfl,hS⟩;refine .q 2 rfl (.nil (.ret (Xc Tryz.results53 rfl ?_)));exact ⟨_,rfl,rfl,(hS.y 0 1)⟩
theorem Xuy (qb:Nat) (lim:Int) (x y z:Nat) (a:Option Addr) (c:Nat) (q:List Nt) (hq:q.length<=64) (B w:World) (I:Im) (hR:RS I a 4 q.length (X9 X8 q)) (hc:q.length<=c) (la:Option Addr) (lc:Nat) (l:List Nt) (hl:l.length<=70) (hls:∀ n∈l,n.ticket.length<=60/\n.url.length<=120) (hRl:RS I la 4 l.length (X9 X8 l)) (hK:Kx I) (hP:PreAt I) (As:List X7) (hS:Sat B w I (blk qb [I64 lim,F64 x,F64 y,F64 z,.slice a q.length c] 113::As)) :
  Cz 13 [ptr qb 0,.slice la l.length lc] w fun v w'=>∃ J a2 c2,v=I64 ((Xjp q l).2:Nat)/\Le I J/\RS J a2 4 (Xjp q l).1.length (X9 X8 (Xjp q l).1)/\(Xjp q l).1.length<=c2/\Sat B w' J (blk qb [I64 lim,F64 x,F64 y,F64 z,.slice a2 (Xjp q l).1.length c2] 113::As):=by
 refine calls Tryz.func13 rfl Tryz.ntmps13 rfl (.seq (.q 1 rfl (.seq (.seq (.t 1 rfl (.call Tryz.func52 rfl (ec9 rfl (ec9 rfl X0)) rfl (X6v la lc l (by omega) (fun n=>!X2f n) 53 _ Tryz.func53 rfl [] B _ I _ (fun w h=>X6r (cells:=X8) (s:=4) (fun _=>rfl) h hRl) (fun r hr w h=>Xqp r (hls r hr).1 (hls r hr).2 B w I hK hP _ h) hS) ?_))))));clear hS;rintro _ w ⟨rfl,hS⟩;refine .nil (.cond rfl (fun hb9=>?_) fun hb9=>?_)
 ·refine .seq (.q 1 rfl (.ret (Xc Qr13 rfl ?_)));have hp:Xjp q l=(q,1):=by unfold Xjp; rw [if_pos hb9]
  rw [hp];exact ⟨_,rfl,I,a,c,rfl,Le.refl _,hR,hc,hS⟩
 have hc9:=hb9; try simp only [Y6] at hc9
 refine .skip (.seq (.t 2 rfl ?_));refine .val (.fo 4 rfl X82 rfl rfl Xmy rfl) rfl (.val (.lo rfl hS (k:=0) rfl Qg38 rfl) rfl (.call Qf55 rfl (ec9 rfl X0) rfl (X7x a c q (by omega) B _ I hR _ hS) ?_));clear hS;rintro v5 w hS;refine .q 1 rfl (.nil (.seq (.seq (.region (.run 3 rfl ⟨⟨_,X64⟩,trivial⟩ (.nil (.block ?_)))))));have hS0:=hS; clear hS;refine .loop (σ:=Nat×List Nt×Value) (fun ⟨i,all,v⟩=>[(0,ptr qb 0),(1,.slice la l.length lc),(5,v),(15,.slice la l.length lc),(16,I64 (l.length:Nat)),(17,I64 (i:Nat))]) (fun ⟨i,all,v⟩ w=>i<=l.length/\all=q ++ l.take i/\Xw5 q l=Xw5 all (l.drop i)/\Sat B w I (Vec 45 4 v (all).length (X9 X8 (all))::blk qb [I64 lim,F64 x,F64 y,F64 z,.slice a q.length c] 113::As)) (fun ⟨i,all,v⟩=>l.length - i) (0,q,v5) ⟨rfl,rfl,rfl,rfl,rfl,rfl,trivial⟩ ⟨Yo _,by simp,rfl,hS0⟩ ?_;rintro ⟨i,all,v⟩ w ⟨hi,hall,hdup,hS⟩;clear hS0;refine .seq (.q 1 rfl (.seq ?_));refine .cond rfl (fun hb18=>?_) fun hb18=>?_
 ·have hc18:=hb18; try simp only [Y6] at hc18
  refine .skip (.seq (.block (.seq ?_)));obtain ⟨n,hn⟩:∃ n,l[i]?=some n:=⟨_,Y4 (by omega)⟩
  obtain ⟨p,hp9,hx⟩:=Xcg (cells:=X8) (s:=4) (fun _=>rfl) hRl hn;subst hp9;have hdr:l.drop i=n::l.drop (i+1):=by rw [Y13 (by omega),(Y5.1 hn).2]
  have hal9:all.length<=134:=by rw [hall]; simp only [Y0,Yr]; omega
  refine .region (.val (.ii rfl rfl (by omega) (by omega) X64 X4e) rfl ?_);rw [Yf];refine .val (.ldsI (us:=[S n.ticket,S n.url,I64 n.tries,I64 n.next]) (.of rfl) hS hx Xio X4e rfl (fun _ _ h=>h)) rfl (.allocA (cs:=[_,_,_,_]) hS Xgw rfl ?_);clear hS; intro b7 w hS;refine .so hS (k:=0) rfl rfl rfl rfl X4e rfl (by simp) ?_;clear hS; intro w hS;try simp only [Yk,Ye,Y9,Y7,Yh,Ym,Yc] at hS
  refine .nil (.seq (.seq ?_));obtain ⟨va,vc,rfl,hvc,_⟩:=hS.vecSlice (k:=1) rfl;refine .t 1 rfl (.val (.fo 0 rfl X8s rfl rfl Qs9 rfl) rfl (.val (.lo rfl hS (k:=0) rfl Qg9 rfl) rfl ?_));replace hS:=(hS.pick 1 rfl)
  refine .call Tryz.func56 rfl (ec9 rfl (ec9 rfl X0)) rfl (Xip va vc all (by omega) n.ticket B _ I _ (fun w X h=>nt_vec h (k:=1) rfl) hS) ?_;clear hS;rintro _ w ⟨rfl,hS⟩;refine .q 1 rfl (.nil ?_);refine .cond rfl (fun hb25=>?_) fun hb25=>?_
  ·have hc25:=hb25; try simp only [Y6] at hc25
   refine .seq (.q 1 rfl (.ret (Xc Qr13 rfl ?_)));have hany0:(l.any fun n=>!X2f n)=false:=by simpa using hb9
   have hyes:(all.any fun x=>x.ticket == n.ticket)=true:=by
    rw [<- X24 _ all 0];exact decide_eq_true (by have h9:=hc25; unfold ixN at h9; omega)
   have hp:Xjp q l=(q,7):=by unfold Xjp; rw [if_neg (by rw [hany0]; decide),if_pos (by rw [hdup,hdr,Xw5,hyes,Bool.true_or])]
   rw [hp];exact ⟨_,rfl,I,a,c,rfl,Le.refl _,hR,hc,(hS.z [2] 1 2)⟩
  have hc25:=hb25; try simp only [Y6] at hc25
  refine .skip (.t 1 rfl ?_);refine .val (.ldsW (cs:=[_,_,_,_]) (.of rfl) hS (k:=1) rfl Xio X4e rfl) rfl (.buildSlice (cs:=[_,_,_,_]) hS (pc9 rfl X4) X64 X4e Xgw rfl rfl rfl rfl ?_);clear hS; intro b28 w hS;refine .append (size:=4) (bytes:=48) hS (.of rfl) (.of rfl) (k:=0) rfl X64 X8d rfl rfl rfl rfl rfl rfl rfl ⟨by omega,by unfold maxLen; omega⟩ rfl ?_;clear hS; intro v29 w hS;obtain ⟨a29,c29,rfl,hcap29,_⟩:=hS.vecSlice (k:=0) (v:=v29) rfl;refine .q 1 rfl (.nil (.region (.run 2 rfl ⟨⟨by omega,by omega⟩,trivial⟩ (.nil ?_))));replace hS:=(((hS.pick 2 rfl).pick 1 rfl).drop (k:=2) rfl)
  have er:X9 X8 (all ++ [n])=X9 X8 all ++ [S n.ticket,S n.url,I64 n.tries,I64 n.next]:=by simp [X9,X8]
  have el:(all ++ [n]).length=all.length+1:=by simp
  have hno:(all.any fun x=>x.ticket == n.ticket)=false:=by
   rw [<- X24 _ all 0];exact decide_eq_false (by have h9:=hc25; unfold ixN at h9; omega)
  refine ⟨(i+1,all ++ [n],_),⟨rfl,rfl,rfl,rfl,rfl,rfl,trivial⟩,⟨by (try dsimp only); omega,?_,?_,by rw [er,el]; exact hS⟩,by (try dsimp only); omega⟩
  ·rw [hall,Yz,hn,Y1e,Yd]
  ·rw [hdup,hdr,Xw5,hno,Y3m]
 have hc18:=hb18; try simp only [Y6] at hc18
 refine .exit (.seq (.seq ?_));have hil:i=l.length:=by omega
 subst hil;rw [Y15] at hall;have hdup0:Xw5 q l=false:=by rw [hdup,Y2x]; rfl
 have hany0:(l.any fun n=>!X2f n)=false:=by simpa using hb9
 have hal9:all.length=q.length+l.length:=by rw [hall,Y0]
 obtain ⟨va,vc,rfl,hvc,_⟩:=hS.vecSlice (k:=0) rfl;refine .region (.run 3 rfl ⟨⟨_,X64⟩,trivial⟩ (.nil ?_));refine .cond rfl (fun hb33=>?_) fun hb33=>?_
 ·have hc33:=hb33; try simp only [Y6] at hc33
  refine .seq (.q 1 rfl (.ret (Xc Qr13 rfl ?_)));have hp:Xjp q l=(q,5):=by unfold Xjp; rw [if_neg (by rw [hany0]; decide),if_neg (by rw [hdup0]; decide),if_pos (by have h9:=hc33; omega)]
  rw [hp];exact ⟨_,rfl,I,a,c,rfl,Le.refl _,hR,hc,(hS.z [1] 1 1)⟩
 have hc33:=hb33; try simp only [Y6] at hc33
 refine .skip (.seq (.t 3 rfl ?_));refine .val (.fo 4 rfl X82 rfl rfl Xmy rfl) rfl (.s1 hS (k:=1) rfl rfl rfl rfl Xmy (by simp) ?_);clear hS; intro w hS;refine .nil (.seq (.q 1 rfl (.ret (Xc Qr13 rfl ?_))));have hp:Xjp q l=(q ++ l,0):=by unfold Xjp; rw [if_neg (by rw [hany0]; decide),if_neg (by rw [hdup0]; decide),if_neg (by have h9:=hc33; omega)]
 rw [hp];subst hall;obtain ⟨J,hJ,hRS,hS⟩:=hS.freezeVec (k:=0) rfl;exact ⟨_,rfl,J,va,vc,rfl,hJ,hRS,hvc,hS⟩
theorem Xcf {α:Type} (cells:α->List Value) (l:List α) (k:Nat):X9 cells l=X9 cells (l.take k) ++ X9 cells (l.drop k):=by
 conv=>lhs; rw [<- Yv k l]
 unfold X9; rw [Yw,Y29]
theorem Xpn {α:Type} {cells:α->List Value} {s:Nat} (hc:∀ x,(cells x).length=s) (l:List α) (r:List Value) {k:Nat} (hk:k<=l.length):(X9 cells l ++ r).take (k*s)=X9 cells (l.take k):=by
 have h:=X1x hc (l.take k);rw [Yr,Y2h hk] at h;rw [Xcf cells l k,Yd,<- h,Y2d]
theorem Xpm {α:Type} {cells:α->List Value} {s:Nat} (hc:∀ x,(cells x).length=s) (l:List α) (r:List Value) {k:Nat} (hk:k<=l.length):(X9 cells l ++ r).drop (k*s)=X9 cells (l.drop k) ++ r:=by
 have h:=X1x hc (l.take k);rw [Yr,Y2h hk] at h;rw [Xcf cells l k,Yd,<- h,Y45]
theorem Xdu {α:Type} {cells:α->List Value} {s:Nat} (hc:∀ x,(cells x).length=s) (y:α) (v:Value) (k:Nat) (hk:k<s) (r:List Value):∀ (l:List α) (i:Nat) (x:α),l[i]?=some x->cells y=(cells x).set k v->(X9 cells l ++ r).set (i*s+k) v=X9 cells (l.set i y) ++ r
 | [],_,_,h,_=>by simp at h
 | a::l,0,x,h,hy=>by
  cases h
  show (cells a ++ X9 cells l ++ r).set (0*s+k) v=cells y ++ X9 cells l ++ r
  rw [Y32,Yc,Yd,Y42 _ _ (by rw [hc]; exact hk),hy,Yd]
 | a::l,i+1,x,h,hy=>by
  show (cells a ++ X9 cells l ++ r).set ((i+1)*s+k) v=cells a ++ X9 cells (l.set i y) ++ r
  rw [Yd,Y2c _ _ (by rw [hc,Y31]; omega),hc,Y31,show i*s+s+k - s=i*s+k by omega,Xdu hc y v k hk r l i x (by simpa using h) hy,Yd]
theorem Xk5 (l:List Nt) (i:Nat) (hi:i<l.length) (hl:l.length<=100000) (s:Value) (B w:World) (I:Im) (As:List X7) (hS:Sat B w I (Vec 45 4 s (l).length (X9 X8 (l))::As)) :
  Cz 58 [s,I64 (i:Nat),I64 ((i:Int)+1)] w fun v w'=>Sat B w' I (Vec 45 4 v (l.eraseIdx i).length (X9 X8 (l.eraseIdx i))::As):=by
 obtain ⟨gb,cap,r,rfl,hc1,hc2,hl1,hl2,hS⟩:=hS.vecOpen (k:=0) rfl (by omega);have h4:∀ x:Nt,(X8 x).length=4:=fun _=>rfl
 obtain ⟨pq,hsl,hpq⟩:∃ pq,sliced (some (ad gb 0)) ((i:Int)+1).toNat l.length cap 4=.slice (some pq) (l.length - (i+1)) (cap - (i+1))/\(0<l.length - (i+1)->pq=ad gb ((i+1)*4)):=by
  unfold sliced;rw [show ((i:Int)+1).toNat=i+1 by omega];split
  ·exact ⟨_,rfl,fun h=>by omega⟩
  ·exact ⟨_,rfl,fun _=>by (try dsimp only); rw [X15,Yc]⟩
 have hs2:sliced (some (ad gb 0)) ((i+(l.length - (i+1)):Nat):Int).toNat (l.length:Int).toNat cap 4=.slice (some (ad gb ((l.length - 1)*4))) 1 (cap - (l.length - 1)):=by
  unfold sliced;rw [Yf,Yf,if_neg (by omega),Y3y,X15,Yc,show i+(l.length - (i+1))=l.length - 1 by omega,show l.length - (l.length - 1)=1 by omega]
 have hcut:((X9 X8 l ++ r).drop ((i+1)*4)).take ((l.length - (i+1))*4)=X9 X8 (l.drop (i+1)):=by
  rw [Xpm h4 l r (by omega)];have h:=X1x h4 (l.drop (i+1));rw [Yg] at h;rw [<- h,Y2d]
 have htk:=Xpn h4 l r (k:=i) (by omega);have hel:l.eraseIdx i=l.take i ++ l.drop (i+1):=List.eraseIdx_eq_take_drop_succ ..;have hrl:=X1x h4 l;have hell:(l.eraseIdx i).length=l.length - 1:=by rw [List.length_eraseIdx]; split <;> omega
 have hrel:=X1x h4 (l.eraseIdx i);have hre:X9 X8 (l.eraseIdx i)=X9 X8 (l.take i) ++ X9 X8 (l.drop (i+1)):=by rw [hel]; unfold X9; rw [Yw,Y29]
 refine calls Tryz.func58 rfl Tryz.ntmps58 rfl (.seq (.q 1 rfl (.seq (.region (.run 5 rfl ⟨⟨_,X64⟩,trivial⟩ (.val (Ex.slc3 (.of rfl) (.of rfl) (.of rfl) (.of rfl) (by omega) (by omega) (by omega) (by omega) X64 X4e) rfl (.nil (.seq (.seq (.q 3 rfl ?_))))))))));refine .cond rfl (fun hb16=>by exfalso; simp only [Y6] at hb16; omega) (fun hb16=>?_);refine .skip (.seq (.region (.run 3 rfl ⟨⟨_,X64⟩,trivial⟩ (.nil (.seq (.dw (fun _=>True) (fun j=>!([].contains j)) ?_))))));replace hS:=hS.drew; generalize w.drew=w at hS ⊢;refine .tp 0 rfl (fun w=>(.mo rfl)) (.tp 1 rfl (fun w=>(.mo rfl)) (.tp 2 rfl (fun w=>.slcTo (.of rfl) (.of rfl) (by omega) (by omega) X64 X4e) ?_));rw [Yf,show (⟨gb,0,none⟩:Addr)=ad gb 0 from rfl,X4p];refine .tp 3 rfl (fun w=>(.mo rfl)) (.tp 4 rfl (fun w=>(.mo rfl)) (.tp 5 rfl (fun w=>.slcFrom (.of rfl) (.of rfl) (by omega) (by omega) X64 X4e) ?_));rw [hsl];refine .b1 6 rfl ?_;refine .appendSelf (o:=(i+1)*4) (size:=4) hS (k:=0) rfl (.of rfl) (.of rfl) hpq X64 (i:=Tryz.t45) (by kernel_rfl) rfl (by rw [Y0]; omega) (by rw [hcut]; exact Y1c.1 (Xar (fun r=>rfl) _)) (by omega) (by rw [Y0]; omega) rfl ?_;intro w hS;rw [hcut,htk,<- hre] at hS;refine .nil ?_;refine And.intro (by intro _ _; trivial) ?_;refine .tp 7 rfl (fun w=>(.ao rfl)) (.dn (.seq (.region (.run 4 rfl ⟨⟨_,X64⟩,trivial⟩ (.val (.slc (.of rfl) (.of rfl) (.of rfl) (by omega) (by omega) (by omega) X64 X4e) rfl ?_)))));rw [hs2];refine WL.clear (s:=4) hS (k:=0) rfl (.of rfl) X64 Xgw rfl (by decide) (by simp only [Y0,Yg]; omega) ?_;intro w cs9 hcs1 hcs2 hS;refine .nil (.seq (.q 2 rfl (.ret (Xc Tryz.results58 rfl ?_))));have h5:cs9.take ((l.length - 1)*4)=X9 X8 (l.eraseIdx i):=by
  rw [hcs2];rw [<- hell,<- hrel,Y2d]
 have h6:cs9=X9 X8 (l.eraseIdx i) ++ cs9.drop ((l.length - 1)*4):=by rw [<- h5]; exact (Yv _ _).symm
 rw [h6] at hS;rw [show i+(l.length - (i+1))=(l.eraseIdx i).length by omega];simp only [Y0,Yg] at hcs1
 exact ⟨_,rfl,hS.vecShut (n:=(l.eraseIdx i).length) (size:=4) (k:=0) rfl (by omega) hc2 hrel (by rw [hrel,Yg,hcs1]; omega)⟩
theorem Xcr (qb:Nat) (lim:Int) (x y z:Nat) (a:Option Addr) (c:Nat) (q:List Nt) (hq:q.length<=64) (B w:World) (I:Im) (hR:RS I a 4 q.length (X9 X8 q)) (hc:q.length<=c) (hqr:∀ n∈q,X2f n=true) (tr:Int) (hlim:lim=limQ ⟨x,y,z,tr⟩) (t:List UInt8) (ok:Bool) (now:Int) (hn0:0<=now) (hn1:now<=1099511627776) (As:List X7) (hS:Sat B w I (blk qb [I64 lim,F64 x,F64 y,F64 z,.slice a q.length c] 113::As)) :
  Cz 15 [ptr qb 0,S t,.bool ok,I64 now] w fun v w'=>∃ J a2 c2,v=I64 ((X75 ⟨x,y,z,tr⟩ q t ok now).2:Nat)/\Le I J/\RS J a2 4 (X75 ⟨x,y,z,tr⟩ q t ok now).1.length (X9 X8 (X75 ⟨x,y,z,tr⟩ q t ok now).1)/\(X75 ⟨x,y,z,tr⟩ q t ok now).1.length<=c2/\Sat B w' J (blk qb [I64 lim,F64 x,F64 y,F64 z,.slice a2 (X75 ⟨x,y,z,tr⟩ q t ok now).1.length c2] 113::As):=by
 refine calls Qf15 rfl Tryz.ntmps15 rfl (.seq (.q 1 rfl (.seq (.t 2 rfl ?_))));refine .val (.fo 4 rfl X82 rfl rfl Xmy rfl) rfl (.val (.lo rfl hS (k:=0) rfl Qg38 rfl) rfl (.q 1 rfl (.call Tryz.func56 rfl (ec9 rfl (ec9 rfl X0)) rfl (Xip a c q (by omega) t B _ I _ (fun w X h=>X6r (cells:=X8) (s:=4) (fun _=>rfl) h hR) hS) ?_)));rintro _ w ⟨rfl,hS⟩;refine .q 1 rfl (.nil (.seq (.seq (.q 2 rfl ?_))));refine .cond rfl (fun hb20=>?_) fun hb20=>?_
 ·have hc20:=hb20; simp only [Y6] at hc20;refine .seq (.q 1 rfl (.ret (Xc Tryz.results15 rfl ?_)));have hd:X75 ⟨x,y,z,tr⟩ q t ok now=(q,6):=by
   unfold X75;split
   ·rfl
   ·rw [if_pos (by have h9:=hc20; omega)]
  rw [hd];exact ⟨_,rfl,I,a,c,rfl,Le.refl _,hR,hc,hS⟩
 have hc20:=hb20; simp only [Y6] at hc20;refine .skip (.seq ?_);obtain ⟨j,n,hix,hnj⟩:∃ (j:Nat) (n:Nt),ixN q t=(j:Int)/\q[j]?=some n:=by
  rcases X8b (fun n:Nt=>n.ticket == t) q 0 with ⟨h,_⟩ | ⟨j,n,h1,h2,_⟩
  ·exfalso; have h9:=hc20; unfold ixN at h9; rw [h] at h9; omega
  ·exact ⟨j,n,by unfold ixN; rw [h1]; simp,h2⟩
 rw [hix];have hjl:=(Y5.1 hnj).1;have h4:∀ x:Nt,(X8 x).length=4:=fun _=>rfl
 have hrn:=X4n (hqr n (Yl hnj));have hrq:=X1x h4 q;have hdq:∀ (tr:Int),X75 ⟨x,y,z,tr⟩ q t ok now=if ok=true\/limQ ⟨x,y,z,tr⟩<=n.tries+1 then (q.eraseIdx j,0) else (q.set j (X8u ⟨x,y,z,tr⟩ n now),0):=fun tr=>by
  unfold X75;rw [hix,Yf,hnj];dsimp only
  rw [if_neg (by omega)]
 refine .t 2 rfl (.val (.fo 4 rfl X82 rfl rfl Xmy rfl) rfl (.val (.lo rfl hS (k:=0) rfl Qg38 rfl) rfl (.call Qf55 rfl (ec9 rfl X0) rfl (X7x a c q (by omega) B _ I hR _ hS) ?_)));rintro v10 w hS;refine .q 1 rfl (.nil (.seq ?_));obtain ⟨gb,cap,r,rfl,hc1,hc2,hl1,hl2,hS⟩:=hS.vecOpen (k:=0) rfl (by omega);have hld0:(X9 X8 q ++ r)[j*4+2]?=some (I64 n.tries):=by
  have h9:=X7k (cells:=X8) (s:=4) (fun _=>rfl) hnj (j:=2) (v:=I64 n.tries) rfl;rw [Yi (Y5.1 h9).1]; exact h9
 obtain ⟨q1,hq1⟩:∃ q1,q1=q.set j ⟨n.ticket,n.url,n.tries+1,n.next⟩:=⟨_,rfl⟩
 have hql1:q1.length=q.length:=by rw [hq1,Y2a]
 have hrq1:=X1x h4 q1;have hn1:q1[j]?=some (⟨n.ticket,n.url,n.tries+1,n.next⟩:Nt):=by rw [hq1,Y4h hjl]
 have hst1:(X9 X8 q ++ r).set (j*4+2) (I64 (n.tries+1))=X9 X8 q1 ++ r:=by
  rw [hq1]; exact Xdu h4 ⟨n.ticket,n.url,n.tries+1,n.next⟩ _ 2 (by decide) r q j n hnj rfl
 have hld1:(X9 X8 q1 ++ r)[j*4+2]?=some (I64 (n.tries+1)):=by
  have h9:=X7k (cells:=X8) (s:=4) (fun _=>rfl) hn1 (j:=2) (v:=I64 (n.tries+1)) rfl;rw [Yi (Y5.1 h9).1]; exact h9
 refine .t 2 rfl (.val (.io rfl rfl (by omega) (by omega) X64 X4e) rfl ?_);rw [Yf,Yc];refine .q 1 rfl (.nil (.seq (.seq (.t 2 rfl ?_))));refine .val (.fo 2 rfl X8s rfl rfl Qs3 rfl) rfl (.val (.ld (v:=I64 n.tries) (.of rfl) hS (k:=0) rfl Qg3 hld0) rfl (.run 2 rfl ⟨⟨by omega,by omega⟩,trivial⟩ ?_));refine .val (.fo 2 rfl X8s rfl rfl Qs3 rfl) rfl (.s1 hS (k:=0) rfl rfl rfl rfl Qs3 (by rw [Y0]; omega) ?_);intro w hS;rw [hst1] at hS;refine .nil (.seq (.qt hS (.val (fun w hS=>(.mo rfl)) rfl (.val (fun w hS=>(.mo rfl)) rfl (.gval rfl rfl rfl (fun hg1 w hS=>(.mo rfl)) rfl (.gval rfl rfl rfl (fun hg1 w hS=>(.nilCheck (.gd hg1 rfl))) rfl ?_))))));refine .gval rfl rfl rfl (fun hg1 w hS=>(by exact .fieldAddr 2 (.gd hg1 rfl) X8s rfl rfl Qs3 rfl)) rfl ?_;refine .gval rfl rfl rfl (fun hg1 w hS=>.ld (v:=I64 (n.tries+1)) (.gd hg1 rfl) hS (k:=0) rfl Qg3 hld1) rfl (.gval rfl rfl rfl (fun hg1 w hS=>(.mo rfl)) rfl (.gval rfl rfl rfl (fun hg1 w hS=>(.nilCheck (.gd hg1 rfl))) rfl ?_));refine .gval rfl rfl rfl (fun hg1 w hS=>(by exact .fieldAddr 0 (.gd hg1 rfl) X82 rfl rfl Qs3 rfl)) rfl ?_;refine .gval rfl rfl rfl (fun hg1 w hS=>(by exact (.ld (.gd hg1 rfl) hS (k:=1) rfl Qg3 rfl))) rfl ?_;refine .gval rfl rfl rfl (fun hg1 w hS=>(.geq (.gd hg1 rfl) (.gd hg1 rfl))) rfl (.val (fun w hS=>(.po rfl rfl rfl)) rfl (.nil ?_));intro w hS;refine .cond rfl (fun hb47=>?_) fun hb47=>?_
 ·refine .seq ?_;replace hS:=hS.vecShut (n:=q1.length) (size:=4) (k:=0) rfl (by omega) hc2 hrq1 (by omega);rw [<- hql1];refine .region (.run 5 rfl ⟨⟨by omega,by omega⟩,trivial⟩ (.call Tryz.func58 rfl (ec9 rfl (ec9 rfl (ec9 rfl X0))) rfl (Xk5 q1 j (by omega) (by omega) _ B _ I _ hS) ?_));rintro v53 w hS;obtain ⟨vd,cd,rfl,hvd,_⟩:=hS.vecSlice (k:=0) rfl;refine .q 1 rfl (.val (.fo 4 rfl X82 rfl rfl Xmy rfl) rfl (.s1 hS (k:=1) rfl rfl rfl rfl Xmy (by simp) ?_));intro w hS;refine .nil (.seq (.q 1 rfl (.ret (Xc Tryz.results15 rfl ?_))));have hd:X75 ⟨x,y,z,tr⟩ q t ok now=(q.eraseIdx j,0):=by
   rw [hdq,if_pos];have h9:=hb47;simp only [Y1j,decide_eq_true_eq] at h9
   rcases h9 with h | h
   ·exact .inl h
   ·exact .inr (by rw [<- hlim]; omega)
  rw [hd];have he:q1.eraseIdx j=q.eraseIdx j:=by rw [hq1,Y3f]
  rw [he] at hS;replace hS:=((hS.pick 1 rfl).pick 1 rfl)
  obtain ⟨J,hJ,hRS,hS⟩:=hS.freezeVec (k:=0) rfl;rw [he] at hvd;exact ⟨_,rfl,J,vd,cd,rfl,hJ,hRS,hvd,hS⟩
 refine .skip (.seq (.dw (fun w=>∃ R,Sat B w I (blk qb [I64 lim,F64 x,F64 y,F64 z,.slice a q.length c] 113::blk gb (X9 X8 q1 ++ r) 45::R)) (fun j=>!([].contains j)) ?_));replace hS:=hS.drew; generalize w.drew=w at hS ⊢;have hH:=(hS.x [0,1])
 refine .tp 0 rfl (fun w=>(.mo rfl)) (.tp 1 rfl (fun w=>(.no rfl)) ?_);refine .tp 2 rfl (fun w=>(.fo 1 rfl X82 rfl rfl Xgf rfl)) (.tk 3 rfl ⟨_,hH⟩ (fun w ⟨R,hS⟩=>((.lo rfl hS (k:=0) rfl Xm5 rfl))) (.tp 4 rfl (fun w=>(.mo rfl)) (.tp 5 rfl (fun w=>(.no rfl)) ?_)));refine .tp 6 rfl (fun w=>(.fo 2 rfl X82 rfl rfl Xgf rfl)) (.tk 7 rfl ⟨_,hH⟩ (fun w ⟨R,hS⟩=>((.lo rfl hS (k:=0) rfl Xm5 rfl))) (.tp 8 rfl (fun w=>(.mo rfl)) (.tp 9 rfl (fun w=>(.no rfl)) ?_)));refine .tp 10 rfl (fun w=>(.fo 2 rfl X8s rfl rfl Qs3 rfl)) (.tk 11 rfl ⟨_,hH⟩ (fun w ⟨R,hS⟩=>.ld (v:=I64 (n.tries+1)) (.of rfl) hS (k:=1) rfl Qg3 hld1) (.tp 12 rfl (fun w=>(.sub (.of rfl) (.of rfl) ⟨by omega,by omega⟩)) (.tp 13 rfl (fun w=>(.mo rfl)) (.tp 14 rfl (fun w=>(.no rfl)) ?_))));refine .tp 15 rfl (fun w=>(.fo 3 rfl X82 rfl rfl Xgf rfl)) (.tk 16 rfl ⟨_,hH⟩ (fun w ⟨R,hS⟩=>((.lo rfl hS (k:=0) rfl Xm5 rfl))) (.b1 17 rfl (.call Tryz.func59 rfl (ec9 rfl (ec9 rfl (ec9 rfl (ec9 rfl X0)))) rfl (Xrf x y (n.tries+1 - 1) z B _ I _ hS) ?_)));rintro _ w ⟨rfl,hS⟩;refine .nil ?_;clear hH;have hH:=(hS.x [0,1])
 refine ⟨fun _ _=>⟨_,hH⟩,?_⟩;refine .tp 18 rfl (fun w=>(.ao rfl)) (.dn (.seq ?_));have hct:=Xvz (Rk.waitV x y (n.tries+1 - 1) z);have hst2:(X9 X8 q1 ++ r).set (j*4+3) (I64 (min (now+Rk.cnt (Rk.waitV x y (n.tries+1 - 1) z) 1099511627776) 1099511627776))=X9 X8 (q1.set j (⟨n.ticket,n.url,n.tries+1,min (now+Rk.cnt (Rk.waitV x y (n.tries+1 - 1) z) 1099511627776) 1099511627776⟩:Nt)) ++ r:=Xdu h4 (⟨n.ticket,n.url,n.tries+1,min (now+Rk.cnt (Rk.waitV x y (n.tries+1 - 1) z) 1099511627776) 1099511627776⟩:Nt) _ 3 (by decide) r q1 j _ hn1 rfl;refine .t 3 rfl (.call Tryz.func60 rfl (ec9 rfl (ec9 rfl X0)) rfl (Xma _ _ _) ?_);rintro _ _ ⟨rfl,rfl⟩;refine .run 1 rfl ⟨⟨by omega,by omega⟩,trivial⟩ (.val (.min2 (.of rfl) (.of rfl)) rfl (.q 1 rfl ?_));refine .val (.fo 3 rfl X8s rfl rfl Qs3 rfl) rfl (.s1 hS (k:=0) rfl rfl rfl rfl Qs3 (by rw [Y0]; omega) ?_);intro w hS;rw [hst2] at hS;refine .nil (.seq (.t 3 rfl ?_));refine .val (.fo 4 rfl X82 rfl rfl Xmy rfl) rfl (.s1 hS (k:=1) rfl rfl rfl rfl Xmy (by simp) ?_);intro w hS;refine .nil (.seq (.q 1 rfl (.ret (Xc Tryz.results15 rfl ?_))));have hd:X75 ⟨x,y,z,tr⟩ q t ok now=(q.set j (X8u ⟨x,y,z,tr⟩ n now),0):=by
  rw [hdq,if_neg];have h9:=hb47;simp only [Y10,decide_eq_false_iff_not] at h9
  rintro (h | h)
  ·rw [h9.1] at h; cases h
  ·rw [<- hlim] at h; omega
 rw [hd];have he:q1.set j (⟨n.ticket,n.url,n.tries+1,min (now+Rk.cnt (Rk.waitV x y (n.tries+1 - 1) z) 1099511627776) 1099511627776⟩:Nt)=q.set j (X8u ⟨x,y,z,tr⟩ n now):=by
  rw [hq1,List.set_set];unfold X8u;rw [show n.tries+1 - 1=n.tries by omega]
 rw [he] at hS;have hle:(q.set j (X8u ⟨x,y,z,tr⟩ n now)).length=q.length:=Y2a ..;have hrl:=X1x h4 (q.set j (X8u ⟨x,y,z,tr⟩ n now));replace hS:=((hS.pick 1 rfl).pick 1 rfl)
 replace hS:=hS.vecShut (n:=(q.set j (X8u ⟨x,y,z,tr⟩ n now)).length) (size:=4) (k:=0) rfl (by omega) hc2 hrl (by omega);obtain ⟨J,hJ,hRS,hS⟩:=hS.freezeVec (k:=0) rfl;exact ⟨_,rfl,J,_,cap,rfl,hJ,hRS,by (try dsimp only); omega,by (try dsimp only); rw [hle]; exact hS⟩
theorem Xlh (p q:Nt) (w:World):(Op.equalIn 10000 45 (.agg (X8 p).toArray) (.agg (X8 q).toArray)).run Tryz.prog w=.ok (decide (p=q)) w:=by
 have hS:Tryz.prog.underlying 45=some (.struct (Tryz.prog.fieldsOf 45)):=by kernel_rfl
 have hp:Tryz.prog.stoodInHeld 45=false:=by kernel_rfl
 have us:=Qu9;have as9:=Qg9;have ui:=Qu3;have ai:=Qg3;rw [show (10000:Nat)=9999+1 from rfl,run_equalIn_agg w 9999 45 _ _ hS hp];simp only [Program.fieldsOf,X8s]
 obtain ⟨a,b,e,f⟩:=p;obtain ⟨c,d,g,h⟩:=q;unfold X8
 go_simp
 repeat' split
 all_goals simp_all
theorem Ex.neNt {n:Nat} {L:Env} {w:World} {d:Option Nat} {ty t':TypeId} {pos:String} {af:Array Edge} {g:Option (Nat×Bool)} {x y:Operand} {r s:Nt} (hx:Ev n L x (.agg (X8 r).toArray)) (hy:Ev n L y (.agg (X8 s).toArray)):Ex Tryz.prog n L w ⟨d,.binOp .neq 45 x y t',ty,pos,af,g⟩ (.bool (!decide (r=s))) w :=
 X16 hx hy (fun p q=>run_eqGuard_agg w _ _ _ _ _ _ (by kernel_rfl)) (by rw [run_neq_struct,Xlh]; rfl)
theorem Xfx (a b:Option Addr) (ca cb:Nat) (la lb:List Nt) (hla:la.length<=100000) (B w:World) (I:Im) (hA:RS I a 4 la.length (X9 X8 la)) (hB:RS I b 4 lb.length (X9 X8 lb)) (As:List X7) (hS:Sat B w I As) :
  Cz 19 [.slice a la.length ca,.slice b lb.length cb] w fun v w'=>v=.bool (decide (la=lb))/\Sat B w' I As:=by
 refine calls Tryz.func19 rfl Tryz.ntmps19 rfl (.seq (.q 1 rfl (.seq (.seq (.region (.run 5 rfl ⟨⟨_,X64⟩,⟨_,X64⟩,trivial⟩ (.nil ?_)))))));refine .cond rfl (fun hb10=>?_) fun hb10=>?_
 ·refine .seq (.q 1 rfl (.ret (Xc Tryz.results19 rfl ?_)));refine ⟨_,rfl,congrArg Value.bool (decide_eq_false fun e=>?_).symm,hS⟩;subst e;simp at hb10
 have hc10:=hb10; simp only [Y6] at hc10;refine .skip (.seq (.seq (.q 1 rfl (.block (.loop (σ:=Nat) (fun i=>[(0,.slice a la.length ca),(1,.slice b lb.length cb),(5,I64 (i:Nat))]) (fun i w=>i<=la.length/\(∀ (j:Nat),j<i->la[j]?=lb[j]?)/\Sat B w I As) (fun i=>la.length - i) 0 ⟨rfl,rfl,rfl,trivial⟩ ⟨Yo _,fun _ h=>absurd h (by omega),hS⟩ ?_)))));rintro i w ⟨hi,hsm,hS⟩;refine .seq (.seq (.region (.run 4 rfl ⟨⟨_,X64⟩,trivial⟩ (.nil ?_))));refine .cond rfl (fun hb14=>?_) fun hb14=>?_
 ·have hc14:=hb14; simp only [Y6] at hc14;refine .skip (.seq (.block (.seq ?_)));obtain ⟨x,hx0⟩:∃ x,la[i]?=some x:=⟨_,Y4 (by omega)⟩
  obtain ⟨y,hy0⟩:∃ y,lb[i]?=some y:=⟨_,Y4 (by omega)⟩
  obtain ⟨p,hp9,hx⟩:=Xcg (cells:=X8) (s:=4) (fun _=>rfl) hA hx0;obtain ⟨p2,hp8,hy⟩:=Xcg (cells:=X8) (s:=4) (fun _=>rfl) hB hy0;subst hp9;subst hp8;refine .qt hS (.val (fun w hS=>(.mo rfl)) rfl (.val (fun w hS=>(.mo rfl)) rfl ?_));refine .val (fun w hS=>(by exact .ii rfl rfl (by omega) (by omega) X64 X4e)) rfl ?_;refine .val (fun w hS=>.ldsI (us:=X8 x) (.of rfl) hS hx Xio X4e rfl (fun _ _ h=>h)) rfl (.val (fun w hS=>(.mo rfl)) rfl (.val (fun w hS=>(.mo rfl)) rfl ?_));refine .val (fun w hS=>(by exact .ii rfl rfl (by omega) (by omega) X64 X4e)) rfl ?_;refine .val (fun w hS=>.ldsI (us:=X8 y) (.of rfl) hS hy Xio X4e rfl (fun _ _ h=>h)) rfl (.val (fun w hS=>Ex.neNt (r:=x) (s:=y) (.of rfl) (.of rfl)) rfl (.nil ?_));intro w hS;refine .cond rfl (fun hb25=>?_) fun hb25=>?_
  ·refine .seq (.q 1 rfl (.ret (Xc Tryz.results19 rfl ?_)));refine ⟨_,rfl,congrArg Value.bool (decide_eq_false fun e=>?_).symm,hS⟩;subst e;rw [hx0] at hy0;cases hy0
   simp at hb25
  have hc25:=hb25; simp only [Y6] at hc25;refine .skip (.region (.run 3 rfl ⟨⟨by omega,by omega⟩,trivial⟩ (.nil ?_)));refine ⟨i+1,⟨rfl,rfl,rfl,trivial⟩,⟨by (try dsimp only); omega,fun j hj=>?_,hS⟩,by (try dsimp only); omega⟩;rcases Yp j i with h1 | h1
  ·exact hsm j h1
  ·have e:j=i:=by omega
   subst e;rw [hx0,hy0,show x=y by simpa using hb25]
 have hc14:=hb14; simp only [Y6] at hc14;refine .exit (.seq (.q 1 rfl (.ret (Xc Tryz.results19 rfl ?_))));refine ⟨_,rfl,congrArg Value.bool (decide_eq_true ?_).symm,hS⟩;refine Y1x fun j=>?_
 rcases Yp j i with h1 | h1
 ·exact hsm j h1
 ·rw [Y1g (by omega),Y1g (by omega)]
theorem Xnu:Bld Tryz.prog 29 [(0,1),(1,1),(2,21),(23,1),(24,1),(25,1),(26,1),(27,1)] [.slice none 0 0,.slice none 0 0,.int .i64 0,.int .i64 0,.int .i64 0,.int .i64 0,.int .i64 0,.int .i64 0,.int .i64 0,.int .i64 0,.int .i64 0,.int .i64 0,.int .i64 0,.int .i64 0,.int .i64 0,.int .i64 0,.int .i64 0,.int .i64 0,.int .i64 0,.int .i64 0,.int .i64 0,.int .i64 0,.int .i64 0,.int .i64 0,.float .f64 0,.float .f64 0,.float .f64 0,.int .i64 0]:=X23 Xe5 Tryz.zeroValue29 (fun w=>by simp [go_sem])
structure Op3 where
 act:Int
 l:List Nt
 a:List UInt8
 f:Bool
 n:Int
def OpAt3 (I:Im) (o:Op3) (cs:List Value):Prop:=∃ la lc,cs=[I64 o.act,.slice la o.l.length lc,S o.a,.bool o.f,I64 o.n]/\o.l.length<=lc/\RS I la 4 o.l.length (X9 X8 o.l)
def OpsAt3 (I:Im) (a:Option Addr) (l:List Op3):Prop:=∃ L:List (List Value),L.length=l.length/\(∀ c∈L,c.length=5)/\RS I a 5 l.length L.flatten/\∀ (i:Nat) o,l[i]?=some o->∃ cs,L[i]?=some cs/\OpAt3 I o cs
theorem OpsAt3.at {I:Im} {a:Option Addr} {l:List Op3} (h:OpsAt3 I a l) {i:Nat} {u:Op3} (hu:l[i]?=some u):∃ p la lc,a=some p/\At I (p.add (i*5)) [I64 u.act,.slice la u.l.length lc,S u.a,.bool u.f,I64 u.n]/\u.l.length<=lc/\RS I la 4 u.l.length (X9 X8 u.l):=by
 obtain ⟨L,h1,h2,h3,h4⟩:=h;obtain ⟨cs,h5,la,lc,rfl,h7,h8⟩:=h4 i u hu;obtain ⟨q,rfl,hq⟩:=h3.2 (by have:=(Y5.1 hu).1; omega);have h9:=X70 (hq.add (i*5)) 5;rw [X1f L h2 i _ h5] at h9;exact ⟨q,la,lc,rfl,h9,h7,h8⟩
def CFG:List Value:=[.slice none 0 0,.slice none 0 0,I64 0,I64 0,I64 0,I64 0,I64 0,I64 0,I64 0,I64 0,I64 0,I64 0,I64 0,I64 0,I64 0,I64 0,I64 0,I64 0,I64 0,I64 0,I64 0,I64 0,I64 0,I64 0,F64 4607182418800017408,F64 4611686018427387904,F64 4621819117588971520,I64 3]
def NM:List UInt8:=pre 2 ++ 45::Xky 16 1
def EX0:Nt:=⟨NM,[104,116,116,112,58,47,47,97,47],0,5⟩
def EX1:Nt:=⟨NM,[104,116,116,112,58,47,47,97,47],1,6⟩
def EX2:Nt:=⟨NM,[104,116,116,112,58,47,47,97,47],2,8⟩
def QC0:Qc:=⟨4607182418800017408,4611686018427387904,4621819117588971520,3⟩
theorem ex_put:Xjp [] [EX0]=([EX0],0):=by decide +kernel
theorem Xs8:X75 QC0 [EX0] NM false 5=([EX1],0):=by decide +kernel
theorem Xs9:X75 QC0 [EX1] NM false 6=([EX2],0):=by decide +kernel
theorem Xsa:X75 QC0 [EX2] NM false 8=([],0):=by decide +kernel
theorem Xo9:Xae [EX1] 6=(EX1,true):=by decide +kernel
theorem Xoa:Xae [EX2] 7=(nt0,false):=by decide +kernel
theorem Xob:Xae [EX2] 8=(EX2,true):=by decide +kernel
theorem Xoc:(max 1 (min (3:Int) 9))=limQ QC0:=by decide +kernel
theorem ex_right:X2f EX0=true/\X2f EX1=true/\X2f EX2=true:=by decide +kernel
theorem Xw9:Xan (MSG NM 6)=some NM:=Xfs (by decide +kernel) (by decide)
theorem X43 {n:Nt} (h:X2f n=true):∀ m∈[n],X2f m=true:=fun m hm=>by rw [Y3t.1 hm]; exact h
theorem Xh2 (B w:World) (I:Im) (As:List X7) (hS:Sat B w I As) :
  Cz 51 [] w fun v w'=>v=.agg CFG.toArray/\Sat B w' I As:=by
 refine calls Tryz.func51 rfl Tryz.ntmps51 rfl (.seq (.region (.allocA (cs:=[_,_,_,_,_,_,_,_,_,_,_,_,_,_,_,_,_,_,_,_,_,_,_,_,_,_,_,_]) hS Tryz.zeroValue29 rfl ?_)));intro b0 w hS;refine .nil (.seq (.region (.val (.build (cs:=[_,_,_,_,_,_,_,_,_,_,_,_,_,_,_,_,_,_,_,_,_,_,_,_,_,_,_,_]) (pc9 rfl (pc9 rfl (pc9 rfl (pc9 rfl X4)))) Xnu rfl) rfl (.so hS (k:=0) rfl rfl rfl rfl Xu2 rfl (by simp) ?_))));intro w hS;try simp only [Yk,Ye,Y9,Y7,Yh,Ym,Yc] at hS
 refine .nil (.ret (ret1c (b:=_) (cs:=[_,_,_,_,_,_,_,_,_,_,_,_,_,_,_,_,_,_,_,_,_,_,_,_,_,_,_,_]) Tryz.results51 hS (k:=0) rfl Qg29 Xu2 rfl rfl ?_));exact ⟨_,rfl,rfl,(hS.y 0 1)⟩
theorem Xp2 (B w:World) (I:Im) (As:List X7) (hS:Sat B w I As) :
  Cz 46 [I64 2,U64 ((1:Nat):Int)] w fun v w'=>v=S NM/\Sat B w' I As:=by
 refine calls Tryz.func46 rfl Tryz.ntmps46 rfl (.seq (.q 1 rfl (.seq (.t 2 rfl (.call Tryz.func92 rfl (ec9 rfl (ec9 rfl X0)) rfl (Xhx 2 1 (by decide) B _ I _ hS) ?_)))));rintro _ w ⟨rfl,hS⟩;rw [if_neg (show ¬ Xqi 2=[] by decide +kernel)];refine .q 5 rfl (.nil (.seq (.q 2 rfl (.ret (Xc Tryz.results46 rfl ?_)))));exact ⟨_,rfl,rfl,hS⟩
set_option maxHeartbeats 400000 in
theorem Xh0 (B w:World) (I:Im) (hK:Kx I) (hP:PreAt I) (As:List X7) (hS:Sat B w I As) :
  Cz 8 [] w fun v w'=>v=.bool true/\Sat B w' I As:=by
 refine calls Tryz.func8 rfl Tryz.ntmps8 rfl (.seq (.q 1 rfl (.seq (.region (.call Tryz.func51 rfl X0 rfl (Xh2 B _ I _ hS) ?_)))));rintro _ w ⟨rfl,hS⟩;refine .call Tryz.func11 rfl (ec9 rfl X0) rfl (Xmi CFG 4607182418800017408 4611686018427387904 4621819117588971520 3 rfl rfl rfl rfl B _ I _ hS) ?_;rintro _ w ⟨qb,rfl,hS⟩;refine .q 1 rfl (.nil (.seq (.seq (.t 1 rfl (.val (.eqp (.of rfl) (.of rfl) Tryz.underlying34) rfl (.nil (.condF (rfl) (.skip (.seq (.region (.call Tryz.func46 rfl (ec9 rfl (ec9 rfl X0)) rfl (Xp2 B _ I _ hS) ?_)))))))))));rintro _ w ⟨rfl,hS⟩;refine .q 1 rfl (.nil (.seq (.t 2 rfl (.val (.build (cs:=[_,_,_,_]) (pc9 rfl (pc9 rfl (pc9 rfl X4))) X3z rfl) rfl (.buildSlice (cs:=[_,_,_,_]) hS (pc9 rfl X4) X64 X4e Xgw rfl rfl rfl rfl ?_)))));intro b23 w hS;replace hS:=((hS.pick 1 rfl).pick 1 rfl)
 obtain ⟨J0,hJ0,hj23,hS⟩:=hS.freeze (k:=0) rfl;have hRl:RS J0 (some (ad b23 0)) 4 [EX0].length (X9 X8 [EX0]):=⟨rfl,fun _=>⟨_,rfl,Xd2 hj23⟩⟩
 refine .call Tryz.func13 rfl (ec9 rfl (ec9 rfl X0)) rfl (Xuy qb _ _ _ _ none 0 [] (by decide) B _ J0 (RS.nil _ 4) (Yq _) (some (ad b23 0)) 1 [EX0] (by decide) (fun n hn=>by rw [Y3t.1 hn]; exact (by decide +kernel:EX0.ticket.length<=60/\EX0.url.length<=120)) hRl (hK.mono hJ0) (hP.mono hJ0) _ hS) ?_;rintro _ w ⟨J1,a1,c1,rfl,hJ1,hR1,hc1,hS⟩;rw [ex_put] at hS hR1 hc1 ⊢;dsimp only at hS hR1 hc1
 refine .q 1 rfl (.nil (.seq (.t 2 rfl (.call Qf15 rfl (ec9 rfl (ec9 rfl (ec9 rfl (ec9 rfl X0)))) rfl (Xcr qb _ _ _ _ a1 c1 [EX0] (by decide) B _ J1 hR1 hc1 (X43 ex_right.1) 3 Xoc NM false 5 (by decide) (by decide) _ hS) ?_))));rintro _ w ⟨J2,a2,c2,rfl,hJ2,hR2,hc2,hS⟩;replace hS:=hS;rw [show (⟨4607182418800017408,4611686018427387904,4621819117588971520,3⟩:Qc)=QC0 from rfl,Xs8] at hS hR2 hc2 ⊢;dsimp only at hS hR2 hc2
 refine .q 1 rfl (.nil (.seq (.t 1 rfl (.call Qf17 rfl (ec9 rfl (ec9 rfl X0)) rfl (X9s qb _ _ _ _ a2 c2 [EX1] (by decide) B _ J2 hR2 hc2 (X43 ex_right.2.1) 6 (by decide) (by decide) _ hS) ?_))));rintro _ w ⟨rfl,hS⟩;rw [Xo9];refine .q 3 rfl (.allocA (cs:=[_,_,_,_]) hS Xgw rfl ?_);intro b5 w hS;refine .so hS (k:=0) rfl rfl rfl rfl X4e rfl (by simp) ?_;intro w hS;try simp only [Yk,Ye,Y9,Y7,Yh,Ym,Yc] at hS
 refine .q 1 rfl (.nil (.seq (.t 2 rfl (.call Qf15 rfl (ec9 rfl (ec9 rfl (ec9 rfl (ec9 rfl X0)))) rfl (Xcr qb _ _ _ _ a2 c2 [EX1] (by decide) B _ J2 hR2 hc2 (X43 ex_right.2.1) 3 Xoc NM false 6 (by decide) (by decide) _ (hS.x [1])) ?_))));rintro _ w ⟨J3,a3,c3,rfl,hJ3,hR3,hc3,hS⟩;replace hS:=hS;rw [show (⟨4607182418800017408,4611686018427387904,4621819117588971520,3⟩:Qc)=QC0 from rfl,Xs9] at hS hR3 hc3 ⊢;dsimp only at hS hR3 hc3
 refine .q 1 rfl (.nil (.seq (.t 1 rfl (.call Qf17 rfl (ec9 rfl (ec9 rfl X0)) rfl (X9s qb _ _ _ _ a3 c3 [EX2] (by decide) B _ J3 hR3 hc3 (X43 ex_right.2.2) 7 (by decide) (by decide) _ hS) ?_))));rintro _ w ⟨rfl,hS⟩;rw [Xoa];refine .q 3 rfl (.allocA (cs:=[_,_,_,_]) hS Xgw rfl ?_);intro b8 w hS;refine .so hS (k:=0) rfl rfl rfl rfl X4e rfl (by simp) ?_;intro w hS;try simp only [Yk,Ye,Y9,Y7,Yh,Ym,Yc] at hS
 refine .q 1 rfl (.nil (.seq (.t 1 rfl (.call Qf17 rfl (ec9 rfl (ec9 rfl X0)) rfl (X9s qb _ _ _ _ a3 c3 [EX2] (by decide) B _ J3 hR3 hc3 (X43 ex_right.2.2) 8 (by decide) (by decide) _ (hS.x [1])) ?_))));rintro _ w ⟨rfl,hS⟩;rw [Xob];refine .q 3 rfl (.allocA (cs:=[_,_,_,_]) hS Xgw rfl ?_);intro b10 w hS;refine .so hS (k:=0) rfl rfl rfl rfl X4e rfl (by simp) ?_;intro w hS;try simp only [Yk,Ye,Y9,Y7,Yh,Ym,Yc] at hS
 refine .q 1 rfl (.nil (.seq (.t 2 rfl (.call Qf15 rfl (ec9 rfl (ec9 rfl (ec9 rfl (ec9 rfl X0)))) rfl (Xcr qb _ _ _ _ a3 c3 [EX2] (by decide) B _ J3 hR3 hc3 (X43 ex_right.2.2) 3 Xoc NM false 8 (by decide) (by decide) _ (hS.x [1])) ?_))));rintro _ w ⟨J4,a4,c4,rfl,hJ4,hR4,hc4,hS⟩;replace hS:=hS;rw [show (⟨4607182418800017408,4611686018427387904,4621819117588971520,3⟩:Qc)=QC0 from rfl,Xsa] at hS hR4 hc4 ⊢;dsimp only at hS hR4 hc4
 refine .q 1 rfl (.nil (.seq (.region ?_)));refine .val (.ldsW (cs:=[_,_,_,_]) (.of rfl) hS (k:=3) rfl Xio X4e rfl) rfl (.call Tryz.func28 rfl (ec9 rfl X0) rfl (Xeg EX1 ex_right.2.1 B _ J4 (hK.mono (hJ0.trans (hJ1.trans (hJ2.trans (hJ3.trans hJ4))))) _ hS) ?_);rintro _ w ⟨rfl,hS⟩;refine .call Tryz.func25 rfl (ec9 rfl X0) rfl (Xrd (MSG NM 6) (by decide +kernel) B _ J4 (hK.mono (hJ0.trans (hJ1.trans (hJ2.trans (hJ3.trans hJ4))))) (hP.mono (hJ0.trans (hJ1.trans (hJ2.trans (hJ3.trans hJ4))))) _ hS) ?_;rintro _ w ⟨rfl,hS⟩;rw [Xw9];refine .q 5 rfl (.nil (.seq (.t 3 rfl (.gm rfl rfl rfl rfl (.gval rfl rfl (fun hg1=>(.eql (.gd hg1 rfl) (.of rfl))) rfl (.val (.pa rfl rfl rfl) rfl (.q 1 rfl (.gm rfl rfl rfl rfl (.gval rfl rfl (fun hg1=>(.eql (.gd hg1 rfl) (.of rfl))) rfl (.val (.pa rfl rfl rfl) rfl (.q 1 rfl (.gm rfl rfl rfl rfl (.gval rfl rfl (fun hg1=>(.eql (.gd hg1 rfl) (.of rfl))) rfl (.val (.pa rfl rfl rfl) rfl (.q 1 rfl (.gm rfl rfl rfl rfl (.val (.pa rfl rfl rfl) rfl (.q 1 rfl ?_))))))))))))))))));refine .gval rfl rfl (fun hg1=>(by exact .fo 3 rfl X8s rfl rfl Qs3 rfl)) rfl ?_;refine .gval rfl rfl (fun hg1=>(by exact (.ld (.gd hg1 rfl) hS (k:=3) rfl Qg3 rfl))) rfl ?_;refine .gval rfl rfl (fun hg1=>(.eql (.gd hg1 rfl) (.of rfl))) rfl (.val (.pa rfl rfl rfl) rfl (.q 1 rfl ?_));refine .gval rfl rfl (fun hg1=>(by exact .fo 2 rfl X8s rfl rfl Qs3 rfl)) rfl ?_;refine .gval rfl rfl (fun hg1=>(by exact (.ld (.gd hg1 rfl) hS (k:=3) rfl Qg3 rfl))) rfl ?_;refine .gval rfl rfl (fun hg1=>(.eql (.gd hg1 rfl) (.of rfl))) rfl (.val (.pa rfl rfl rfl) rfl (.q 1 rfl (.gm rfl rfl rfl rfl (.gval rfl rfl (fun hg1=>(.not (.gd hg1 rfl))) rfl (.val (.pa rfl rfl rfl) rfl (.q 1 rfl (.gm rfl rfl rfl rfl (.val (.pa rfl rfl rfl) rfl (.q 1 rfl ?_)))))))));refine .gval rfl rfl (fun hg1=>(by exact .fo 3 rfl X8s rfl rfl Qs3 rfl)) rfl ?_;refine .gval rfl rfl (fun hg1=>(by exact (.ld (.gd hg1 rfl) hS (k:=1) rfl Qg3 rfl))) rfl ?_;refine .gval rfl rfl (fun hg1=>(.eql (.gd hg1 rfl) (.of rfl))) rfl (.val (.pa rfl rfl rfl) rfl (.q 1 rfl (.opn rfl rfl rfl (.vm rfl rfl (.opn rfl rfl rfl (.call Tryz.func20 rfl (ec9 rfl X0) rfl (Xm8 qb _ _ _ _ a4 c4 [] (by decide) B _ J4 hR4 hc4 _ hS) ?_))))));rintro _ w ⟨J5,a5,c5,rfl,hJ5,_,_,hS⟩;refine .opn rfl rfl rfl (.val (.lenSlice (.of rfl) X64) rfl (.opn rfl rfl rfl (.val (.eql (.of rfl) (.of rfl)) rfl (.val (.pa rfl rfl rfl) rfl (.q 1 rfl (.gm rfl rfl rfl rfl (.gm rfl rfl rfl rfl (.gval rfl rfl (fun hg1=>(.eqs (.gd hg1 rfl) (.gd hg1 rfl))) rfl (.val (.pa rfl rfl rfl) rfl (.q 1 rfl (.gm rfl rfl rfl rfl (.val (.pa rfl rfl rfl) rfl (.q 1 rfl (.nil (.ret (Xc Tryz.results8 rfl ?_))))))))))))))));refine ⟨_,rfl,?_,X5e ((hJ0.trans (hJ1.trans (hJ2.trans (hJ3.trans hJ4)))).trans hJ5) (hS.y 0 4)⟩;exact congrArg Value.bool (by decide +kernel)
end Go.Proofs.YtbciobiiejpdgaaGreatDoor
namespace Go.Proofs.YtbciobiiejpdgaaGreatDoor
open Gk Ul Pc Tk Tr
theorem at_hit {l:List Rec} {name:List UInt8} {i:Nat} {r:Rec} (h:l[i]?=some r) (hn:r.name=name) (hno:∀ (j:Nat) t,j<i->l[j]?=some t->t.name≠name):at0 l name=(i:Int):=by
 rw [at0,<- X9i];exact X2k (fun j t hj ht=>decide_eq_false (hno j t hj ht)) h (decide_eq_true hn)
theorem Xvt {l:List Rec} {name:List UInt8} (hno:∀ (j:Nat) t,l[j]?=some t->t.name≠name):at0 l name=-1:=by
 rw [at0,<- X9i];exact X21 (fun j t ht=>decide_eq_false (hno j t ht))
theorem X5c (tb:Nat) (room:Int) (la:Option Addr) (lc:Nat) (l:List Rec) (hl:l.length<=100000) (name:List UInt8) (B w:World) (I:Im) (hR:RS I la 10 l.length (X9 X5 l)) (As:List X7) (hS:Sat B w I (blk tb [I64 room,.slice la l.length lc] 95::As)) :
  Cz 127 [ptr tb 0,S name] w fun v w'=>v=I64 (at0 l name)/\Sat B w' I (blk tb [I64 room,.slice la l.length lc] 95::As):=by
 refine calls Xk7 rfl Tryz.ntmps127 rfl (.seq (.q 1 rfl (.seq (.seq (.q 1 rfl (.block (.loop (σ:=Nat) (fun i=>[(0,ptr tb 0),(1,S name),(5,I64 (i:Nat))]) (fun i w=>i<=l.length/\(∀ (j:Nat) r,j<i->l[j]?=some r->r.name≠name)/\Sat B w I (blk tb [I64 room,.slice la l.length lc] 95::As)) (fun i=>l.length - i) 0 ⟨rfl,rfl,rfl,trivial⟩ ⟨Yo _,fun _ _ h=>absurd h (by omega),hS⟩ ?_)))))));rintro i w ⟨hi,hno,hS⟩;refine .seq (.seq (.t 3 rfl ?_));refine .val (.fo 1 rfl Xe6 rfl rfl X6f rfl) rfl (.val (.lo rfl hS (k:=0) rfl Xcv rfl) rfl (.run 2 rfl ⟨⟨_,X2y⟩,trivial⟩ (.nil ?_)));refine .cond rfl (fun hb12=>?_) fun hb12=>?_
 ·have hc12:=hb12; simp only [Y6] at hc12;refine .skip (.seq (.block (.seq ?_)));obtain ⟨r,hr⟩:∃ r,l[i]?=some r:=⟨_,Y4 (by omega)⟩
  obtain ⟨q,hq9,hx⟩:=X9f (cells:=X5) (s:=10) (fun _=>rfl) (hR) hr;subst hq9;unfold X5 at hx;refine .t 2 rfl (.val (.fo 1 rfl Xe6 rfl rfl X6f rfl) rfl (.val (.lo rfl hS (k:=0) rfl Xcv rfl) rfl (.q 1 rfl (.val (.ii rfl rfl (by omega) (by omega) X2y X29) rfl (.val (.fi 1 rfl X27 rfl rfl Qs9 rfl) rfl (.val (.ldI (.of rfl) hS (At.add hx _) Qg9 rfl) rfl (.q 2 rfl (.nil ?_))))))));refine .cond rfl (fun hb24=>?_) fun hb24=>?_
  ·refine .seq (.q 2 rfl (.ret (Xc Tryz.results127 rfl ?_)));exact ⟨_,rfl,congrArg I64 (at_hit hr (by simpa using hb24) hno).symm,hS⟩
  have hc24:=hb24; simp only [Y6] at hc24;refine .skip (.region (.run 3 rfl ⟨⟨by omega,by omega⟩,trivial⟩ (.nil ?_)));refine ⟨i+1,⟨rfl,rfl,rfl,trivial⟩,⟨by (try dsimp only); omega,fun j t hj ht=>?_,hS⟩,by (try dsimp only); omega⟩;rcases Yp j i with h1 | h1
  ·exact hno j t h1 ht
  ·have e:j=i:=by omega
   subst e;rw [hr] at ht; cases ht;simpa using hb24
 have hc12:=hb12; simp only [Y6] at hc12;refine .exit (.seq (.q 1 rfl (.ret (Xc Tryz.results127 rfl ?_))));refine ⟨_,rfl,congrArg I64 (Xvt fun j t ht=>?_).symm,hS⟩
 have:=(Y5.1 ht).1
 exact hno j t (by omega) ht
theorem Xlo (tb:Nat) (room:Int) (la:Option Addr) (lc:Nat) (l:List Rec) (hl:l.length<=100000) (name:List UInt8) (B w:World) (I:Im) (hR:RS I la 10 l.length (X9 X5 l)) (As:List X7) (hS:Sat B w I (blk tb [I64 room,.slice la l.length lc] 95::As)) :
  Calls Tryz.prog 127 [ptr tb 0,S name].toArray w (Ret fun v w'=>(∃ k:Int,v=I64 k/\((k=-1/\get l name=none/\at0 l name=-1)\/∃ (j:Nat) (r:Rec),k=(j:Int)/\l[j]?=some r/\r.name=name/\get l name=some r/\at0 l name=(j:Int)))/\Sat B w' I (blk tb [I64 room,.slice la l.length lc] 95::As)) :=
 (X5c tb room la lc l hl name B w I hR As hS).mono fun e w' ⟨v,he,hv,hS⟩=>⟨v,he,by
  rcases Tr.get_at l name with ⟨h1,h2⟩ | ⟨j,r,h1,h2,h3,h4⟩
  ·exact ⟨⟨-1,by rw [hv,h1],.inl ⟨rfl,h2,h1⟩⟩,hS⟩
  ·exact ⟨⟨j,by rw [hv,h1],.inr ⟨j,r,rfl,h2,h3,h4,h1⟩⟩,hS⟩⟩
theorem X8l (tb:Nat) (room:Int) (la:Option Addr) (lc:Nat) (l:List Rec) (hl:l.length<=100000) (name:List UInt8) (B w:World) (I:Im) (hR:RS I la 10 l.length (X9 X5 l)) (As:List X7) (hS:Sat B w I (blk tb [I64 room,.slice la l.length lc] 95::As)) :
  Cz 88 [ptr tb 0,S name] w fun v w'=>v=.tuple #[.agg (X5 (getD l name)).toArray,.bool (get l name).isSome]/\Sat B w' I (blk tb [I64 room,.slice la l.length lc] 95::As):=by
 refine calls Qf88 rfl Tryz.ntmps88 rfl (.seq (.region (.allocA (cs:=[_,_,_,_,_,_,_,_,_,_]) hS Xcw rfl ?_)));intro b4 w hS;refine .q 1 rfl (.nil (.seq (.t 2 rfl (.call Xk7 rfl (ec9 rfl (ec9 rfl X0)) rfl (Xlo tb room la lc l hl name B _ I hR _ (hS.x [1])) ?_))));rintro _ w ⟨⟨k,rfl,hk⟩,hS⟩;refine .q 1 rfl (.nil (.seq (.seq (.region ?_))));rcases hk with ⟨rfl,hg,_⟩ | ⟨j,r,rfl,hr,hn9,hg,_⟩
 ·refine .vm rfl rfl (.q 1 rfl (.nil (.condT (congrArg (fun b=>some (Value.bool b)) (decide_eq_true (by decide))) (.seq (.region (.val (.build (cs:=[_,_,_,_,_,_,_,_,_,_]) X4 Xiu rfl) rfl ?_))))));refine .so hS (k:=1) rfl rfl rfl rfl X29 rfl (by simp) ?_;intro w hS;try simp only [Yk,Ye,Y9,Y7,Yh,Ym,Yc] at hS
  refine .q 1 rfl (.nil (.ret ?_));refine X1k (b:=_) (cs:=[_,_,_,_,_,_,_,_,_,_]) Tryz.results88 hS (k:=1) rfl Xbn X29 rfl rfl rfl ?_;exact ⟨_,rfl,by rw [getD,hg]; rfl,hS.y 1 1⟩
 obtain ⟨q,hq9,hx⟩:=X9f (cells:=X5) (s:=10) (fun _=>rfl) hR hr;subst hq9;unfold X5 at hx;have hjl:=(Y5.1 hr).1;refine .vm rfl rfl (.q 1 rfl (.nil (.condF (congrArg (fun b=>some (Value.bool b)) (decide_eq_false (by omega))) (.skip (.seq (.t 2 rfl ?_))))));refine .val (.fo 1 rfl Xe6 rfl rfl X6f rfl) rfl (.val (.lo rfl hS (k:=0) rfl Xcv rfl) rfl (.q 1 rfl (.val (.ii rfl rfl (by omega) (by omega) X2y X29) rfl (.val (.ldsI (.of rfl) hS hx Xbn X29 rfl (fun _ _ h=>h)) rfl (.so hS (k:=1) rfl rfl rfl rfl X29 rfl (by simp) ?_)))));intro w hS;try simp only [Yk,Ye,Y9,Y7,Yh,Ym,Yc] at hS
 refine .q 1 rfl (.nil (.ret ?_));refine X1k (b:=_) (cs:=[_,_,_,_,_,_,_,_,_,_]) Tryz.results88 hS (k:=1) rfl Xbn X29 rfl rfl rfl ?_;exact ⟨_,rfl,by rw [getD,hg]; rfl,hS.y 1 1⟩
theorem Xhw (tb:Nat) (room:Int) (la:Option Addr) (lc:Nat) (l:List Rec) (hl:l.length<=100000) (name:List UInt8) (B w:World) (I:Im) (hR:RS I la 10 l.length (X9 X5 l)) (As:List X7) (hS:Sat B w I (blk tb [I64 room,.slice la l.length lc] 95::As)) :
  Cz 133 [ptr tb 0,S name] w fun v w'=>∃ J ra rc,v=.slice ra (kids l name).length rc/\Le I J/\(kids l name).length<=rc/\RS J ra 1 (kids l name).length ((kids l name).map S)/\Sat B w' J (blk tb [I64 room,.slice la l.length lc] 95::As):=by
 refine calls Tryz.func133 rfl Tryz.ntmps133 rfl (.seq (.q 1 rfl (.seq ?_)));replace hS:=hS.vecNil 9 1;refine .q 1 rfl (.seq (.seq (.q 1 rfl (.block (.loop (σ:=Value×Nat) (fun ⟨kv,i⟩=>[(0,ptr tb 0),(1,S name),(5,kv),(6,I64 (i:Nat))]) (fun ⟨kv,i⟩ w=>i<=l.length/\Sat B w I (Vec 9 1 kv (kids (l.take i) name).length ((kids (l.take i) name).map S)::blk tb [I64 room,.slice la l.length lc] 95::As)) (fun ⟨kv,i⟩=>l.length - i) (.slice none 0 0,0) ⟨rfl,rfl,rfl,rfl,trivial⟩ ⟨Yo _,hS⟩ ?_)))));rintro ⟨kv,i⟩ w ⟨hi,hS⟩;refine .seq (.seq (.t 3 rfl ?_));refine .val (.fo 1 rfl Xe6 rfl rfl X6f rfl) rfl (.val (.lo rfl hS (k:=1) rfl Xcv rfl) rfl (.run 2 rfl ⟨⟨_,X2y⟩,trivial⟩ (.nil ?_)));refine .cond rfl (fun hb13=>?_) fun hb13=>?_
 ·have hc13:=hb13; simp only [Y6] at hc13;refine .skip (.seq (.block (.seq ?_)));obtain ⟨r,hr⟩:∃ r,l[i]?=some r:=⟨_,Y4 (by omega)⟩
  obtain ⟨q,hq9,hx⟩:=X9f (cells:=X5) (s:=10) (fun _=>rfl) (hR) hr;subst hq9;unfold X5 at hx;have hkl:=Xdg (l.take i) name;rw [Yr] at hkl;refine .t 2 rfl (.val (.fo 1 rfl Xe6 rfl rfl X6f rfl) rfl (.val (.lo rfl hS (k:=1) rfl Xcv rfl) rfl (.q 1 rfl (.val (.ii rfl rfl (by omega) (by omega) X2y X29) rfl (.val (.fi 2 rfl X27 rfl rfl Qs9 rfl) rfl (.val (.ldI (.of rfl) hS (At.add hx _) Qg9 rfl) rfl (.q 3 rfl (.gm rfl rfl rfl rfl (.gval rfl rfl (fun hg1=>(.nes (.gd hg1 rfl) (.of rfl))) rfl (.val (.pa rfl rfl rfl) rfl (.nil ?_)))))))))));refine .cond rfl (fun hb29=>?_) fun hb29=>?_
  ·have hc29:=hb29; simp only [Y6] at hc29;refine .t 3 rfl (.val (.fo 1 rfl Xe6 rfl rfl X6f rfl) rfl (.val (.lo rfl hS (k:=1) rfl Xcv rfl) rfl (.q 1 rfl (.val (.ii rfl rfl (by omega) (by omega) X2y X29) rfl (.val (.fi 1 rfl X27 rfl rfl Qs9 rfl) rfl (.val (.ldI (.of rfl) hS (At.add hx _) Qg9 rfl) rfl (.buildSlice (cs:=[_]) hS (pc9 rfl X4) X1u Qs9 Qz9 rfl rfl rfl rfl ?_)))))));intro b39 w hS;refine .append (size:=1) (bytes:=16) hS (.of rfl) (.of rfl) (k:=0) rfl X1u X2v rfl rfl rfl rfl rfl rfl rfl ⟨by omega,by unfold maxLen; omega⟩ rfl ?_;intro v40 w hS;obtain ⟨a40,c40,rfl,hcap40,_⟩:=hS.vecSlice (k:=0) (v:=v40) rfl;refine .q 1 rfl (.nil (.region (.run 3 rfl ⟨⟨by omega,by omega⟩,trivial⟩ (.nil ?_))));have e:=X7c hr name;rw [if_pos (by simpa [and_comm] using hb29)] at e;refine ⟨(.slice a40 ((kids (l.take i) name).length+1) c40,i+1),⟨rfl,rfl,rfl,rfl,trivial⟩,⟨by (try dsimp only); omega,?_⟩,by (try dsimp only); omega⟩;rw [e,Y0,Yw];exact hS
  have hc29:=hb29; simp only [Y6] at hc29;refine .skip (.region (.run 3 rfl ⟨⟨by omega,by omega⟩,trivial⟩ (.nil ?_)));have e:=X7c hr name;rw [if_neg (by simpa [and_comm] using hb29),Y9] at e;refine ⟨(kv,i+1),⟨rfl,rfl,rfl,rfl,trivial⟩,⟨by (try dsimp only); omega,?_⟩,by (try dsimp only); omega⟩;rw [e];exact hS
 have hc13:=hb13; simp only [Y6] at hc13;refine .exit (.seq (.q 2 rfl (.ret (Xc Tryz.results133 rfl ?_))));have hin:i=l.length:=by omega
 subst hin;rw [Y15] at hS;obtain ⟨ka,kc,rfl,hkc,_⟩:=hS.vecSlice (k:=0) rfl;obtain ⟨J,hJ,hRS,hS⟩:=hS.freezeVec (k:=0) rfl;exact ⟨_,rfl,J,ka,kc,rfl,hJ,hkc,hRS,hS⟩
theorem Xq0 (l:List (List UInt8)):(l.map S).all Value.oneCell'=true:=by
 rw [List.all_map,Y1c]; intro x _; rfl
theorem Xdl (tb:Nat) (room:Int) (la:Option Addr) (lc:Nat) (l:List Rec) (hl:l.length<=100000) (hwf:Wf l):∀ (n:Nat) (name:List UInt8) (B w:World) (I:Im) (hR:RS I la 10 l.length (X9 X5 l)) (As:List X7) (h0:0<=at0 l name) (hn:(l.length:Int) - at0 l name<=n) (hob:(Xo l n name).length<=1000000) (hS:Sat B w I (blk tb [I64 room,.slice la l.length lc] 95::As)),
  Cz 87 [ptr tb 0,S name] w fun v w'=>∃ J ra rc,v=.slice ra (Xo l n name).length rc/\Le I J/\(Xo l n name).length<=rc/\RS J ra 1 (Xo l n name).length ((Xo l n name).map S)/\Sat B w' J (blk tb [I64 room,.slice la l.length lc] 95::As):=by
 intro n
 induction n with
 | zero=>intro name B w I hR As h0 hn; have:=Xnl l name; omega
 | succ n ih =>
  intro name B w I hR As h0 hn hob hS;rw [Xo,List.length_cons] at hob;refine calls Qf87 rfl Tryz.ntmps87 rfl (.seq (.q 1 rfl (.seq (.seq (.t 2 rfl (.call Xk7 rfl (ec9 rfl (ec9 rfl X0)) rfl (X5c tb room la lc l hl name B _ I hR _ hS) ?_))))));rintro _ w ⟨rfl,hS⟩;refine .q 1 rfl (.nil (.condF (congrArg (fun b=>some (Value.bool b)) (decide_eq_false (by omega))) (.skip (.seq (.t 1 rfl (.buildSlice (cs:=[_]) hS (pc9 rfl X4) X1u Qs9 Qz9 rfl rfl rfl rfl ?_))))));intro b13 w hS;refine .q 1 rfl (.nil (.seq ?_));replace hS:=hS.vecOf (k:=0) (E:=9) (size:=1) (n:=1) rfl rfl (by decide);try dsimp only [List.set] at hS
  refine .t 2 rfl (.call Tryz.func133 rfl (ec9 rfl (ec9 rfl X0)) rfl (Xhw tb room la lc l hl name B _ I hR _ (hS.x [1])) ?_);rintro _ w ⟨J,ra,rc,rfl,hJ,hrc,hRS,hS⟩;try dsimp only [List.eraseIdx] at hS
  have hkl:=Xdg l name;refine .q 1 rfl (.nil (.seq (.seq (.q 1 rfl (.block (.loop (σ:=Nat×Value×Im) (fun ⟨i,v,J2⟩=>[(0,ptr tb 0),(1,S name),(5,v),(6,.slice ra (kids l name).length rc),(7,I64 (i:Nat))]) (fun ⟨i,v,J2⟩ w=>i<=(kids l name).length/\Le J J2/\Sat B w J2 (blk tb [I64 room,.slice la l.length lc] 95::Vec 9 1 v (name::((kids l name).take i).flatMap (Xo l n)).length ((name::((kids l name).take i).flatMap (Xo l n)).map S)::As)) (fun ⟨i,v,J2⟩=>(kids l name).length - i) (0,_,J) ⟨rfl,rfl,rfl,rfl,rfl,trivial⟩ ⟨Yo _,Le.refl _,hS⟩ ?_))))));rintro ⟨i,v,J2⟩ w ⟨hi,hJ2,hS⟩;refine .seq (.seq (.region (.run 4 rfl ⟨⟨_,X1u⟩,trivial⟩ (.nil ?_))));refine .cond rfl (fun hb20=>?_) fun hb20=>?_
  ·have hc20:=hb20; simp only [Y6] at hc20;refine .skip (.seq (.block ?_));obtain ⟨k,hk⟩:∃ k,(kids l name)[i]?=some k:=⟨_,Y4 (by omega)⟩
   have hkm:=Xfk hwf (Yl hk);have hnm:((kids l name).map S)[i]?=some (S k):=by rw [Yu,hk]; rfl
   have hfl:(((kids l name).take i).flatMap (Xo l n)).length+(Xo l n k).length<=((kids l name).flatMap (Xo l n)).length:=by
    have e:=Yv i (kids l name);have e2:=Y13 (l:=kids l name) (i:=i) (by omega);rw [(Y5.1 hk).2] at e2;rw [e2] at e;have e3:=congrArg (fun x=>(List.flatMap (Xo l n) x).length) e;simp only [Y1k,Y2l,Y0] at e3
    omega
   obtain ⟨p,rfl,hA⟩:=hRS.2 (by omega);refine .t 4 rfl (.val (.ii rfl rfl (by omega) (by omega) X1u Qs9) rfl ?_);refine .val (ldC (.of rfl) (by have h9:=X4g hS (hA.mono hJ2) hnm; simpa using h9) Qg9) rfl ?_;refine .call Qf87 rfl (ec9 rfl (ec9 rfl X0)) rfl (ih k B _ J2 (hR.mono (hJ.trans hJ2)) _ hkm.2.1 (by omega) (by omega) hS) ?_;rintro _ w ⟨J3,ra3,rc3,rfl,hJ3,hrc3,hRS3,hS⟩;refine .appendF (size:=1) (bytes:=16) hS (.of rfl) (.of rfl) hRS3 (k:=1) rfl X1u (i:=Tryz.t9) (by kernel_rfl) rfl rfl rfl rfl (Xq0 _) ⟨by (try simp only [List.length_cons]); omega,by unfold maxLen; (try simp only [List.length_cons]); omega⟩ rfl ?_;intro v30 w hS;try dsimp only [List.set] at hS
   refine .q 1 rfl (.nil (.region (.run 3 rfl ⟨⟨by omega,by omega⟩,trivial⟩ (.nil ?_))));refine ⟨(i+1,v30,J3),⟨rfl,rfl,rfl,rfl,rfl,trivial⟩,⟨by (try dsimp only); omega,hJ2.trans hJ3,?_⟩,by (try dsimp only); omega⟩;rw [Yz,hk,Y1e,Y1k,Y2l,List.flatMap_nil,Y9,<- Ys,Y0,Yw];exact hS
  have hc20:=hb20; simp only [Y6] at hc20;refine .exit (.seq (.q 2 rfl (.ret (Xc Tryz.results87 rfl ?_))));have hin:i=(kids l name).length:=by omega
  subst hin;rw [Y15] at hS;obtain ⟨ka,kc,rfl,hkc,_⟩:=hS.vecSlice (k:=1) rfl;obtain ⟨J4,hJ4,hRS4,hS⟩:=hS.freezeVec (k:=1) rfl;exact ⟨_,rfl,J4,ka,kc,rfl,hJ.trans (hJ2.trans hJ4),hkc,hRS4,hS⟩
theorem X8z (tb:Nat) (room:Int) (la:Option Addr) (lc:Nat) (l:List Rec) (hl:l.length<=100000) (hwf:Wf l) (name:List UInt8) (B w:World) (I:Im) (hR:RS I la 10 l.length (X9 X5 l)) (As:List X7) (hS:Sat B w I (blk tb [I64 room,.slice la l.length lc] 95::As)) :
  Cz 87 [ptr tb 0,S name] w fun v w'=>∃ J ra rc,v=.slice ra (below l name).length rc/\Le I J/\(below l name).length<=rc/\RS J ra 1 (below l name).length ((below l name).map S)/\Sat B w' J (blk tb [I64 room,.slice la l.length lc] 95::As):=by
 by_cases h0:0<=at0 l name
 ·rw [show below l name=Xo l l.length name from if_pos h0];exact Xdl tb room la lc l hl hwf l.length name B w I hR As h0 (by omega) (by have:=Xex hwf l.length name; omega) hS
 ·have h0:at0 l name<0:=by omega
  refine calls Qf87 rfl Tryz.ntmps87 rfl (.seq (.q 1 rfl (.seq (.seq (.t 2 rfl (.call Xk7 rfl (ec9 rfl (ec9 rfl X0)) rfl (X5c tb room la lc l hl name B _ I hR _ hS) ?_))))));rintro _ w ⟨rfl,hS⟩;refine .q 1 rfl (.nil (.condT (congrArg (fun b=>some (Value.bool b)) (decide_eq_true (by omega))) (.seq (.q 1 rfl (.ret (Xc Tryz.results87 rfl ?_))))));rw [show below l name=[] from if_neg (by omega)];exact ⟨_,rfl,I,none,0,rfl,Le.refl _,Yq _,⟨rfl,fun h=>absurd h (by simp)⟩,hS⟩
theorem Xfw (tb:Nat) (room:Int) (la:Option Addr) (lc:Nat) (l:List Rec) (hl:l.length<=100000) (hwf:Wf l) (name:List UInt8) (B w:World) (I:Im) (hR:RS I la 10 l.length (X9 X5 l)) (As:List X7) (hS:Sat B w I (blk tb [I64 room,.slice la l.length lc] 95::As)) :
  Cz 90 [ptr tb 0,S name] w fun v w'=>∃ J oa oc ra rc,v=.slice ra (below l name).length rc/\Le I J/\(below l name).length<=rc/\RS J ra 1 (below l name).length ((below l name).map S)/\RS J oa 10 (drop l name).length (X9 X5 (drop l name))/\Sat B w' J (blk tb [I64 room,.slice oa (drop l name).length oc] 95::As):=by
 refine calls Tryz.func90 rfl Tryz.ntmps90 rfl (.seq (.q 1 rfl (.seq (.t 2 rfl (.call Qf87 rfl (ec9 rfl (ec9 rfl X0)) rfl (X8z tb room la lc l hl hwf name B _ I hR _ hS) ?_)))));rintro _ w ⟨J,ra,rc,rfl,hJ,hrc,hRS,hS⟩;have hbl:=X71 hwf name;refine .q 1 rfl (.nil (.seq (.q 1 rfl (.seq (.seq ?_)))));replace hS:=hS.vecNil 75 10;refine .q 1 rfl (.block (.loop (σ:=Value×Nat) (fun ⟨ov,i⟩=>[(0,ptr tb 0),(5,.slice ra (below l name).length rc),(6,ov),(7,I64 (i:Nat))]) (fun ⟨ov,i⟩ w=>i<=l.length/\Sat B w J (Vec 75 10 ov ((l.take i).filter fun r=>!(below l name).contains r.name).length (Xr ((l.take i).filter fun r=>!(below l name).contains r.name))::blk tb [I64 room,.slice la l.length lc] 95::As)) (fun ⟨ov,i⟩=>l.length - i) (.slice none 0 0,0) ⟨rfl,rfl,rfl,rfl,trivial⟩ ⟨Yo _,hS⟩ ?_));rintro ⟨ov,i⟩ w ⟨hi,hS⟩;refine .seq (.seq (.t 3 rfl ?_));refine .val (.fo 1 rfl Xe6 rfl rfl X6f rfl) rfl (.val (.lo rfl hS (k:=1) rfl Xcv rfl) rfl (.run 2 rfl ⟨⟨_,X2y⟩,trivial⟩ (.nil ?_)));refine .cond rfl (fun hb18=>?_) fun hb18=>?_
 ·have hc18:=hb18; simp only [Y6] at hc18;refine .skip (.seq (.block (.seq ?_)));obtain ⟨r,hr⟩:∃ r,l[i]?=some r:=⟨_,Y4 (by omega)⟩
  obtain ⟨q,hq9,hx⟩:=X9f (cells:=X5) (s:=10) (fun _=>rfl) (hR.mono hJ) hr;subst hq9;unfold X5 at hx;have hfl:((l.take i).filter fun r=>!(below l name).contains r.name).length<=l.length:=Y3x (Y4p _ _) (by rw [Yr]; omega);refine .t 3 rfl (.val (.fo 1 rfl Xe6 rfl rfl X6f rfl) rfl (.val (.lo rfl hS (k:=1) rfl Xcv rfl) rfl (.q 1 rfl (.val (.ii rfl rfl (by omega) (by omega) X2y X29) rfl (.val (.fi 1 rfl X27 rfl rfl Qs9 rfl) rfl (.val (.ldI (.of rfl) hS (At.add hx _) Qg9 rfl) rfl ?_))))));refine .call Tryz.func50 rfl (ec9 rfl (ec9 rfl X0)) rfl (In_any ra rc (below l name) (by omega) r.name B _ J _ (fun w h=>X6r (cells:=Xb3) (s:=1) (fun _=>rfl) h (by rw [Xx8]; exact hRS)) hS) ?_;rintro _ w ⟨rfl,hS⟩;refine .q 1 rfl (.nil (.seq (.q 2 rfl ?_)));refine .cond rfl (fun hb32=>?_) fun hb32=>?_
  ·have hc32:=hb32; simp only [Y6] at hc32;refine .t 3 rfl (.val (.fo 1 rfl Xe6 rfl rfl X6f rfl) rfl (.val (.lo rfl hS (k:=1) rfl Xcv rfl) rfl (.q 1 rfl (.val (.ii rfl rfl (by omega) (by omega) X2y X29) rfl (.val (.ldsI (.of rfl) hS hx Xbn X29 rfl (fun _ _ h=>h)) rfl (.buildSlice (cs:=[_,_,_,_,_,_,_,_,_,_]) hS (pc9 rfl X4) X2y X29 Xcw rfl rfl rfl rfl ?_))))));intro b41 w hS;refine .append (size:=10) (bytes:=120) hS (.of rfl) (.of rfl) (k:=0) rfl X2y X56 rfl rfl rfl rfl rfl rfl rfl ⟨by omega,by unfold maxLen; omega⟩ rfl ?_;intro v42 w hS;obtain ⟨a42,c42,rfl,hcap42,_⟩:=hS.vecSlice (k:=0) (v:=v42) rfl;refine .q 1 rfl (.nil (.region (.run 3 rfl ⟨⟨by omega,by omega⟩,trivial⟩ (.nil ?_))));refine ⟨(.slice a42 (((l.take i).filter fun r=>!(below l name).contains r.name).length+1) c42,i+1),⟨rfl,rfl,rfl,rfl,trivial⟩,⟨by (try dsimp only); omega,?_⟩,by (try dsimp only); omega⟩;rw [Yz,hr,Y1e,Y39,Y49,if_pos (by simpa using hb32),List.filter_nil,Y0,Y1h,X46];exact hS
  have hc32:=hb32; simp only [Y6] at hc32;refine .skip (.region (.run 3 rfl ⟨⟨by omega,by omega⟩,trivial⟩ (.nil ?_)));refine ⟨(ov,i+1),⟨rfl,rfl,rfl,rfl,trivial⟩,⟨by (try dsimp only); omega,?_⟩,by (try dsimp only); omega⟩;rw [Yz,hr,Y1e,Y39,Y49,if_neg (by simpa using hb32),List.filter_nil,Y9];exact hS
 have hc18:=hb18; simp only [Y6] at hc18;refine .exit (.seq ?_);obtain ⟨oa,oc,hov,hoc,_⟩:=hS.vecSlice (k:=0) rfl;subst hov;refine .t 3 rfl (.val (.fo 1 rfl Xe6 rfl rfl X6f rfl) rfl (.s1 hS (k:=1) rfl rfl rfl rfl X6f (by simp) ?_));intro w hS;refine .nil (.seq (.q 2 rfl (.ret (Xc Tryz.results90 rfl ?_))));have hin:i=l.length:=by omega
 subst hin;rw [Y15] at hS;obtain ⟨J2,hJ2,hR2,hS⟩:=hS.freezeVec (k:=0) rfl;exact ⟨_,rfl,J2,oa,oc,ra,rc,rfl,hJ.trans hJ2,hrc,hRS.mono hJ2,hR2,hS⟩
theorem Xln (tb:Nat) (room:Int) (la:Option Addr) (lc:Nat) (l:List Rec) (hl:l.length<=100000) (r:Rec) (hn:r.name.length<=9223372036854775000) (hp:r.parent.length<=9223372036854775000) (B w:World) (I:Im) (hR:RS I la 10 l.length (X9 X5 l)) (As:List X7) (hS:Sat B w I (blk tb [I64 room,.slice la l.length lc] 95::As)) :
  Cz 84 [ptr tb 0,.agg (X5 r).toArray] w fun v w'=>v=I64 (X6z room l r:Nat)/\∃ J oa oc,Le I J/\RS J oa 10 (add room l r).length (X9 X5 (add room l r))/\Sat B w' J (blk tb [I64 room,.slice oa (add room l r).length oc] 95::As):=by
 refine calls Tryz.func84 rfl Tryz.ntmps84 rfl (.seq (.region (.boxA (cs:=[_,_,_,_,_,_,_,_,_,_]) hS (.of rfl) rfl ?_)));intro b3 w hS;refine .q 1 rfl (.nil (.seq (.region ?_)));refine .val (.ldsW (cs:=[_,_,_,_,_,_,_,_,_,_]) (.of rfl) hS (k:=0) rfl Xbn X29 rfl) rfl (.call Tryz.func126 rfl (ec9 rfl X0) rfl (Xg1 r hn hp B _ I _ hS) ?_);rintro _ w ⟨rfl,hS⟩;refine .q 1 rfl (.nil (.seq (.seq (.q 2 rfl ?_))));refine .cond rfl (fun hb9=>?_) fun hb9=>?_
 ·refine .seq (.q 1 rfl (.ret (Xc Xvf rfl ?_)));have h1:Xw r=false:=by simpa using hb9
  have hE:X6z room l r=1:=by rw [X6z,if_pos h1]
  have hQ:add room l r=l:=by rw [add,if_neg (by rw [hE]; decide)]
  rw [hE,hQ];exact ⟨_,rfl,rfl,I,la,lc,Le.refl _,hR,(hS.z [1] 1 1)⟩
 refine .skip (.seq (.seq (.t 1 rfl ?_)));refine .val (.fo 1 rfl X27 rfl rfl Qs9 rfl) rfl (.val (.lo rfl hS (k:=0) rfl Qg9 rfl) rfl (.call Xk7 rfl (ec9 rfl (ec9 rfl X0)) rfl (X5c tb room la lc l hl r.name B _ I hR _ (hS.x [1])) ?_));rintro _ w ⟨rfl,hS⟩;refine .q 1 rfl (.nil ?_);refine .cond rfl (fun hb14=>?_) fun hb14=>?_
 ·refine .seq (.q 1 rfl (.ret (Xc Xvf rfl ?_)));have h1:¬ Xw r=false:=by simpa using hb9
  have h2:0<=at0 l r.name:=by simpa using hb14
  have hE:X6z room l r=7:=by rw [X6z,if_neg h1,if_pos h2]
  have hQ:add room l r=l:=by rw [add,if_neg (by rw [hE]; decide)]
  rw [hE,hQ];exact ⟨_,rfl,rfl,I,la,lc,Le.refl _,hR,(hS.y 1 1)⟩
 refine .skip (.seq (.seq (.region ?_)));refine .val (.fo 2 rfl X27 rfl rfl Qs9 rfl) rfl (.val (.lo rfl hS (k:=1) rfl Qg9 rfl) rfl (.q 2 rfl (.gm rfl rfl rfl rfl ?_)));refine .gval rfl rfl (fun hg1=>(by exact .fo 2 rfl X27 rfl rfl Qs9 rfl)) rfl ?_;refine .gval rfl rfl (fun hg1=>(by exact (.ld (.gd hg1 rfl) hS (k:=1) rfl Qg9 rfl))) rfl ?_;refine .gcall (T:=fun w=>Sat B w I _) rfl rfl rfl Xk7 rfl (fun hg1=>(Xd (.gd hg1 rfl) (Xd (.gd hg1 rfl) X0))) rfl (fun hg1=>X5c tb room la lc l hl r.parent B _ I hR _ hS) hS ?_;rintro w hS;refine .gval rfl rfl (fun hg1=>(.lss (.gd hg1 rfl) (.of rfl))) rfl (.val (.pa rfl rfl rfl) rfl (.nil ?_));refine .cond rfl (fun hb24=>?_) fun hb24=>?_
 ·refine .seq (.q 1 rfl (.ret (Xc Xvf rfl ?_)));have h1:¬ Xw r=false:=by simpa using hb9
  have h2:¬ 0<=at0 l r.name:=by simpa using hb14
  have h3:r.parent≠[]/\at0 l r.parent<0:=by simpa using hb24
  have hE:X6z room l r=6:=by rw [X6z,if_neg h1,if_neg h2,if_pos h3]
  have hQ:add room l r=l:=by rw [add,if_neg (by rw [hE]; decide)]
  rw [hE,hQ];exact ⟨_,rfl,rfl,I,la,lc,Le.refl _,hR,(hS.y 1 1)⟩
 refine .skip (.seq (.seq (.dw (fun w=>∃ R,Sat B w I (blk tb [I64 room,.slice la l.length lc] 95::R)) (fun j=>!([].contains j)) ?_)));replace hS:=hS.drew; generalize w.drew=w at hS ⊢;have hH:=(hS.x [0])
 refine .tp 0 rfl (fun w=>(.mo rfl)) (.tp 1 rfl (fun w=>(.no rfl)) ?_);refine .tp 2 rfl (fun w=>(.fo 1 rfl Xe6 rfl rfl X6f rfl)) (.tk 3 rfl ⟨_,hH⟩ (fun w ⟨R,hS⟩=>(.lo rfl hS (k:=0) rfl Xcv rfl)) (.tp 4 rfl (fun w=>(.lenSlice (.of rfl) X2y)) (.tp 5 rfl (fun w=>(.mo rfl)) (.tp 6 rfl (fun w=>(.no rfl)) ?_))));refine .tp 7 rfl (fun w=>(.fo 0 rfl Xe6 rfl rfl Qs3 rfl)) (.tk 8 rfl ⟨_,hH⟩ (fun w ⟨R,hS⟩=>(.lo rfl hS (k:=0) rfl Qg3 rfl)) (.tp 9 rfl (fun w=>(.geq (.of rfl) (.of rfl))) (.dn ?_)));refine .cond rfl (fun hb34=>?_) fun hb34=>?_
 ·refine .seq (.q 1 rfl (.ret (Xc Xvf rfl ?_)));have h1:¬ Xw r=false:=by simpa using hb9
  have h2:¬ 0<=at0 l r.name:=by simpa using hb14
  have h3:¬ (r.parent≠[]/\at0 l r.parent<0):=by simpa using hb24
  have h4:room<=l.length:=by simpa using hb34
  have hE:X6z room l r=5:=by rw [X6z,if_neg h1,if_neg h2,if_neg h3,if_pos h4]
  have hQ:add room l r=l:=by rw [add,if_neg (by rw [hE]; decide)]
  rw [hE,hQ];exact ⟨_,rfl,rfl,I,la,lc,Le.refl _,hR,(hS.y 1 1)⟩
 refine .skip (.seq (.dw (fun w=>∃ R,Sat B w I (blk tb [I64 room,.slice la l.length lc] 95::blk b3 [I64 r.kind,S r.name,S r.parent,S r.user,S r.service,S r.url,I64 r.made,I64 r.used,I64 r.uses,.bool r.fresh] 75::R)) (fun j=>!([12].contains j)) ?_));replace hS:=hS.drew; generalize w.drew=w at hS ⊢;have hH:=(hS.x [1,1])
 refine .tp 0 rfl (fun w=>(.mo rfl)) (.tp 2 rfl (fun w=>(.mo rfl)) (.tp 3 rfl (fun w=>(.no rfl)) ?_));refine .tp 4 rfl (fun w=>(.fo 1 rfl Xe6 rfl rfl X6f rfl)) (.tk 5 rfl ⟨_,hH⟩ (fun w ⟨R,hS⟩=>((.lo rfl hS (k:=0) rfl Xcv rfl))) (.tk 7 rfl ⟨_,hH⟩ (fun w ⟨R,hS⟩=>((.ldsW (cs:=[_,_,_,_,_,_,_,_,_,_]) (.of rfl) hS (k:=1) rfl Xbn X29 rfl))) (.branch [1,8] (by kernel_rfl) rfl (WO.cons rfl ?_ (WO.cons rfl ?_ (WO.nil))))))
 ·refine .buildSlice (cs:=[]) hS X4 X2y X29 Xcw rfl rfl rfl rfl ?_;intro b36 w hS;refine .nil ?_;clear hH;have hH:=(hS.x [2,2])
  refine ⟨fun _ _=>⟨_,hH⟩,?_⟩;refine .branch [6,8] (by kernel_rfl) rfl (WO.cons rfl ?_ (WO.cons rfl ?_ (WO.nil)))
  ·replace hS:=hS.vecOf (k:=0) (E:=75) (size:=10) (n:=0) rfl rfl (by decide);refine .appendF (size:=10) (bytes:=120) hS (.of rfl) (.of rfl) hR (k:=0) rfl X2y (i:=Tryz.t75) (by kernel_rfl) rfl rfl rfl rfl (X7m l) ⟨by omega,by unfold maxLen; omega⟩ rfl ?_;intro v41 w hS;rw [Yc,Ye] at hS;refine .nil ?_;clear hH;have hH:=(hS.x [2,2])
   refine ⟨fun _ _=>⟨_,hH⟩,?_⟩;refine .b1 8 rfl (.buildSlice (cs:=[_,_,_,_,_,_,_,_,_,_]) hS (pc9 rfl X4) X2y X29 Xcw rfl rfl rfl rfl ?_);intro b43 w hS;refine .nil ?_;clear hH;have hH:=(hS.x [3,3])
   refine ⟨fun _ _=>⟨_,hH⟩,?_⟩;refine .b1 9 rfl (.append (size:=10) (bytes:=120) hS (.of rfl) (.of rfl) (k:=0) rfl X2y X56 rfl rfl rfl rfl rfl rfl rfl ⟨by omega,by unfold maxLen; omega⟩ rfl ?_);intro v44 w hS;obtain ⟨a44,c44,rfl,hcap44,_⟩:=hS.vecSlice (k:=0) (v:=v44) rfl;refine .nil ?_;clear hH;have hH:=(hS.x [2,2])
   refine ⟨fun _ _=>⟨_,hH⟩,?_⟩;refine .tp 10 rfl (fun w=>(.no rfl)) (.tp 11 rfl (fun w=>(.fo 1 rfl Xe6 rfl rfl X6f rfl)) (.b1 12 rfl (.s1 hS (k:=1) rfl rfl rfl rfl X6f (by simp) ?_)));intro w hS;refine .nil ?_;refine And.intro (by intro h; cases h) ?_;refine .dn (.seq (.q 1 rfl (.ret (Xc Xvf rfl ?_))));have h1:¬ Xw r=false:=by simpa using hb9
   replace hS:=(((hS.pick 1 rfl).pick 1 rfl).drop (k:=2) rfl)
   obtain ⟨oa,oc,ho9,hoc,_⟩:=hS.vecSlice (k:=0) rfl;rw [ho9] at hS;obtain ⟨J2,hJ2,hR2,hS⟩:=hS.freezeVec (k:=0) rfl;have h2:¬ 0<=at0 l r.name:=by simpa using hb14
   have h3:¬ (r.parent≠[]/\at0 l r.parent<0):=by simpa using hb24
   have h4:¬ room<=l.length:=by simpa using hb34
   have hE:X6z room l r=0:=by rw [X6z,if_neg h1,if_neg h2,if_neg h3,if_neg h4]
   have hQ:add room l r=l ++ [r]:=by rw [add,if_pos hE]
   rw [hE,hQ,show (l ++ [r]).length=l.length+1 from Y0,show X9 X5 (l ++ [r])=Xr l ++ X5 r from X46 l r];exact ⟨_,rfl,rfl,J2,oa,oc,hJ2,hR2,hS⟩
  ·refine .buildSlice (cs:=[_,_,_,_,_,_,_,_,_,_]) hS (pc9 rfl X4) X2y X29 Xcw rfl rfl rfl rfl ?_;intro b43 w hS;refine .nil ?_;clear hH;have hH:=(hS.x [3,3])
   refine ⟨fun _ _=>⟨_,hH⟩,?_⟩;refine .b1 6 rfl ?_;replace hS:=hS.vecOf (k:=1) (E:=75) (size:=10) (n:=0) rfl rfl (by decide);refine .appendF (size:=10) (bytes:=120) hS (.of rfl) (.of rfl) hR (k:=1) rfl X2y (i:=Tryz.t75) (by kernel_rfl) rfl rfl rfl rfl (X7m l) ⟨by omega,by unfold maxLen; omega⟩ rfl ?_;intro v41 w hS;rw [Yc,Ye] at hS;refine .nil ?_;clear hH;have hH:=(hS.x [3,3])
   refine ⟨fun _ _=>⟨_,hH⟩,?_⟩;refine .b1 9 rfl (.append (size:=10) (bytes:=120) hS (.of rfl) (.of rfl) (k:=0) rfl X2y X56 rfl rfl rfl rfl rfl rfl rfl ⟨by omega,by unfold maxLen; omega⟩ rfl ?_);intro v44 w hS;obtain ⟨a44,c44,rfl,hcap44,_⟩:=hS.vecSlice (k:=0) (v:=v44) rfl;refine .nil ?_;clear hH;have hH:=(hS.x [2,2])
   refine ⟨fun _ _=>⟨_,hH⟩,?_⟩;refine .tp 10 rfl (fun w=>(.no rfl)) (.tp 11 rfl (fun w=>(.fo 1 rfl Xe6 rfl rfl X6f rfl)) (.b1 12 rfl (.s1 hS (k:=1) rfl rfl rfl rfl X6f (by simp) ?_)));intro w hS;refine .nil ?_;refine And.intro (by intro h; cases h) ?_;refine .dn (.seq (.q 1 rfl (.ret (Xc Xvf rfl ?_))));have h1:¬ Xw r=false:=by simpa using hb9
   replace hS:=(((hS.pick 1 rfl).pick 1 rfl).drop (k:=2) rfl)
   obtain ⟨oa,oc,ho9,hoc,_⟩:=hS.vecSlice (k:=0) rfl;rw [ho9] at hS;obtain ⟨J2,hJ2,hR2,hS⟩:=hS.freezeVec (k:=0) rfl;have h2:¬ 0<=at0 l r.name:=by simpa using hb14
   have h3:¬ (r.parent≠[]/\at0 l r.parent<0):=by simpa using hb24
   have h4:¬ room<=l.length:=by simpa using hb34
   have hE:X6z room l r=0:=by rw [X6z,if_neg h1,if_neg h2,if_neg h3,if_neg h4]
   have hQ:add room l r=l ++ [r]:=by rw [add,if_pos hE]
   rw [hE,hQ,show (l ++ [r]).length=l.length+1 from Y0,show X9 X5 (l ++ [r])=Xr l ++ X5 r from X46 l r];exact ⟨_,rfl,rfl,J2,oa,oc,hJ2,hR2,hS⟩
 ·refine .buildSlice (cs:=[_,_,_,_,_,_,_,_,_,_]) hS (pc9 rfl X4) X2y X29 Xcw rfl rfl rfl rfl ?_;intro b43 w hS;refine .nil ?_;clear hH;have hH:=(hS.x [2,2])
  refine ⟨fun _ _=>⟨_,hH⟩,?_⟩;refine .b1 1 rfl (.buildSlice (cs:=[]) hS X4 X2y X29 Xcw rfl rfl rfl rfl ?_);intro b36 w hS;refine .nil ?_;clear hH;have hH:=(hS.x [3,3])
  refine ⟨fun _ _=>⟨_,hH⟩,?_⟩;refine .b1 6 rfl ?_;replace hS:=hS.vecOf (k:=0) (E:=75) (size:=10) (n:=0) rfl rfl (by decide);refine .appendF (size:=10) (bytes:=120) hS (.of rfl) (.of rfl) hR (k:=0) rfl X2y (i:=Tryz.t75) (by kernel_rfl) rfl rfl rfl rfl (X7m l) ⟨by omega,by unfold maxLen; omega⟩ rfl ?_;intro v41 w hS;rw [Yc,Ye] at hS;refine .nil ?_;clear hH;have hH:=(hS.x [3,3])
  refine ⟨fun _ _=>⟨_,hH⟩,?_⟩;refine .b1 9 rfl ?_;replace hS:=hS.pick 1 rfl;refine .append (size:=10) (bytes:=120) hS (.of rfl) (.of rfl) (k:=0) rfl X2y X56 rfl rfl rfl rfl rfl rfl rfl ⟨by omega,by unfold maxLen; omega⟩ rfl ?_;intro v44 w hS;obtain ⟨a44,c44,rfl,hcap44,_⟩:=hS.vecSlice (k:=0) (v:=v44) rfl;refine .nil ?_;clear hH;have hH:=(hS.x [2,2])
  refine ⟨fun _ _=>⟨_,hH⟩,?_⟩;refine .tp 10 rfl (fun w=>(.no rfl)) (.tp 11 rfl (fun w=>(.fo 1 rfl Xe6 rfl rfl X6f rfl)) (.b1 12 rfl (.s1 hS (k:=1) rfl rfl rfl rfl X6f (by simp) ?_)));intro w hS;refine .nil ?_;refine And.intro (by intro h; cases h) ?_;refine .dn (.seq (.q 1 rfl (.ret (Xc Xvf rfl ?_))));have h1:¬ Xw r=false:=by simpa using hb9
  replace hS:=(((hS.pick 1 rfl).pick 1 rfl).drop (k:=2) rfl)
  obtain ⟨oa,oc,ho9,hoc,_⟩:=hS.vecSlice (k:=0) rfl;rw [ho9] at hS;obtain ⟨J2,hJ2,hR2,hS⟩:=hS.freezeVec (k:=0) rfl;have h2:¬ 0<=at0 l r.name:=by simpa using hb14
  have h3:¬ (r.parent≠[]/\at0 l r.parent<0):=by simpa using hb24
  have h4:¬ room<=l.length:=by simpa using hb34
  have hE:X6z room l r=0:=by rw [X6z,if_neg h1,if_neg h2,if_neg h3,if_neg h4]
  have hQ:add room l r=l ++ [r]:=by rw [add,if_pos hE]
  rw [hE,hQ,show (l ++ [r]).length=l.length+1 from Y0,show X9 X5 (l ++ [r])=Xr l ++ X5 r from X46 l r];exact ⟨_,rfl,rfl,J2,oa,oc,hJ2,hR2,hS⟩
end Go.Proofs.YtbciobiiejpdgaaGreatDoor
