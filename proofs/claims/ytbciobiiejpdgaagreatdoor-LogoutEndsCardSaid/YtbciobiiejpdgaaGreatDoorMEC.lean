/- Part 3 of what the proof stands on. -/
import Derived.Test.YtbciobiiejpdgaaGreatDoorMEB
import Derived.Below
import Derived.ChangeSame
import Derived.Carry
import Derived.ChangeSlices
import Derived.Deep.Strs
import Derived.DataElems
import Derived.Lib.LaidTab
import Derived.Test.YtbciobiiejpdgaaGreatDoorChecked
set_option linter.unusedVariables false
set_option linter.unusedSimpArgs false
namespace Go.Proofs.YtbciobiiejpdgaaGreatDoor
open Gk Pc Ul Pat
theorem X2v:Tryz.prog.info? 9=some Tryz.t9:=by kernel_rfl
structure Known (I:Im):Prop where
 dig:DigAt I
 pow : ∀ (B w : World) (As : List X7), Sat B w I As → Go.Lib.TabIs Tryz.prog w "internal/strconv.uint64pow10" .u64 Go.Lib.pow10Tab
 max:∀ (B w:World) (As:List X7),Sat B w I As->∃ m,w.cell? ⟨6,0,none⟩=some (.int .i64 m)
theorem Known.mono {I J:Im} (h:Known I) (hl:Le I J):Known J :=
 have e:∀ (B w:World) (As:List X7),Sat B w J As->Sat B w I As:=fun B w As ⟨g,h1,h2⟩=>⟨g,h1,h2.os,h2.tape,h2.output,fun b o hi=>h2.imm b o (hl b o hi),h2.own,h2.nodup,fun b o hm=>by
  cases hi:I b with
  | none=>rfl
  | some x=>have:=h2.apart b o hm; rw [hl b x hi] at this; cases this⟩
 ⟨h.dig.mono hl,fun B w As s=>h.pow B w As (e B w As s),fun B w As s=>h.max B w As (e B w As s)⟩
theorem X53 {B w:World} {I:Im} {As:List X7} (hS:Sat B w I As) (n:Nat):Sat B (w.drewN n) I As:=hS.world rfl rfl rfl rfl
theorem Xj9 {B w:World} {I:Im} {As:List X7} (hS:Sat B w I As) (os:Array Obj):Sat B (Go.Sort.grow w os) I As :=
 hS.grown ⟨rfl,rfl,rfl,by simp [Go.Sort.grow],fun k hk=>by simp [Go.Sort.grow,Array.getElem?_append,hk]⟩
theorem Xqn (n:Nat) (hn:n<=65535) (B w:World) (I:Im) (hK:Known I) (As:List X7) (hS:Sat B w I As):Calls Tryz.prog 67 [I64 (n:Nat)].toArray w (Ret fun v w'=>v=S (Go.Lib.decDigits n)/\Sat B w' I As) :=
 (Tryz.strconv_Itoa n (by omega) (by omega) w (hK.pow B w As hS)).mono fun e w' he=>by
  obtain ⟨rfl,k,os,rfl⟩:=he;refine ⟨_,rfl,?_,Xj9 (X53 hS k) os⟩;unfold Go.Lib.itoa;rw [if_neg (by omega),Yf]
theorem Xgi (s:List UInt8) (hs:s.length<=1000000) (B w:World) (I:Im) (hK:Known I) (As:List X7) (hS:Sat B w I As):Calls Tryz.prog 187 [S s,S SIGN].toArray w (Ret fun v w'=>v=.tuple #[S (Go.Lib.cut s SIGN).1,S (Go.Lib.cut s SIGN).2.1,.bool (Go.Lib.cut s SIGN).2.2]/\Sat B w' I As):=by
 obtain ⟨m,hm⟩:=hK.max B w As hS;refine (Tryz.strings_Cut ⟨s.toArray⟩ ⟨SIGN.toArray⟩ m w (by show s.length<_; omega) hm).mono fun e w' he=>?_
 obtain ⟨rfl,n,rfl⟩:=he;exact ⟨_,rfl,rfl,X53 hS n⟩
theorem Xc1 (s:List UInt8) (c:UInt8) (hs:s.length<=1000000) (B w:World) (I:Im) (hK:Known I) (As:List X7) (hS:Sat B w I As):Calls Tryz.prog 187 [S s,S [c]].toArray w (Ret fun v w'=>v=.tuple #[S (upto [c] s),S ((X6 [c] s).drop 1),.bool (!(X6 [c] s).isEmpty)]/\Sat B w' I As):=by
 obtain ⟨m,hm⟩:=hK.max B w As hS;refine (Tryz.strings_Cut ⟨s.toArray⟩ ⟨[c].toArray⟩ m w (by show s.length<_; omega) hm).mono fun e w' he=>?_
 obtain ⟨rfl,n,rfl⟩:=he;refine ⟨_,rfl,?_,X53 hS n⟩;show Value.tuple #[S (Go.Lib.cut s [c]).1,S (Go.Lib.cut s [c]).2.1,.bool (Go.Lib.cut s [c]).2.2]=_
 rw [Xo3]
theorem Xxh (l:List ByteArray):l.map Value.string=(l.map (·.data.toList)).map S:=by
 rw [List.map_map];rfl
theorem Xn8 (s:List UInt8) (hs:s.length<=1000000) (B w:World) (I:Im) (hK:Known I) (As:List X7) (hS:Sat B w I As):Calls Tryz.prog 255 [S s,S [47]].toArray w (Ret fun v w'=>∃ b,v=.slice (some (ad b 0)) (spl s).length (spl s).length/\Sat B w' I (blk b ((spl s).map S) 9::As)):=by
 obtain ⟨m,hm⟩:=hK.max B w As hS;refine (Tryz.strings_Split ⟨s.toArray⟩ ⟨[47].toArray⟩ m w (by show s.length<_; omega) hm (by decide)).mono fun e w' he=>?_
 obtain ⟨rfl,rfl⟩:=he;have e1:(spl s).length=Go.Lib.countB ⟨s.toArray⟩ ⟨[47].toArray⟩+1:=Xxf _ s (Yq _);have e2:(Go.Lib.splitB ⟨[47].toArray⟩ 0 (Go.Lib.countB ⟨s.toArray⟩ ⟨[47].toArray⟩) ⟨s.toArray⟩).map Value.string=(spl s).map S:=by
  rw [Xxh,Go.Lib.splitB_data];show List.map S (Go.Lib.splitK [47] 0 (Go.Lib.count s [47]) s)=_
  rw [Xlu _ s (Yq _)]
 refine ⟨_,rfl,w.heap.size,by rw [e1],?_⟩;rw [e2];exact hS.alloc _
set_option maxHeartbeats 800000 in
theorem Xql (p:List UInt8) (hl:p.length<=1000000) (B w:World) (I:Im) (hK:Known I) (As:List X7) (hS:Sat B w I As) :
  Cz 220 [S p] w fun v w'=>v=S (X9c p)/\Sat B w' I As:=by
 refine calls Tryz.func220 rfl Tryz.ntmps220 rfl (.seq (.q 1 rfl (.scope (.seq (.seq (.t 1 rfl (.call Xgl rfl (ec9 rfl (ec9 rfl X0)) rfl (X1s p [47] _ (by omega) (by decide)) ?_)))))));rintro _ _ ⟨rfl,rfl⟩;refine .q 1 rfl (.nil ?_);refine .cond rfl (fun hb12=>?_) fun hb12=>?_
 ·refine .seq (.q 2 rfl (.ret (Xc Xvb rfl ?_)));refine ⟨_,rfl,?_,hS⟩;cases p with
  | nil=>rfl
  | cons a b=>rw [X9c,if_neg (fun e=>by subst e; simp [Xg] at hb12; omega)]
 have hc12:=hb12; simp only [Y6] at hc12;refine .skip (.seq (.q 1 rfl (.seq (.q 1 rfl (.seq (.label (.seq (.seq ?_))))))));have hp1:1<=p.length:=by cases p with | nil=>simp [Xg] at hb12 | cons a b=>simp
 have hpn:=X57 (spl (p.drop 1));rw [X3r,Yg] at hpn;refine .t 1 rfl (.val (.subFrom (.of rfl) (.of rfl) (by omega) (by omega) Qu9) rfl ?_);refine .call Tryz.func255 rfl (ec9 rfl (ec9 rfl X0)) rfl (Xn8 (p.drop 1) (by rw [Yg]; omega) B _ I hK As hS) ?_;rintro _ w ⟨b16,rfl,hS⟩;refine .run 2 rfl ⟨⟨_,X1u⟩,trivial⟩ (.nil (.block ?_));replace hS:=hS.vecNil 9 1;refine .loop (σ:=Value×Nat) (fun ⟨kv,i⟩=>[(3,kv),(4,.bool (decide (0<i) && X65 ((spl (p.drop 1)).getD (i - 1) []))),(16,.slice (some (ad b16 0)) (spl (p.drop 1)).length (spl (p.drop 1)).length),(17,I64 ((spl (p.drop 1)).length:Nat)),(18,I64 (i:Nat))]) (fun ⟨kv,i⟩ w=>i<=(spl (p.drop 1)).length/\Sat B w I (Vec 9 1 kv (List.foldl keep [] ((spl (p.drop 1)).take i)).length ((List.foldl keep [] ((spl (p.drop 1)).take i)).map S)::blk b16 ((spl (p.drop 1)).map S) 9::As)) (fun ⟨kv,i⟩=>(spl (p.drop 1)).length - i) (.slice none 0 0,0) ⟨rfl,rfl,rfl,rfl,rfl,trivial⟩ ⟨Yo _,hS⟩ ?_;rintro ⟨kv,i⟩ w ⟨hi,hS⟩;refine .seq (.q 1 rfl (.seq ?_));refine .cond rfl (fun hb19=>?_) fun hb19=>?_
 ·have hc19:=hb19; simp only [Y6] at hc19;refine .skip (.seq (.block (.seq ?_)));obtain ⟨x,hx⟩:∃ x,(spl (p.drop 1))[i]?=some x:=⟨_,Y4 (by omega)⟩
  have hKn:(List.foldl keep [] ((spl (p.drop 1)).take (i+1)))=keep (List.foldl keep [] ((spl (p.drop 1)).take i)) x:=by rw [Yz,hx,Y2r]; rfl
  have hgd:(spl (p.drop 1)).getD i []=x:=by rw [Y8,hx]; rfl
  have hop:(decide (0<i+1) && X65 ((spl (p.drop 1)).getD (i+1 - 1) []))=X65 x:=by rw [Nat.add_sub_cancel,hgd,decide_eq_true (by omega),Y2n]
  obtain ⟨ka,kc,rfl,hkc,_⟩:=hS.vecSlice (k:=0) (v:=kv) rfl;have hKl:(List.foldl keep [] ((spl (p.drop 1)).take i)).length<=1000001:=by
   have h1:=X57 (List.foldl keep [] ((spl (p.drop 1)).take i));have h2:=X7s ((spl (p.drop 1)).take i) [];have h3:tot (spl (p.drop 1))=tot ((spl (p.drop 1)).take i)+tot ((spl (p.drop 1)).drop i):=by rw [<- X8p,Yv]
   have h4:=X3r (p.drop 1);rw [Yg] at h4;rw [show tot []=0 from rfl] at h2;omega
  refine .region (.val (.io rfl rfl (by omega) (by omega) X1u Qs9) rfl ?_);refine .val (.ld (v:=S x) (.of rfl) hS (k:=1) rfl Qg9 (by rw [Yc,Yf,Y1n,Yu,hx]; rfl)) rfl ?_;refine .q 1 rfl (.nil (.seq (.q 1 rfl (.seq (.seq (.q 1 rfl (.block (.seq (.q 2 rfl ?_)))))))));refine .cond rfl (fun hb23=>?_) fun hb23=>?_
  ·have hc23:=hb23; simp only [Y6] at hc23;refine .exit (.region (.run 2 rfl ⟨⟨by omega,by omega⟩,trivial⟩ (.nil ?_)));refine ⟨(_,i+1),⟨rfl,by show some (Value.bool _)=some _; rw [hop]; rw [show x=[46] by simpa using hb23]; rfl,rfl,rfl,rfl,trivial⟩,⟨by omega,?_⟩,by (try dsimp only); omega⟩;rw [hKn,keep,if_pos (by simpa using hb23)];exact hS
  have hc23:=hb23; simp only [Y6] at hc23;refine .seq (.q 2 rfl ?_);refine .cond rfl (fun hb25=>?_) fun hb25=>?_
  ·have hc25:=hb25; simp only [Y6] at hc25;refine .seq (.region (.run 4 rfl ⟨⟨_,X1u⟩,⟨by omega,by omega⟩,trivial⟩ (.val (.max2 (.of rfl) (.of rfl)) rfl (.val (.slcTo (.of rfl) (.of rfl) (by omega) (by omega) X1u Qs9) rfl ?_))));obtain ⟨a2,c2,e2,hS⟩:=hS.vecTakeI (m:=(max 0 (((List.foldl keep [] ((spl (p.drop 1)).take i)).length:Int) - 1)).toNat) (l:=(List.foldl keep [] ((spl (p.drop 1)).take i))) (k:=0) rfl (by omega);rw [e2];rw [show (max 0 (((List.foldl keep [] ((spl (p.drop 1)).take i)).length:Int) - 1)).toNat=(List.foldl keep [] ((spl (p.drop 1)).take i)).length - 1 by omega] at hS ⊢;refine .q 1 rfl (.nil (.exit (.region (.run 2 rfl ⟨⟨by omega,by omega⟩,trivial⟩ (.nil ?_)))));refine ⟨(_,i+1),⟨rfl,by show some (Value.bool _)=some _; rw [hop]; rw [show x=[46,46] by simpa using hb25]; rfl,rfl,rfl,rfl,trivial⟩,⟨by omega,?_⟩,by (try dsimp only); omega⟩;rw [hKn,keep,if_neg (by simpa using hb23),if_pos (by simpa using hb25),List.dropLast_eq_take];exact hS
  have hc25:=hb25; simp only [Y6] at hc25;refine .skip (.seq (.q 1 rfl (.t 2 rfl (.buildSlice (cs:=[_]) hS (pc9 rfl X4) X1u Qs9 Qz9 rfl rfl rfl rfl ?_))));intro b35 w hS;refine .append (size:=1) (bytes:=16) hS (.of rfl) (.of rfl) (k:=0) rfl X1u X2v rfl rfl rfl rfl rfl rfl rfl ⟨by omega,by unfold maxLen; omega⟩ rfl ?_;intro v36 w hS;obtain ⟨a36,c36,rfl,hcap36,_⟩:=hS.vecSlice (k:=0) (v:=v36) rfl;refine .q 1 rfl (.nil (.region (.run 2 rfl ⟨⟨by omega,by omega⟩,trivial⟩ (.nil ?_))));refine ⟨(_,i+1),⟨rfl,by show some (Value.bool _)=some _; rw [hop]; rw [X65,show (x == [46])=false by simpa using hb23,show (x == [46,46])=false by simpa using hb25]; rfl,rfl,rfl,rfl,trivial⟩,⟨by omega,?_⟩,by (try dsimp only); omega⟩;rw [hKn,keep,if_neg (by simpa using hb23),if_neg (by simpa using hb25),Yw,Y0];exact hS
 have hc19:=hb19; simp only [Y6] at hc19;refine .exit (.seq ?_);have hin:i=(spl (p.drop 1)).length:=by omega
 subst hin;rw [Y15] at hS;obtain ⟨ka,kc,rfl,hkc,_⟩:=hS.vecSlice (k:=0) (v:=kv) rfl;have htot:=X7s (spl (p.drop 1)) [];rw [X3r,show tot []=0 from rfl,Yc,Yg] at htot;have hkt:=X57 (List.foldl keep [] (spl (p.drop 1)));refine .q 1 rfl (.seq (.seq (.region (.run 3 rfl ⟨⟨_,X1u⟩,trivial⟩ (.nil (.block (.loop (σ:=Nat) (fun j=>[(3,.slice ka (List.foldl keep [] (spl (p.drop 1))).length kc),(4,.bool (decide (0<(spl (p.drop 1)).length) && X65 ((spl (p.drop 1)).getD ((spl (p.drop 1)).length - 1) []))),(38,.slice ka (List.foldl keep [] (spl (p.drop 1))).length kc),(39,I64 ((List.foldl keep [] (spl (p.drop 1))).length:Nat)),(40,I64 (j:Nat)),(7,S (X18 ((List.foldl keep [] (spl (p.drop 1))).take j)))]) (fun j w=>j<=(List.foldl keep [] (spl (p.drop 1))).length/\Sat B w I (Vec 9 1 (.slice ka (List.foldl keep [] (spl (p.drop 1))).length kc) (List.foldl keep [] (spl (p.drop 1))).length ((List.foldl keep [] (spl (p.drop 1))).map S)::blk b16 ((spl (p.drop 1)).map S) 9::As)) (fun j=>(List.foldl keep [] (spl (p.drop 1))).length - j) 0 ⟨rfl,rfl,rfl,rfl,rfl,rfl,trivial⟩ ⟨Yo _,hS⟩ ?_)))))));rintro j w ⟨hj,hS⟩;refine .seq (.q 1 rfl (.seq ?_));refine .cond rfl (fun hb41=>?_) fun hb41=>?_
 ·have hc41:=hb41; simp only [Y6] at hc41;refine .skip (.seq (.block (.seq ?_)));obtain ⟨x,hx⟩:∃ x,(List.foldl keep [] (spl (p.drop 1)))[j]?=some x:=⟨_,Y4 (by omega)⟩
  have hsn:X18 ((List.foldl keep [] (spl (p.drop 1))).take (j+1))=X18 ((List.foldl keep [] (spl (p.drop 1))).take j) ++ 47::x:=by rw [Yz,hx]; exact Xay _ _
  have hsl:(X18 ((List.foldl keep [] (spl (p.drop 1))).take j)).length+(x.length+1)<=tot (List.foldl keep [] (spl (p.drop 1))):=by
   rw [show x.length+1=(47::x).length from rfl,<- Y0,<- hsn,X3d]
   have:tot (List.foldl keep [] (spl (p.drop 1)))=tot ((List.foldl keep [] (spl (p.drop 1))).take (j+1))+tot ((List.foldl keep [] (spl (p.drop 1))).drop (j+1)):=by rw [<- X8p,Yv]
   omega
  obtain ⟨g19,rest19,hS19⟩:∃ g rest,ka=some (ad g 0)/\Sat B w I (blk g ((List.foldl keep [] (spl (p.drop 1))).map S ++ rest) 9::blk b16 ((spl (p.drop 1)).map S) 9::As):=by
   obtain ⟨g,c,rest,hv,_,_,_,_,hs⟩:=hS.vecOpen (k:=0) rfl (by omega);injection hv with hv1 hv2 hv3
   exact ⟨g,rest,hv1,hs⟩
  obtain ⟨rfl,hS19⟩:=hS19;refine .region (.val (.indexAddr (b:=g19) (o:=0) (.of rfl) (.of rfl) (by omega) (by omega) X1u Qs9) rfl ?_);refine .val (.ld (v:=S x) (.of rfl) hS19 (k:=0) rfl Qg9 (by rw [Yc,Yf,Y1n,Yi (by rw [Y14]; omega),Yu,hx]; rfl)) rfl ?_;clear hS19;refine .q 1 rfl (.nil (.region ?_));refine .run 5 rfl ⟨by (try simp only [Y0,List.length_cons,List.length_nil]); omega,by (try simp only [Y0,List.length_cons,List.length_nil]); omega,trivial⟩ (.nil (.region (.run 2 rfl ⟨⟨by omega,by omega⟩,trivial⟩ (.nil ?_))));refine ⟨j+1,⟨rfl,rfl,rfl,rfl,rfl,by show some (S _)=some _; rw [hsn]; simp,trivial⟩,⟨by omega,hS⟩,by omega⟩
 have hc41:=hb41; simp only [Y6] at hc41;refine .exit (.seq (.seq ?_));have hjn:(List.foldl keep [] (spl (p.drop 1))).take j=(List.foldl keep [] (spl (p.drop 1))):=Yx (by omega);have hsl2:(X18 ((List.foldl keep [] (spl (p.drop 1))).take j)).length<=tot (List.foldl keep [] (spl (p.drop 1))):=by rw [hjn,X3d]; exact Yq _
 refine .t 2 rfl (.gm rfl rfl rfl rfl (.gval rfl rfl (fun hg1=>(.lenSlice (.gd hg1 rfl) X1u)) rfl (.gval rfl rfl (fun hg1=>(.eql (.gd hg1 rfl) (.of rfl))) rfl (.val (.po rfl rfl rfl) rfl (.nil ?_)))));refine .cond rfl (fun hb54=>?_) fun hb54=>?_
 ·have hc54:=hb54; simp only [Y6] at hc54;refine .region (.run 3 rfl ⟨by (try simp only [Y0,List.length_cons,List.length_nil]); omega,trivial⟩ (.nil (.seq (.q 2 rfl (.ret (Xc Xvb rfl ?_))))));have hjn:(List.foldl keep [] (spl (p.drop 1))).take j=(List.foldl keep [] (spl (p.drop 1))):=Yx (by omega);rw [hjn];have hlast:(decide (0<(spl (p.drop 1)).length) && X65 ((spl (p.drop 1)).getD ((spl (p.drop 1)).length - 1) []))=X65 ((spl (p.drop 1)).getLastD []):=by
   have hne:=Xb1 (p.drop 1);have hp0:0<(spl (p.drop 1)).length:=Y20.2 hne;rw [decide_eq_true hp0,Y2n]
   congr 1
   rw [Y47,Y46,Y8]
  have hpc:p=47::p.drop 1:=by
   cases p with
   | nil=>simp [Xg] at hb12
   | cons a b=>simp [Xg] at hb12; rw [hb12.2]; rfl
  have hall:X9c p=X18 (List.foldl keep [] (spl (p.drop 1))) ++ (if X65 ((spl (p.drop 1)).getLastD []) || (List.foldl keep [] (spl (p.drop 1))).length == 0 then [47] else []):=by rw [hpc,X9c,if_pos rfl]; rfl
  refine ⟨_,rfl,?_,hS.y 0 2⟩;rw [hall];rw [if_pos (by rw [<- hlast]; simpa using hb54)]
 have hc54:=hb54; simp only [Y6] at hc54;refine .skip (.seq (.q 2 rfl (.ret (Xc Xvb rfl ?_))));have hjn:(List.foldl keep [] (spl (p.drop 1))).take j=(List.foldl keep [] (spl (p.drop 1))):=Yx (by omega);rw [hjn];have hlast:(decide (0<(spl (p.drop 1)).length) && X65 ((spl (p.drop 1)).getD ((spl (p.drop 1)).length - 1) []))=X65 ((spl (p.drop 1)).getLastD []):=by
  have hne:=Xb1 (p.drop 1);have hp0:0<(spl (p.drop 1)).length:=Y20.2 hne;rw [decide_eq_true hp0,Y2n]
  congr 1
  rw [Y47,Y46,Y8]
 have hpc:p=47::p.drop 1:=by
  cases p with
  | nil=>simp [Xg] at hb12
  | cons a b=>simp [Xg] at hb12; rw [hb12.2]; rfl
 have hall:X9c p=X18 (List.foldl keep [] (spl (p.drop 1))) ++ (if X65 ((spl (p.drop 1)).getLastD []) || (List.foldl keep [] (spl (p.drop 1))).length == 0 then [47] else []):=by rw [hpc,X9c,if_pos rfl]; rfl
 refine ⟨_,rfl,?_,hS.y 0 2⟩;rw [hall];rw [if_neg (by rw [<- hlast,Y2q]; simpa using hb54),Y9]
end Go.Proofs.YtbciobiiejpdgaaGreatDoor
namespace Go.Proofs.YtbciobiiejpdgaaGreatDoor
open Gk Ul Pc Tk Tr
def PREV:List (List UInt8):=[[],pre 1,pre 2,pre 3,pre 4,pre 5,pre 6]
def PreAt (I:Im):Prop:=At I (ad 1 0) (PREV.map S)
theorem PreAt.mono {I J:Im} (h:PreAt I) (hl:Le I J):PreAt J:=At.mono h hl
def Xqi (k:Int):List UInt8:=if k<1\/6<k then [] else pre k.toNat
theorem Ex.slcArr {P:Program} {n:Nat} {L:Env} {w:World} {d:Option Nat} {ty:TypeId} {pos:String} {af:Array Edge} {gg:Option (Nat×Bool)} {t e:TypeId} {x:Operand} {p:Addr} {m s:Nat} (hx:Ev n L x (.pointer (some p))) (ht:P.underlying t=some (.array m e)) (hs:∀ w,(Go.sizeOf e).run P w=.ok s w) :
  Ex P n L w ⟨d,.slice t x none none none,ty,pos,af,gg⟩ (.slice (some (if m=0 then p else p.add (0*s))) (m - 0) (m - 0)) w:=fun a ha=>by
 obtain ⟨e1,e2⟩:=Xd8 ht;have h:=run_sliceAt_array_all (P:=P) w t p (by rw [e1,e2]; exact ht);rw [e1,e2,hs] at h;simp [execOp,hx a ha,h,slicedAt]
def Xhe (p:List UInt8):List (List UInt8)->Nat->Int
 | [],_=>-1
 | x::r,i=>if p=x then (i:Int) else Xhe p r (i+1)
theorem Xah (p:List UInt8):∀ (n:Nat) (r:List (List UInt8)) (i:Nat),(∀ (j:Nat) x,j<n->r[j]?=some x->p≠x)->Xhe p r i=Xhe p (r.drop n) (i+min n r.length)
 | 0,r,i,_=>by simp
 | n+1,[],i,_=>by simp [Xhe]
 | n+1,x::r,i,h=>by
  rw [Xhe,if_neg (h 0 x (by omega) rfl),Xah p n r (i+1) (fun j y hj hy=>h (j+1) y (by omega) (by simpa using hy)),Y7,List.length_cons]
  congr 1
  omega
theorem Xsm {p:List UInt8} {l:List (List UInt8)} {i:Nat} (h:∀ (j:Nat) x,j<i->l[j]?=some x->p≠x) (hs:l[i]?=some p):Xhe p l 0=(i:Int):=by
 have hi:=(Y5.1 hs).1;rw [Xah p i l 0 h,Yc,Y2h (by omega),Y13 hi,(Y5.1 hs).2,Xhe,if_pos rfl]
theorem Xok {p:List UInt8} {l:List (List UInt8)} (h:∀ (j:Nat) x,l[j]?=some x->p≠x):Xhe p l 0=-1:=by
 rw [Xah p l.length l 0 (fun j x _ hx=>h j x hx),Y2x];rfl
theorem X9k (p:List UInt8):(1<=Xhe p PREV 0->X3b p≠0/\Xhe p PREV 0=(X3b p:Int))/\(¬ 1<=Xhe p PREV 0->X3b p=0):=by
 unfold PREV X3b;simp only [Xhe]
 by_cases h0:p=[]
 ·subst h0;exact ⟨fun h=>by simp at h,fun _=>by decide⟩
 rw [if_neg h0]
 by_cases h1:p=pre 1
 ·rw [if_pos h1,if_pos h1]; exact ⟨fun _=>⟨by decide,by decide⟩,fun h=>absurd (by decide) h⟩
 rw [if_neg h1,if_neg h1]
 by_cases h2:p=pre 2
 ·rw [if_pos h2,if_pos h2]; exact ⟨fun _=>⟨by decide,by decide⟩,fun h=>absurd (by decide) h⟩
 rw [if_neg h2,if_neg h2]
 by_cases h3:p=pre 3
 ·rw [if_pos h3,if_pos h3]; exact ⟨fun _=>⟨by decide,by decide⟩,fun h=>absurd (by decide) h⟩
 rw [if_neg h3,if_neg h3]
 by_cases h4:p=pre 4
 ·rw [if_pos h4,if_pos h4]; exact ⟨fun _=>⟨by decide,by decide⟩,fun h=>absurd (by decide) h⟩
 rw [if_neg h4,if_neg h4]
 by_cases h5:p=pre 5
 ·rw [if_pos h5,if_pos h5]; exact ⟨fun _=>⟨by decide,by decide⟩,fun h=>absurd (by decide) h⟩
 rw [if_neg h5,if_neg h5]
 by_cases h6:p=pre 6
 ·rw [if_pos h6,if_pos h6]; exact ⟨fun _=>⟨by decide,by decide⟩,fun h=>absurd (by decide) h⟩
 rw [if_neg h6,if_neg h6];exact ⟨fun h=>absurd h (by decide),fun _=>rfl⟩
theorem X3u (a:Option Addr) (c:Nat) (l:List (List UInt8)) (hll:l.length<=100000) (p:List UInt8) (B w:World) (I:Im) (hA:RS I a 1 l.length (l.map S)) (As:List X7) (hS:Sat B w I As) :
  Cz 178 [.slice a l.length c,S p] w fun v w'=>v=I64 (Xhe p l 0)/\Sat B w' I As:=by
 refine calls Xk9 rfl Tryz.ntmps178 rfl (.seq (.q 1 rfl (.seq (.seq (.region (.run 3 rfl ⟨⟨_,X1u⟩,trivial⟩ (.nil (.block (.loop (σ:=Nat) (fun i=>[(0,.slice a l.length c),(1,S p),(7,I64 (l.length:Nat)),(8,I64 (i:Nat))]) (fun i w=>i<=l.length/\(∀ (j:Nat) x,j<i->l[j]?=some x->p≠x)/\Sat B w I As) (fun i=>l.length - i) 0 ⟨rfl,rfl,rfl,rfl,trivial⟩ ⟨Yo _,fun _ _ h=>absurd h (by omega),hS⟩ ?_)))))))));rintro i w ⟨hi,hno,hS⟩;refine .seq (.q 1 rfl (.seq ?_));refine .cond rfl (fun hb9=>?_) fun hb9=>?_
 ·have hc9:=hb9; simp only [Y6] at hc9;refine .skip (.seq (.block (.seq ?_)));obtain ⟨x,hx⟩:∃ x,l[i]?=some x:=⟨_,Y4 (by omega)⟩
  obtain ⟨q,rfl,hq⟩:=hA.2 (by omega);have hqx:((l.map S).drop ((i:Int).toNat*1))[0]?=some (S x):=by rw [Y1d,Yf,Y1n,Y21,Yu,hx]; rfl
  refine .q 2 rfl (.seq (.t 3 rfl (.val (.ii rfl rfl (by omega) (by omega) X1u Qs9) rfl (.val (.ldI (v:=S x) (.of rfl) hS (hq.add _) Qg9 hqx) rfl (.q 1 rfl (.nil ?_))))));refine .cond rfl (fun hb16=>?_) fun hb16=>?_
  ·refine .seq (.q 2 rfl (.ret (Xc Tryz.results178 rfl ?_)));have e:p=x:=by simpa using hb16
   subst e;exact ⟨_,rfl,by rw [Xsm hno hx],hS⟩
  have hc16:=hb16; simp only [Y6] at hc16;refine .skip (.region (.run 2 rfl ⟨⟨by omega,by omega⟩,trivial⟩ (.nil ?_)));refine ⟨i+1,⟨rfl,rfl,rfl,rfl,trivial⟩,⟨by omega,fun j y hj hy=>?_,hS⟩,by omega⟩;rcases Yp j i with h1 | h1
  ·exact hno j y h1 hy
  ·have e:j=i:=by omega
   subst e;rw [hx] at hy; cases hy;simpa using hb16
 have hc9:=hb9; simp only [Y6] at hc9;refine .exit (.seq (.q 1 rfl (.ret (Xc Tryz.results178 rfl ?_))));exact ⟨_,rfl,by rw [Xok (fun j x hx=>hno j x (by have:=(Y5.1 hx).1; omega) hx)],hS⟩
abbrev HEXD:List UInt8:=[48,49,50,51,52,53,54,55,56,57,97,98,99,100,101,102]
theorem hx_idx (c:UInt8):(match hx c with | some d=>Go.Lib.indexByte HEXD c=(d:Int) | none=>Go.Lib.indexByte HEXD c=-1):=by
 have:=Xh (p:=fun c=>match hx c with | some d=>Go.Lib.indexByte HEXD c == (d:Int) | none=>Go.Lib.indexByte HEXD c == -1) (by decide +kernel) c
 cases h:hx c with
 | some d=>rw [h] at this; simpa using this
 | none=>rw [h] at this; simpa using this
theorem Xsl {s:List UInt8} {i:Nat} {n d:Nat} (hi:i<s.length) (hn:hxS 0 (s.take i)=some n) (hd:hx (at_ s (i:Int))=some d):hxS 0 (s.take (i+1))=some (16*n+d):=by
 have:s[i]?=some (at_ s (i:Int)):=Xy hi
 rw [Yz,this,Y1e,Xhd,hn,Y38];simp only [hxS,hd]
theorem Xoi:∀ (s:List UInt8) (i n:Nat),i<s.length->hx (at_ s (i:Int))=none->hxS n s=none
 | [],i,_,h,_=>by simp at h
 | c::r,0,n,_,h=>by
  rw [hxS,show hx c=none from h]
 | c::r,i+1,n,hi,h=>by
  rw [hxS];cases hx c with
  | none=>rfl
  | some d=>exact Xoi r i _ (by simpa using hi) (by
    have e:at_ (c::r) ((i+1:Nat):Int)=at_ r (i:Int):=by simp [at_]
    rw [e] at h; exact h)
theorem or_low {n d:Nat} (hd:d<16):(16*n) ||| d=16*n+d:=by
 have:=Y54 (i:=4) (b:=d) hd n
 simpa using this.symm
theorem Xiy (s:List UInt8) (hs:s.length<=1000000) (B w:World) (I:Im) (As:List X7) (hS:Sat B w I As) :
  Cz 188 [S s] w fun v w'=>v=(match X41 s with | some d=>.tuple #[U64 (d:Nat),.bool true] | none=>.tuple #[U64 0,.bool false])/\Sat B w' I As:=by
 refine calls Tryz.func188 rfl Tryz.ntmps188 rfl (.seq (.q 2 rfl (.seq (.seq (.region (.run 3 rfl ⟨Qu9,trivial⟩ (.nil ?_)))))));refine .cond rfl (fun hb9=>?_) fun hb9=>?_
 ·have hc9:=hb9; simp only [Y6] at hc9;refine .seq (.q 2 rfl (.ret (X1t Xv7 rfl rfl ?_)));exact ⟨_,rfl,by rw [X41,if_neg (by omega)],hS⟩
 have hc9:=hb9; simp only [Y6] at hc9;refine .skip (.seq (.q 1 rfl (.seq (.seq (.region (.run 3 rfl ⟨Qu9,trivial⟩ (.nil (.block (.loop (σ:=Nat×Nat) (fun ⟨i,n⟩=>[(0,S s),(4,U64 (n:Nat)),(11,I64 (s.length:Nat)),(12,I64 (i:Nat))]) (fun ⟨i,n⟩ w=>i<=s.length/\hxS 0 (s.take i)=some n/\n<16 ^ i/\Sat B w I As) (fun ⟨i,n⟩=>s.length - i) (0,0) ⟨rfl,rfl,rfl,rfl,trivial⟩ ⟨Yo _,rfl,by decide,hS⟩ ?_)))))))));rintro ⟨i,n⟩ w ⟨hi,hn,hn16,hS⟩;refine .seq (.q 1 rfl (.seq ?_));refine .cond rfl (fun hb13=>?_) fun hb13=>?_
 ·have hc13:=hb13; simp only [Y6] at hc13;refine .skip (.seq (.block (.seq (.q 2 rfl (.seq (.region (.run 3 rfl ⟨⟨⟨by omega,by omega⟩,Qu9⟩,trivial⟩ (.call Qf229 rfl (ec9 rfl (ec9 rfl X0)) rfl (X4d HEXD (at_ s (i:Int)) _) ?_))))))));rintro _ _ ⟨rfl,rfl⟩;refine .q 1 rfl (.nil (.seq (.seq ?_)));have hxi:=hx_idx (at_ s (i:Int));refine .q 2 rfl (.cond rfl (fun hb20=>?_) fun hb20=>?_)
  ·have hc20:=hb20; simp only [Y6] at hc20;refine .seq (.q 2 rfl (.ret (X1t Xv7 rfl rfl ?_)));refine ⟨_,rfl,?_,hS⟩;have hdn:hx (at_ s (i:Int))=none:=by
    cases hd:hx (at_ s (i:Int)) with
    | none=>rfl
    | some d=>exfalso; rw [hd] at hxi; simp only at hxi; rw [hxi] at hb20; simp at hb20; omega
   rw [X41,if_pos (by omega),Xoi s i 0 (by omega) hdn]
  have hc20:=hb20; simp only [Y6] at hc20;refine .skip ?_;obtain ⟨d,hd⟩:∃ d,hx (at_ s (i:Int))=some d:=by
   cases hd:hx (at_ s (i:Int)) with
   | none=>exfalso; rw [hd] at hxi; simp only at hxi; rw [hxi] at hb20; simp at hb20
   | some d=>exact ⟨d,rfl⟩
  rw [hd] at hxi;simp only at hxi
  have hd16:=hx_lt hd;rw [hxi];have hn15:n<16 ^ 15:=Y2f hn16 (Y1w (by decide) (by omega));have hn60:n<1152921504606846976:=by simpa using hn15
  refine .t 1 rfl (.val (.shl (.of rfl) (.of rfl) (by decide) (by decide)) rfl ?_);rw [show IntKind.u64.wrap ((n:Int)*2 ^ (4:Int).toNat)=((16*n:Nat):Int) by rw [IntKind.wrap_u64]; simp; omega];refine .q 1 rfl (.val (.cvi (.of rfl) Qu3 Xn3 (by rw [IntKind.wrap_u64]; omega)) rfl (.val (.or64 (a:=16*n) (b:=d) (by omega) (by omega) (.of rfl) (.of rfl)) rfl ?_));rw [or_low hd16];refine .q 1 rfl (.nil (.region (.run 2 rfl ⟨⟨by omega,by omega⟩,trivial⟩ (.nil ?_))));refine ⟨(i+1,16*n+d),⟨rfl,rfl,rfl,rfl,trivial⟩,⟨by (try dsimp only); omega,Xsl (by omega) hn hd,?_,hS⟩,by (try dsimp only); omega⟩;rw [Y22]; omega
 have hc13:=hb13; simp only [Y6] at hc13;refine .exit (.seq (.q 3 rfl (.ret (X1t Xv7 rfl rfl ?_))));refine ⟨_,rfl,?_,hS⟩;rw [Yx (by omega)] at hn;rw [X41,if_pos (by omega),hn]
theorem Xei (s:List UInt8) (hs:s.length<=1000000) (B w:World) (I:Im) (hK:Known I) (hP:PreAt I) (As:List X7) (hS:Sat B w I As) :
  Cz 141 [S s] w fun v w'=>v=(match Xt s with | some (k,d)=>.tuple #[I64 (k:Nat),U64 (d:Nat),.bool true] | none=>.tuple #[I64 0,U64 0,.bool false])/\Sat B w' I As:=by
 refine calls Xmm rfl Tryz.ntmps141 rfl (.seq (.q 3 rfl (.seq (.t 1 rfl (.call Qf187 rfl (ec9 rfl (ec9 rfl X0)) rfl (Xc1 s 45 hs B _ I hK _ hS) ?_)))));rintro _ w ⟨rfl,hS⟩;refine .q 7 rfl (.nil (.seq (.t 1 rfl ?_)));refine .call Tryz.func188 rfl (ec9 rfl X0) rfl (Xiy _ (by have:=X2l [45] s; rw [Yg]; omega) B _ I _ hS) ?_;rintro _ w ⟨rfl,hS⟩;rcases hdr:X41 ((X6 [45] s).drop 1) with _ | d
 ·refine .vm rfl rfl (.q 4 rfl (.nil (.seq (.region (.val (Ex.slcArr (m:=7) (s:=1) (.of rfl) Xn0 Qs9) rfl (.q 1 rfl (.call Xk9 rfl (ec9 rfl (ec9 rfl X0)) rfl (X3u (some (ad 1 0)) 7 PREV (by decide) (upto [45] s) B _ I ⟨rfl,fun _=>⟨_,rfl,hP⟩⟩ As hS) ?_)))))));rintro _ w ⟨rfl,hS⟩;refine .q 1 rfl (.nil (.seq (.seq (.t 3 rfl (.gm rfl rfl rfl rfl (.gval rfl rfl (fun hg1=>(.lss (.gd hg1 rfl) (.of rfl))) rfl (.val (.po rfl rfl rfl) rfl (.nil ?_))))))));refine .cond rfl (fun hb30=>?_) fun hb30=>?_
  ·refine .seq (.q 3 rfl (.ret (Xap Xem rfl rfl rfl ?_)));refine ⟨_,rfl,?_,hS⟩
   have:Xt s=none:=by
    unfold Xt;split
    ·rfl
    ·rw [hdr]; rfl
   rw [this]
  refine .skip (.seq (.q 5 rfl (.ret (Xap Xem rfl rfl rfl ?_))));exfalso; simp at hb30
 refine .vm rfl rfl (.q 4 rfl (.nil (.seq (.region (.val (Ex.slcArr (m:=7) (s:=1) (.of rfl) Xn0 Qs9) rfl (.q 1 rfl (.call Xk9 rfl (ec9 rfl (ec9 rfl X0)) rfl (X3u (some (ad 1 0)) 7 PREV (by decide) (upto [45] s) B _ I ⟨rfl,fun _=>⟨_,rfl,hP⟩⟩ As hS) ?_)))))));rintro _ w ⟨rfl,hS⟩;refine .q 1 rfl (.nil (.seq (.seq (.t 3 rfl (.gm rfl rfl rfl rfl (.gval rfl rfl (fun hg1=>(.lss (.gd hg1 rfl) (.of rfl))) rfl (.val (.po rfl rfl rfl) rfl (.nil ?_))))))));refine .cond rfl (fun hb30=>?_) fun hb30=>?_
 ·refine .seq (.q 3 rfl (.ret (Xap Xem rfl rfl rfl ?_)));refine ⟨_,rfl,?_,hS⟩;have h0:=(X9k (upto [45] s)).2 (by simp at hb30; omega);rw [Xt,if_pos h0]
 refine .skip (.seq (.q 5 rfl (.ret (Xap Xem rfl rfl rfl ?_))));refine ⟨_,rfl,?_,hS⟩;obtain ⟨h0,h1⟩:=(X9k (upto [45] s)).1 (by simp at hb30; omega);rw [Xt,if_neg h0,hdr,h1];rfl
theorem Is_any (s:List UInt8) (kind:Int) (hs:s.length<=1000000) (B w:World) (I:Im) (hK:Known I) (hP:PreAt I) (As:List X7) (hS:Sat B w I As) :
  Cz 99 [S s,I64 kind] w fun v w'=>v=.bool (isT s kind)/\Sat B w' I As:=by
 refine calls Qf99 rfl Tryz.ntmps99 rfl (.seq (.q 1 rfl (.seq (.t 1 rfl (.call Xmm rfl (ec9 rfl X0) rfl (Xei s hs B _ I hK hP _ hS) ?_)))));rintro _ w ⟨rfl,hS⟩;rcases hps:Xt s with _ | ⟨k,d⟩
 ·refine .vm rfl rfl (.q 6 rfl (.nil (.seq (.t 2 rfl (.gm rfl rfl rfl rfl (.gm rfl rfl rfl rfl (.gval rfl rfl (fun hg1=>(.eql (.gd hg1 rfl) (.gd hg1 rfl))) rfl (.val (.pa rfl rfl rfl) rfl (.q 1 rfl (.nil (.ret (Xc Qr99 rfl ?_))))))))))));exact ⟨_,rfl,by rw [isT,hps]; rfl,hS⟩
 refine .vm rfl rfl (.q 6 rfl (.nil (.seq (.t 2 rfl (.gm rfl rfl rfl rfl (.gm rfl rfl rfl rfl (.gval rfl rfl (fun hg1=>(.eql (.gd hg1 rfl) (.gd hg1 rfl))) rfl (.val (.pa rfl rfl rfl) rfl (.q 1 rfl (.nil (.ret (Xc Qr99 rfl ?_))))))))))));exact ⟨_,rfl,by rw [isT,hps]; rfl,hS⟩
theorem X9q (kind of:Int) (w:World) :
  Cz 173 [I64 kind,I64 of] w fun v w'=>v=.bool (X73 kind of)/\w=w':=by
 refine calls Xqt rfl Tryz.ntmps173 rfl (.seq (.q 1 rfl (.seq (.seq (.q 1 rfl (.block (.seq (.block (.seq (.block (.block (.seq (.block (.seq (.block (.block (.seq (.seq (.seq (.q 2 rfl ?_))))))))))))))))))));refine .cond rfl (fun hb6=>?_) fun hb6=>?_
 ·refine .exit (.seq (.seq (.q 3 rfl (.ret (Xc Xgq rfl ?_)))));refine ⟨_,rfl,congrArg Value.bool ?_,rfl⟩;simp only [beq_iff_eq,beq_eq_false_iff_ne] at *
  (subst_vars; simp [X73]; done)
 refine .skip (.seq (.seq (.q 2 rfl ?_)));refine .cond rfl (fun hb8=>?_) fun hb8=>?_
 ·refine .exit (.seq (.seq (.q 3 rfl (.ret (Xc Xgq rfl ?_)))));refine ⟨_,rfl,congrArg Value.bool ?_,rfl⟩;simp only [beq_iff_eq,beq_eq_false_iff_ne] at *
  (subst_vars; simp [X73]; done)
 refine .skip (.seq (.seq (.q 2 rfl ?_)));refine .cond rfl (fun hb10=>?_) fun hb10=>?_
 ·refine .exit (.seq (.seq (.q 3 rfl (.ret (Xc Xgq rfl ?_)))));refine ⟨_,rfl,congrArg Value.bool ?_,rfl⟩;simp only [beq_iff_eq,beq_eq_false_iff_ne] at *
  (subst_vars; simp [X73]; done)
 refine .skip (.seq (.seq (.q 2 rfl ?_)));refine .cond rfl (fun hb12=>?_) fun hb12=>?_
 ·refine .exit (.seq (.seq (.q 3 rfl (.ret (Xc Xgq rfl ?_)))));refine ⟨_,rfl,congrArg Value.bool ?_,rfl⟩;simp only [beq_iff_eq,beq_eq_false_iff_ne] at *
  (subst_vars; simp [X73]; done)
 refine .skip (.seq (.seq (.q 2 rfl ?_)));refine .cond rfl (fun hb14=>?_) fun hb14=>?_
 ·refine .exit (.seq (.seq (.q 3 rfl (.ret (Xc Xgq rfl ?_)))));refine ⟨_,rfl,congrArg Value.bool ?_,rfl⟩;simp only [beq_iff_eq,beq_eq_false_iff_ne] at *
  (subst_vars; simp [X73]; done)
 refine .skip (.seq (.q 2 rfl ?_));refine .cond rfl (fun hb16=>?_) fun hb16=>?_
 ·refine .exit (.seq (.seq (.t 3 rfl (.gm rfl rfl rfl rfl (.gval rfl rfl (fun hg1=>(.eql (.gd hg1 rfl) (.of rfl))) rfl (.val (.po rfl rfl rfl) rfl (.q 1 rfl (.nil (.ret (Xc Xgq rfl ?_))))))))));refine ⟨_,rfl,congrArg Value.bool ?_,rfl⟩;simp only [beq_iff_eq,beq_eq_false_iff_ne] at *
  (subst_vars; simp [X73]; done)
 refine .skip (.exit (.seq (.q 1 rfl (.ret (Xc Xgq rfl ?_)))));refine ⟨_,rfl,congrArg Value.bool ?_,rfl⟩;simp only [beq_iff_eq,beq_eq_false_iff_ne] at *
 (simp [X73, *]; done)
theorem Xlj (kind:Int) (s:List UInt8) (hs:s.length<=1000000) (B w:World) (I:Im) (hK:Known I) (hP:PreAt I) (As:List X7) (hS:Sat B w I As) :
  Cz 123 [I64 kind,S s] w fun v w'=>v=.bool (X3n kind s)/\Sat B w' I As:=by
 refine calls Tryz.func123 rfl Tryz.ntmps123 rfl (.seq (.q 1 rfl (.seq (.seq (.q 2 rfl ?_)))));refine .cond rfl (fun hb9=>?_) fun hb9=>?_
 ·refine .seq (.t 1 rfl (.call Xqt rfl (ec9 rfl (ec9 rfl X0)) rfl (X9q kind 0 _) ?_));rintro _ _ ⟨rfl,rfl⟩;refine .q 1 rfl (.nil (.ret (Xc Xv0 rfl ?_)));exact ⟨_,rfl,by rw [X3n,if_pos (by simpa using hb9)],hS⟩
 refine .skip (.seq (.t 1 rfl (.call Xmm rfl (ec9 rfl X0) rfl (Xei s hs B _ I hK hP _ hS) ?_)));rintro _ w ⟨rfl,hS⟩;rcases hps:Xt s with _ | ⟨k,d⟩
 ·refine .vm rfl rfl (.q 6 rfl (.nil (.seq (.t 2 rfl (.gm rfl rfl rfl rfl (.gm rfl rfl rfl rfl (.gcall (T:=fun w=>Sat B w I As) rfl rfl rfl Xqt rfl (fun hg1=>(Xd (.gd hg1 rfl) (Xd (.gd hg1 rfl) X0))) rfl (fun hg1=>X4m (X9q _ _ w) hS) hS ?_)))))));rintro w hS;refine .val (.pa rfl rfl rfl) rfl (.q 1 rfl (.nil (.ret (Xc Xv0 rfl ?_))));exact ⟨_,rfl,by rw [X3n,if_neg (by simpa using hb9),hps]; rfl,hS⟩
 refine .vm rfl rfl (.q 6 rfl (.nil (.seq (.t 2 rfl (.gm rfl rfl rfl rfl (.gm rfl rfl rfl rfl (.gcall (T:=fun w=>Sat B w I As) rfl rfl rfl Xqt rfl (fun hg1=>(Xd (.gd hg1 rfl) (Xd (.gd hg1 rfl) X0))) rfl (fun hg1=>X4m (X9q _ _ w) hS) hS ?_)))))));rintro w hS;refine .val (.pa rfl rfl rfl) rfl (.q 1 rfl (.nil (.ret (Xc Xv0 rfl ?_))));exact ⟨_,rfl,by rw [X3n,if_neg (by simpa using hb9),hps]; rfl,hS⟩
def X5 (r:Rec):List Value:=[I64 r.kind,S r.name,S r.parent,S r.user,S r.service,S r.url,I64 r.made,I64 r.used,I64 r.uses,.bool r.fresh]
theorem Xn7 (r:Rec) (hn:r.name.length<=1000000) (hp:r.parent.length<=1000000) (B w:World) (I:Im) (hK:Known I) (hP:PreAt I) (As:List X7) (hS:Sat B w I As) :
  Cz 82 [.agg (X5 r).toArray] w fun v w'=>v=.bool (Xw r)/\Sat B w' I As:=by
 refine calls Tryz.func82 rfl Tryz.ntmps82 rfl (.seq (.region (.boxA (cs:=[_,_,_,_,_,_,_,_,_,_]) hS (.of rfl) rfl ?_)));intro b1 w hS;refine .q 1 rfl (.nil (.seq (.region ?_)));refine .val (.fo 3 rfl X27 rfl rfl Qs9 rfl) rfl (.val (.lo rfl hS (k:=0) rfl Qg9 rfl) rfl (.run 3 rfl ⟨Qu9,trivial⟩ ?_));refine .gval rfl rfl (fun hg1=>(by exact .fo 4 rfl X27 rfl rfl Qs9 rfl)) rfl ?_;refine .gval rfl rfl (fun hg1=>(.ld (.gd hg1 rfl) hS (k:=0) rfl Qg9 rfl)) rfl (.gval rfl rfl (fun hg1=>(.len (.gd hg1 rfl) Qu9)) rfl (.gval rfl rfl (fun hg1=>(.leq (.gd hg1 rfl) (.of rfl))) rfl (.val (.pa rfl rfl rfl) rfl (.q 1 rfl ?_))));refine .gval rfl rfl (fun hg1=>(by exact .fo 5 rfl X27 rfl rfl Qs9 rfl)) rfl ?_;refine .gval rfl rfl (fun hg1=>(.ld (.gd hg1 rfl) hS (k:=0) rfl Qg9 rfl)) rfl (.gval rfl rfl (fun hg1=>(.len (.gd hg1 rfl) Qu9)) rfl (.gval rfl rfl (fun hg1=>(.leq (.gd hg1 rfl) (.of rfl))) rfl (.val (.pa rfl rfl rfl) rfl (.q 1 rfl (.nil (.seq (.region ?_)))))));refine .val (.fo 6 rfl X27 rfl rfl Qs3 rfl) rfl (.val (.lo rfl hS (k:=0) rfl Qg3 rfl) rfl (.q 2 rfl ?_));refine .gval rfl rfl (fun hg1=>(by exact .fo 7 rfl X27 rfl rfl Qs3 rfl)) rfl ?_;refine .gval rfl rfl (fun hg1=>(.ld (.gd hg1 rfl) hS (k:=0) rfl Qg3 rfl)) rfl (.gval rfl rfl (fun hg1=>(by exact .fo 6 rfl X27 rfl rfl Qs3 rfl)) rfl ?_);refine .gval rfl rfl (fun hg1=>(.ld (.gd hg1 rfl) hS (k:=0) rfl Qg3 rfl)) rfl (.gval rfl rfl (fun hg1=>(.geq (.gd hg1 rfl) (.gd hg1 rfl))) rfl (.val (.pa rfl rfl rfl) rfl (.q 1 rfl ?_)));refine .gval rfl rfl (fun hg1=>(by exact .fo 7 rfl X27 rfl rfl Qs3 rfl)) rfl ?_;refine .gval rfl rfl (fun hg1=>(.ld (.gd hg1 rfl) hS (k:=0) rfl Qg3 rfl)) rfl (.gval rfl rfl (fun hg1=>(.leq (.gd hg1 rfl) (.of rfl))) rfl (.val (.pa rfl rfl rfl) rfl (.q 1 rfl ?_)));refine .gval rfl rfl (fun hg1=>(by exact .fo 8 rfl X27 rfl rfl Qs3 rfl)) rfl ?_;refine .gval rfl rfl (fun hg1=>(.ld (.gd hg1 rfl) hS (k:=0) rfl Qg3 rfl)) rfl (.gval rfl rfl (fun hg1=>(.geq (.gd hg1 rfl) (.of rfl))) rfl (.val (.pa rfl rfl rfl) rfl (.q 1 rfl ?_)));refine .gval rfl rfl (fun hg1=>(by exact .fo 8 rfl X27 rfl rfl Qs3 rfl)) rfl ?_;refine .gval rfl rfl (fun hg1=>(.ld (.gd hg1 rfl) hS (k:=0) rfl Qg3 rfl)) rfl (.gval rfl rfl (fun hg1=>(.leq (.gd hg1 rfl) (.of rfl))) rfl (.val (.pa rfl rfl rfl) rfl (.q 1 rfl (.nil (.seq (.t 2 rfl (.gm rfl rfl rfl rfl (.val (.pa rfl rfl rfl) rfl (.q 1 rfl ?_)))))))));refine .gval rfl rfl (fun hg1=>(by exact .fo 1 rfl X27 rfl rfl Qs9 rfl)) rfl ?_;refine .gval rfl rfl (fun hg1=>(.ld (.gd hg1 rfl) hS (k:=0) rfl Qg9 rfl)) rfl (.gval rfl rfl (fun hg1=>(by exact .fo 0 rfl X27 rfl rfl Qs3 rfl)) rfl ?_);refine .gval rfl rfl (fun hg1=>(.ld (.gd hg1 rfl) hS (k:=0) rfl Qg3 rfl)) rfl (.gcall (T:=fun w=>Sat B w I (blk b1 [I64 r.kind,S r.name,S r.parent,S r.user,S r.service,S r.url,I64 r.made,I64 r.used,I64 r.uses,.bool r.fresh] 75::As)) rfl rfl rfl Qf99 rfl (fun hg1=>(Xd (.gd hg1 rfl) (Xd (.gd hg1 rfl) X0))) rfl (fun hg1=>Is_any r.name r.kind hn B _ I hK hP _ hS) hS ?_);rintro w hS;refine .val (.pa rfl rfl rfl) rfl (.q 1 rfl ?_);refine .gval rfl rfl (fun hg1=>(by exact .fo 0 rfl X27 rfl rfl Qs3 rfl)) rfl ?_;refine .gval rfl rfl (fun hg1=>(.ld (.gd hg1 rfl) hS (k:=0) rfl Qg3 rfl)) rfl (.gval rfl rfl (fun hg1=>(by exact .fo 2 rfl X27 rfl rfl Qs9 rfl)) rfl ?_);refine .gval rfl rfl (fun hg1=>(.ld (.gd hg1 rfl) hS (k:=0) rfl Qg9 rfl)) rfl (.gcall (T:=fun w=>Sat B w I (blk b1 [I64 r.kind,S r.name,S r.parent,S r.user,S r.service,S r.url,I64 r.made,I64 r.used,I64 r.uses,.bool r.fresh] 75::As)) rfl rfl rfl Tryz.func123 rfl (fun hg1=>(Xd (.gd hg1 rfl) (Xd (.gd hg1 rfl) X0))) rfl (fun hg1=>Xlj r.kind r.parent hp B _ I hK hP _ hS) hS ?_);rintro w hS;refine .val (.pa rfl rfl rfl) rfl (.q 1 rfl (.nil (.ret (Xc Tryz.results82 rfl ?_))));exact ⟨_,rfl,rfl,hS.y 0 1⟩
end Go.Proofs.YtbciobiiejpdgaaGreatDoor
namespace Gk
open Go Go.RowKit Go.WideShapes Go.ChangeShapes
def im0 (W:World):Im:=fun b=>W.heap[b]?
theorem sat0 (W:World):Sat W W (im0 W) []:=⟨[],rfl,rfl,rfl,rfl,fun _ _ h=>h,fun _ _ h=>by simp at h,List.nodup_nil,fun _ _ h=>by simp at h⟩
theorem Sat.below {W w:World} {I:Im} {As:List X7} (hS:Sat W w I As) (hl:Le (im0 W) I):Below W.heap.size W w:=by
 obtain ⟨h,_,g⟩:=hS;have hb:∀ k,k<W.heap.size->w.heap[k]?=W.heap[k]?:=fun k hk=>by
  rw [Y19 hk];exact g.imm k _ (hl k _ (Y19 hk))
 refine ⟨g.os,g.tape,g.output,?_,hb⟩;rcases Y1v W.heap.size with h0 | h0
 ·omega
 ·have h1:=hb (W.heap.size - 1) (by omega);rw [Y19 (show W.heap.size - 1<W.heap.size by omega)] at h1
  have:=(Y1a.1 h1).1
  omega
theorem Xpe {H:Type} {enc:TypeId×Value->H} {P:Program} {f:Func} {s:ChangeSpec} {apart fresh handsOn:Bool} {W W':World} {args:Array Value} {v:Value} {ds gs:List (DataW H)} {before pa pv:List MemPlace}
  (hW:DataW.Whole enc P f.params.toList s.vars apart W args.toList ds gs before) (hb:Below W.heap.size W W')
  (hres:∀ (b:Nat) (sp:Nat->Bool) (hd:Bool),DataW.TrodAll enc P W' b sp hd f.resultTypes.toList (v.resultList f.resultTypes.size) (s.fn H (ds ++ gs)).results [])
  (hargs:DataW.TrodAll enc P W' 0 (fun b=>decide (b<W.heap.size)) true f.params.toList args.toList (s.fn H (ds ++ gs)).args pa)
  (hvars:DataW.TrodVars enc P W' (fun b=>decide (b<W.heap.size)) s.vars (s.fn H (ds ++ gs)).vars pv) (hps:before=pa ++ pv) :
  s.post enc P f apart fresh handsOn false W args v W':=by
 refine ⟨ds,gs,before,[],pa,pv,hW,hres _ _ _,hargs,hvars,World.keptBut_mono (fun p hp=>⟨hp,?_⟩) (hb.frame (·∈before)),fun h=>(by cases h)⟩;rw [hps,Y12] at hp;exact Or.inr hp
theorem X7l {c:Nat}:∀ (L:List (List Value)),(∀ l∈L,l.length=c)->L.flatten.length=L.length*c
 | [],_=>by simp
 | a::L,h=>by
  rw [Y1q,Y0,X7l L (fun l hl=>h l (by simp [hl])),h a (by simp),List.length_cons,Y31,Y4q]
theorem X5d {c:Nat}:∀ (L:List (List Value)),(∀ l∈L,l.length=c)->∀ (i r:Nat),r<c->L.flatten[i*c+r]?=(L[i]?).bind (·[r]?)
 | [],_,i,r,_=>by simp
 | a::L,h,0,r,hr=>by
  have ha:=h a (by simp);rw [Y1q,Y32,Yc,Yi (by omega)];rfl
 | a::L,h,i+1,r,hr=>by
  have ha:=h a (by simp);rw [Y1q,Y31,Yt (by omega),show i*c+c+r - a.length=i*c+r by omega,X5d L (fun l hl=>h l (by simp [hl])) i r hr];rfl
theorem X1f {c:Nat}:∀ (L:List (List Value)),(∀ l∈L,l.length=c)->∀ (i:Nat) (l:List Value),L[i]?=some l->(L.flatten.drop (i*c)).take c=l
 | [],_,i,l,h=>by simp at h
 | a::L,h,0,l,hl=>by
  have ha:=h a (by simp);simp at hl
  subst hl;rw [Y1q,Y32,Yh,<- ha,Y2d]
 | a::L,h,i+1,l,hl=>by
  have ha:=h a (by simp);rw [Y1q,Y31,Y4q,<- ha,<- Y1i,Y45,ha];exact X1f L (fun l hl=>h l (by simp [hl])) i l (by simpa using hl)
section
variable {H:Type} {enc:TypeId×Value->H} {P:Program} {W:World} {spare:Nat->Bool} {held:Bool}
theorem Xf0 {base n:Nat} {a:Addr} {vs:List Value} (h:W.cells? base a n=some vs):vs.length=n/\∀ i,i<n->W.cell? (a.add i)=vs[i]?:=by
 unfold World.cells? at h;split at h
 ·have hl:=Go.Lib.mapM_length h;rw [List.length_range] at hl;refine ⟨hl,fun i hi=>?_⟩;obtain ⟨b,h1,h2⟩:=Go.Lib.mapM_at h i i (Y50 hi);rw [h1,h2]
 ·cases h
theorem Xis {a:Addr} {xs:List Value} (hn:0<xs.length) (h:∀ j v,xs[j]?=some v->W.cell? (a.add j)=some v):At (im0 W) a xs:=by
 obtain ⟨ab,ao,sp⟩:=a;have h0:=h 0 xs[0] (Y4 hn);have hs:sp=none:=by simpa [Addr.add] using World.cell?_spot h0
 subst hs;have e:∀ j,(⟨ab,ao,none⟩:Addr).add j=⟨ab,ao+j,none⟩:=X15 ab ao;rw [e] at h0;unfold World.cell? at h0;split at h0
 ·rename_i arr E fr hb
  refine ⟨rfl,arr,E,fr,hb,fun j v hj=>?_⟩;have hc2:=h j v hj;rw [e] at hc2;unfold World.cell? at hc2;dsimp only at hb
  rw [hb] at hc2;simpa using hc2
 ·cases h0
theorem X7e {t e c fuel:Nat} {cs:List Value} {x:DataW H×List MemPlace} (ht:P.underlying t=some (.slice e)) (hc:P.cellsOf e=c) (hc0:0<c) (h:DataW.trod enc P W 0 spare held fuel t cs=some x) :
  ∃ (a:Option Addr) (cap:Nat) (L:List (List Value)) (n:Nat),cs=[.slice a L.length cap]/\L.length<=cap/\cap<=maxLen/\(∀ l∈L,l.length=c)/\RS (im0 W) a c L.length L.flatten/\∀ l∈L,∃ y,DataW.trod enc P W 0 spare held n e l=some y:=by
 rcases DataW.trod_slice ht h with ⟨rfl,_⟩ | ⟨a,len,cap,elems,rest,n,_,rfl,_,_,hl,hm,hlen,hel,_,_⟩
 ·exact ⟨none,0,[],0,rfl,Yq _,Yo _,fun _ h=>by simp at h,RS.nil _ _,fun _ h=>by simp at h⟩
 ·rw [hc] at hel;have each:∀ i,i<len->∃ l,W.cells? 0 (a.add (i*c)) c=some l/\∃ y,DataW.trod enc P W 0 spare held n e l=some y:=fun i hi=>by
   have h1:=hel i hi;rw [Y4 (by omega)] at h1;obtain ⟨l,h2,h3⟩:=Y2e.1 h1;exact ⟨l,h2,_,h3⟩
  let L:=(List.range len).map fun i=>(W.cells? 0 (a.add (i*c)) c).getD []
  have hL:∀ i,i<len->∃ l,L[i]?=some l/\W.cells? 0 (a.add (i*c)) c=some l/\∃ y,DataW.trod enc P W 0 spare held n e l=some y:=fun i hi=>by
   obtain ⟨l,h1,h2⟩:=each i hi;refine ⟨l,?_,h1,h2⟩;simp only [L,Yu,Y50 hi,Y3y,h1,Y2z]
  have hLl:L.length=len:=by simp [L]
  have hmem:∀ l∈L,∃ i,i<len/\L[i]?=some l:=fun l hl=>by
   obtain ⟨i,hi⟩:=Yy.1 hl;exact ⟨i,by have:=(Y5.1 hi).1; omega,hi⟩
  have hlc:∀ l∈L,l.length=c:=fun l hl=>by
   obtain ⟨i,hi,e1⟩:=hmem l hl;obtain ⟨l',e2,h2,_⟩:=hL i hi;rw [e1] at e2; cases e2;exact (Xf0 h2).1
  refine ⟨some a,cap,L,n,by rw [hLl],by rw [hLl]; exact hl,hm,hlc,⟨X7l L hlc,fun hn=>⟨a,rfl,Xis ?_ fun j v hj=>?_⟩⟩,fun l hl=>?_⟩
  ·rw [X7l L hlc]; exact Nat.mul_pos hn hc0
  ·have hjl:j<L.length*c:=by rw [<- X7l L hlc]; exact (Y5.1 hj).1
   have hq:j / c<len:=by rw [<- hLl]; exact Nat.div_lt_of_lt_mul (by rw [Y2g]; exact hjl)
   have hr:j % c<c:=Y2p _ hc0;have ej:j=j / c*c+j % c:=by rw [Y2g]; exact (Y3w j c).symm
   obtain ⟨l,e1,e2,_⟩:=hL (j / c) hq;rw [ej,X5d L hlc _ _ hr,e1] at hj
   have:=(Xf0 e2).2 (j % c) hr
   rw [ej,show a.add (j / c*c+j % c)=(a.add (j / c*c)).add (j % c) by rw [Addr.add_add]];rw [this]; exact hj
  ·obtain ⟨i,hi,e1⟩:=hmem l hl;obtain ⟨l',e2,_,y⟩:=hL i hi;rw [e1] at e2; cases e2;exact y
theorem Xli {t e fuel:Nat} {cs:List Value} {x:DataW H×List MemPlace} (ht:P.underlying t=some (.slice e)) (he:P.underlying e=some .string) (hc:P.cellsOf e=1) (h:DataW.trod enc P W 0 spare held fuel t cs=some x) :
  ∃ (a:Option Addr) (cap:Nat) (l:List (List UInt8)),cs=[.slice a l.length cap]/\l.length<=cap/\cap<=maxLen/\RS (im0 W) a 1 l.length (l.map S)/\∀ s∈l,s.length<=maxLen:=by
 obtain ⟨a,cap,L,n,rfl,h1,h2,h3,h4,h5⟩:=X7e ht hc (by decide) h;have each:∀ l∈L,∃ s:ByteArray,l=[.string s]/\s.size<=maxLen:=fun l hl=>by
  obtain ⟨y,hy⟩:=h5 l hl;obtain ⟨s,rfl,_,hs⟩:=DataW.trod_string he hy;exact ⟨s,rfl,hs⟩
 have key:∀ L:List (List Value),(∀ l∈L,∃ s:ByteArray,l=[.string s]/\s.size<=maxLen)->∃ ts:List (List UInt8),ts.length=L.length/\L.flatten=ts.map S/\∀ s∈ts,s.length<=maxLen:=by
  intro L
  induction L with
  | nil=>intro _; exact ⟨[],rfl,rfl,fun _ h=>by simp at h⟩
  | cons l L ih =>
   intro h;obtain ⟨s,rfl,hs⟩:=h l (by simp);obtain ⟨ts,e1,e2,e3⟩:=ih (fun l hl=>h l (by simp [hl]));refine ⟨s.data.toList::ts,by simp [e1],?_,fun u hu=>?_⟩
   ·rw [Y1q,e2]; rfl
   ·rcases Y17.1 hu with e | e
    ·subst e; exact hs
    ·exact e3 u e
 obtain ⟨ts,e1,e2,e3⟩:=key L each;rw [e2,<- e1] at h4;exact ⟨a,cap,ts,by rw [e1],by rw [e1]; exact h1,h2,h4,e3⟩
end
end Gk
namespace Go.Proofs.YtbciobiiejpdgaaGreatDoor
open Gk Go.RowKit Go.WideShapes Go.ChangeShapes
theorem X4q {H:Type} {enc:TypeId×Value->H} {P:Program} {w:World} {base:Nat} {spare:Nat->Bool} {held:Bool} {fuel:Nat} {t:TypeId} {cs:List Value} {x:DataW H×List MemPlace} (ht:P.underlying t=some (.float .f64)) (h:DataW.trod enc P w base spare held fuel t cs=some x):∃ b,cs=[.float .f64 b]/\(Lit.float .f64 b).wf=true:=by
 cases fuel with
 | zero=>simp [DataW.trod] at h
 | succ n =>
  unfold DataW.trod at h;rw [ht] at h;split at h <;> simp_all
structure Sv where
 id:Int
 ord:Nat
 urls:List UInt8
 login:Bool
 proxy:Bool
 back:Bool
 calls:List UInt8
 rel:List (List UInt8)
def X1o (s:Sv) (a:Option Addr) (c:Nat):List Value:=[I64 s.id,F64 s.ord,S s.urls,.bool s.login,.bool s.proxy,.bool s.back,S s.calls,.slice a s.rel.length c]
def SvAt (I:Im) (s:Sv) (l:List Value):Prop:=∃ a c,l=X1o s a c/\s.rel.length<=c/\RS I a 1 s.rel.length (s.rel.map S)
theorem SvAt.mono {I J:Im} {s:Sv} {l:List Value} (h:SvAt I s l) (hl:Le I J):SvAt J s l:=by
 obtain ⟨a,c,e,h1,h2⟩:=h;exact ⟨a,c,e,h1,h2.mono hl⟩
structure Sv.fits (s:Sv):Prop where
 id:-9223372036854775808<=s.id/\s.id<=9223372036854775807
 ord:s.ord<18446744073709551616
 urls:s.urls.length<=maxLen
 calls:s.calls.length<=maxLen
 rel:s.rel.length<=maxLen/\∀ x∈s.rel,x.length<=maxLen
set_option maxRecDepth 100000 in
theorem Xte {H:Type} {enc:TypeId×Value->H} {W:World} {spare:Nat->Bool} {held:Bool} {fuel:Nat} {cs:List Value} {x:DataW H×List MemPlace} (h:DataW.trod enc Tryz.prog W 0 spare held fuel 105 cs=some x):∃ s:Sv,SvAt (im0 W) s cs/\s.fits:=by
 obtain ⟨xs,n,_,_,hcl,hxl,hf⟩:=DataW.trod_struct X2d h;rw [show Tryz.prog.cellsOf 105=8 from by kernel_rfl] at hcl;obtain ⟨y0,hy0⟩:∃ y,DataW.trod enc Tryz.prog W 0 spare held n 3 ((cs.drop 0).take (Tryz.prog.cellsOf 3))=some y:=⟨_,(hf 0 _ rfl).trans (Y4 (by rw [hxl]; decide))⟩
 rw [show Tryz.prog.cellsOf 3=1 from by kernel_rfl] at hy0;obtain ⟨y1,hy1⟩:∃ y,DataW.trod enc Tryz.prog W 0 spare held n 27 ((cs.drop 1).take (Tryz.prog.cellsOf 27))=some y:=⟨_,(hf 1 _ rfl).trans (Y4 (by rw [hxl]; decide))⟩
 rw [show Tryz.prog.cellsOf 27=1 from by kernel_rfl] at hy1;obtain ⟨y2,hy2⟩:∃ y,DataW.trod enc Tryz.prog W 0 spare held n 9 ((cs.drop 2).take (Tryz.prog.cellsOf 9))=some y:=⟨_,(hf 2 _ rfl).trans (Y4 (by rw [hxl]; decide))⟩
 rw [show Tryz.prog.cellsOf 9=1 from by kernel_rfl] at hy2;obtain ⟨y3,hy3⟩:∃ y,DataW.trod enc Tryz.prog W 0 spare held n 4 ((cs.drop 3).take (Tryz.prog.cellsOf 4))=some y:=⟨_,(hf 3 _ rfl).trans (Y4 (by rw [hxl]; decide))⟩
 rw [show Tryz.prog.cellsOf 4=1 from by kernel_rfl] at hy3;obtain ⟨y4,hy4⟩:∃ y,DataW.trod enc Tryz.prog W 0 spare held n 4 ((cs.drop 4).take (Tryz.prog.cellsOf 4))=some y:=⟨_,(hf 4 _ rfl).trans (Y4 (by rw [hxl]; decide))⟩
 rw [show Tryz.prog.cellsOf 4=1 from by kernel_rfl] at hy4;obtain ⟨y5,hy5⟩:∃ y,DataW.trod enc Tryz.prog W 0 spare held n 4 ((cs.drop 5).take (Tryz.prog.cellsOf 4))=some y:=⟨_,(hf 5 _ rfl).trans (Y4 (by rw [hxl]; decide))⟩
 rw [show Tryz.prog.cellsOf 4=1 from by kernel_rfl] at hy5;obtain ⟨y6,hy6⟩:∃ y,DataW.trod enc Tryz.prog W 0 spare held n 9 ((cs.drop 6).take (Tryz.prog.cellsOf 9))=some y:=⟨_,(hf 6 _ rfl).trans (Y4 (by rw [hxl]; decide))⟩
 rw [show Tryz.prog.cellsOf 9=1 from by kernel_rfl] at hy6;obtain ⟨y7,hy7⟩:∃ y,DataW.trod enc Tryz.prog W 0 spare held n 87 ((cs.drop 7).take (Tryz.prog.cellsOf 87))=some y:=⟨_,(hf 7 _ rfl).trans (Y4 (by rw [hxl]; decide))⟩
 rw [show Tryz.prog.cellsOf 87=1 from by kernel_rfl] at hy7;obtain ⟨v0,v1,v2,v3,v4,v5,v6,v7,rfl⟩:∃ v0 v1 v2 v3 v4 v5 v6 v7,cs=[v0,v1,v2,v3,v4,v5,v6,v7]:=by
  match cs,hcl with
  | [a,b,c,d,e,f,g,h],_=>exact ⟨a,b,c,d,e,f,g,h,rfl⟩
 simp only [Y7,Yh,Y1l,Yk] at hy0 hy1 hy2 hy3 hy4 hy5 hy6 hy7
 obtain ⟨z0,e0,_,w0⟩:=DataW.trod_int Qu3 hy0;obtain ⟨z1,e1,w1⟩:=X4q Qu27 hy1;obtain ⟨z2,e2,_,w2⟩:=DataW.trod_string Qu9 hy2;obtain ⟨z3,e3,_⟩:=DataW.trod_bool Qu4 hy3;obtain ⟨z4,e4,_⟩:=DataW.trod_bool Qu4 hy4;obtain ⟨z5,e5,_⟩:=DataW.trod_bool Qu4 hy5;obtain ⟨z6,e6,_,w6⟩:=DataW.trod_string Qu9 hy6;obtain ⟨a,c,l,e7,h1,h2,h3,h4⟩:=Xli X1u Qu9 (by kernel_rfl) hy7;simp only [List.cons.injEq,and_true] at e0 e1 e2 e3 e4 e5 e6 e7
 subst e0 e1 e2 e3 e4 e5 e6 e7;refine ⟨⟨z0,z1,z2.data.toList,z3,z4,z5,z6.data.toList,l⟩,⟨a,c,rfl,h1,h3⟩,⟨?_,of_decide_eq_true (show decide (z1<18446744073709551616)=true from w1),w2,w6,by (try dsimp only); omega,h4⟩⟩;have h0:=w0;simp only [Lit.wf,Yn,decide_eq_true_eq] at h0
 exact ⟨h0.1,h0.2⟩
theorem Xp7 {H:Type} {enc:TypeId×Value->H} {W:World} {spare:Nat->Bool} {held:Bool} {fuel:Nat} {cs:List Value} {x:DataW H×List MemPlace} (h:DataW.trod enc Tryz.prog W 0 spare held fuel 22 cs=some x) :
  ∃ (a:Option Addr) (cap:Nat) (L:List (List Value)) (l:List Sv),cs=[.slice a L.length cap]/\L.length<=cap/\cap<=maxLen/\L.length=l.length/\(∀ c∈L,c.length=8)/\RS (im0 W) a 8 L.length L.flatten/\∀ (i:Nat) (s:Sv),l[i]?=some s->s.fits/\∃ c,L[i]?=some c/\SvAt (im0 W) s c:=by
 obtain ⟨a,cap,L,n,rfl,h1,h2,h3,h4,h5⟩:=X7e (c:=8) X9b (by kernel_rfl) (by decide) h;have key:∀ L:List (List Value),(∀ l∈L,∃ y,DataW.trod enc Tryz.prog W 0 spare held n 105 l=some y)->∃ l:List Sv,L.length=l.length/\∀ (i:Nat) (s:Sv),l[i]?=some s->s.fits/\∃ c,L[i]?=some c/\SvAt (im0 W) s c:=by
  intro L
  induction L with
  | nil=>intro _; exact ⟨[],rfl,fun i s h=>by simp at h⟩
  | cons c L ih =>
   intro h;obtain ⟨y,hy⟩:=h c (by simp);obtain ⟨s,hs,hf⟩:=Xte hy;obtain ⟨l,e1,e2⟩:=ih (fun c hc=>h c (by simp [hc]));refine ⟨s::l,by simp [e1],fun i u hu=>?_⟩;cases i with
   | zero=>simp at hu; subst hu; exact ⟨hf,c,rfl,hs⟩
   | succ i=>simpa using e2 i u (by simpa using hu)
 obtain ⟨l,e1,e2⟩:=key L h5;exact ⟨a,cap,L,l,rfl,h1,h2,e1,h3,h4,e2⟩
def SvsAt (I:Im) (a:Option Addr) (l:List Sv):Prop:=∀ (i:Nat) (s:Sv),l[i]?=some s->∃ p ra rc,a=some p/\At I (p.add (i*8)) (X1o s ra rc)/\s.rel.length<=rc/\RS I ra 1 s.rel.length (s.rel.map S)
theorem SvsAt.mono {I J:Im} {a:Option Addr} {l:List Sv} (h:SvsAt I a l) (hl:Le I J):SvsAt J a l:=fun i s hs=>by
 obtain ⟨p,ra,rc,e,h1,h2,h3⟩:=h i s hs;exact ⟨p,ra,rc,e,h1.mono hl,h2,h3.mono hl⟩
theorem X50 {I:Im} {p:Addr} {vs:List Value} (h:At I p vs) (n:Nat):At I p (vs.take n):=by
 obtain ⟨h1,arr,E,fr,h2,h3⟩:=h;refine ⟨h1,arr,E,fr,h2,fun j v hj=>?_⟩;rw [Y1r] at hj;split at hj
 ·exact h3 j v hj
 ·cases hj
theorem svs_of {I:Im} {a:Option Addr} {L:List (List Value)} {l:List Sv} (h8:∀ c∈L,c.length=8) (hR:RS I a 8 L.length L.flatten) (h:∀ (i:Nat) (s:Sv),l[i]?=some s->∃ c,L[i]?=some c/\SvAt I s c):SvsAt I a l:=fun i s hs=>by
 obtain ⟨c,hc,ra,rc,rfl,h1,h2⟩:=h i s hs;obtain ⟨p,rfl,hp⟩:=hR.2 (by have:=(Y5.1 hc).1; omega);have h3:=X50 (hp.add (i*8)) 8;rw [X1f L h8 i _ hc] at h3;exact ⟨p,ra,rc,rfl,h3,h1,h2⟩
end Go.Proofs.YtbciobiiejpdgaaGreatDoor
namespace Go.Proofs.YtbciobiiejpdgaaGreatDoor
open Gk Pc Ul Pat
theorem Xu:Bld Tryz.prog 213 [(0,1),(1,1),(2,1),(3,1),(4,1),(5,1)] [S [],S [],.int .i64 0,S [],S [],.bool false]:=X23 X26 Xgv (fun w=>by simp [go_sem])
theorem X88 (n:Nat) (h:n<=65535):(Go.Lib.decDigits n).length<=5:=by
 rw [Go.Lib.decDigits_length];have step:∀ k m,m<10 ^ (k+1)->Go.Lib.nDigits m<=k+1:=by
  intro k
  induction k with
  | zero=>intro m hm; rw [Go.Lib.nDigits_small (by simpa using hm)]; exact Yq _
  | succ k ih =>
   intro m hm
   by_cases h10:m<10
   ·rw [Go.Lib.nDigits_small h10]; omega
   ·rw [Go.Lib.nDigits_big h10]
    have:=ih (m / 10) (by rw [Y22] at hm; omega)
    omega
 exact step 4 n (by omega)
theorem Xig (u:U) (hu:X8t u) (B w:World) (I:Im) (hK:Known I) (As:List X7) (hS:Sat B w I As) :
  Cz 221 [.agg [S u.sch,S u.host,I64 (u.port:Nat),S u.path,S u.query,.bool u.ask].toArray] w fun v w'=>v=S (X7f u)/\Sat B w' I As:=by
 refine calls Tryz.func221 rfl Tryz.ntmps221 rfl (.seq (.region (.boxA (cs:=[_,_,_,_,_,_]) hS (.of rfl) rfl ?_)));intro b1 w hS;refine .q 1 rfl (.nil (.seq ?_));obtain ⟨hs1,hs2,hp,hs4,hs5⟩:=hu;have hd5:=X88 u.port hp;refine .region (.val (.fo 0 rfl X26 rfl rfl Qs9 rfl) rfl (.val (.lo rfl hS (k:=0) rfl Qg9 rfl) rfl ?_));refine .run 1 rfl ⟨by (try simp only [Y0,List.length_cons,List.length_nil]); omega,trivial⟩ (.val (.fo 1 rfl X26 rfl rfl Qs9 rfl) rfl (.val (.lo rfl hS (k:=0) rfl Qg9 rfl) rfl ?_));refine .run 2 rfl ⟨by (try simp only [Y0,List.length_cons,List.length_nil]); omega,trivial⟩ (.nil (.seq (.seq (.region (.val (.fo 2 rfl X26 rfl rfl Qs3 rfl) rfl (.val (.lo rfl hS (k:=0) rfl Qg3 rfl) rfl (.q 1 rfl (.nil ?_))))))));refine .cond rfl (fun hb12=>?_) fun hb12=>?_
 ·have hc12:=hb12; simp only [Y6] at hc12;refine .t 1 rfl (.val (.fo 2 rfl X26 rfl rfl Qs3 rfl) rfl (.val (.lo rfl hS (k:=0) rfl Qg3 rfl) rfl (.call Qf67 rfl (ec9 rfl X0) rfl (Xqn u.port hp B _ I hK _ hS) ?_)));rintro _ w ⟨rfl,hS⟩;refine .run 3 rfl ⟨by (try simp only [Y0,List.length_cons,List.length_nil]); omega,by (try simp only [Y0,List.length_cons,List.length_nil]); omega,trivial⟩ (.nil (.seq (.q 2 rfl (.ret (Xc Tryz.results221 rfl ?_)))));refine ⟨_,rfl,?_,hS.y 0 1⟩;rw [X7f,if_neg (by omega)];simp [Yd]
 have hc12:=hb12; simp only [Y6] at hc12;refine .skip (.seq (.q 2 rfl (.ret (Xc Tryz.results221 rfl ?_))));refine ⟨_,rfl,?_,hS.y 0 1⟩;rw [X7f,if_pos (by omega)];simp [Yd]
theorem Xcb (u:U) (hu:X8t u):(X7f u).length<=3000000:=by
 obtain ⟨hs1,hs2,hp,hs4,hs5⟩:=hu;have hd5:=X88 u.port hp;unfold X7f;split <;> simp only [Y0,List.length_cons,List.length_nil] <;> omega
theorem Xih (u:U) (hu:X8t u) (B w:World) (I:Im) (hK:Known I) (As:List X7) (hS:Sat B w I As) :
  Cz 176 [.agg [S u.sch,S u.host,I64 (u.port:Nat),S u.path,S u.query,.bool u.ask].toArray] w fun v w'=>v=S (Xxg u)/\Sat B w' I As:=by
 refine calls Tryz.func176 rfl Tryz.ntmps176 rfl (.seq (.region (.boxA (cs:=[_,_,_,_,_,_]) hS (.of rfl) rfl ?_)));clear hS; intro b1 w hS;refine .q 1 rfl (.nil (.seq ?_));have hol:=Xcb u hu;obtain ⟨hs1,hs2,hp,hs4,hs5⟩:=id hu;refine .dw (fun w=>∃ R,Sat B w I (blk b1 [S u.sch,S u.host,I64 (u.port:Nat),S u.path,S u.query,.bool u.ask] 213::R)) (fun j=>!([].contains j)) ?_;replace hS:=hS.drew; generalize w.drew=w at hS ⊢;have hH:=(hS.x [0])
 refine .tk 0 rfl ⟨_,hH⟩ (fun w ⟨R,hS⟩=>(.ldsW (cs:=[_,_,_,_,_,_]) (.of rfl) hS (k:=0) rfl X2s X14 rfl)) (.tp 2 rfl (fun w=>(.fo 3 rfl X26 rfl rfl Qs9 rfl)) (.tk 3 rfl ⟨_,hH⟩ (fun w ⟨R,hS⟩=>(.lo rfl hS (k:=0) rfl Qg9 rfl)) ?_));refine .b1 1 rfl (.call Tryz.func221 rfl (ec9 rfl X0) rfl (Xig u hu B _ I hK _ hS) ?_);clear hS;rintro _ w ⟨rfl,hS⟩;refine .nil ?_;clear hH;have hH:=(hS.x [0])
 refine ⟨fun _ _=>⟨_,hH⟩,?_⟩;refine .tp 4 rfl (fun w=>(.cat (.of rfl) (.of rfl) (by (try simp only [Y0,List.length_cons,List.length_nil]); omega))) (.tp 5 rfl (fun w=>(.ao rfl)) (.dn (.seq (.seq (.region (.val (.fo 5 rfl X26 rfl rfl Qs4 rfl) rfl (.val (.lo rfl hS (k:=0) rfl Qg4 rfl) rfl (.nil ?_))))))));refine .cond rfl (fun hb10=>?_) fun hb10=>?_
 ·have hc10:=hb10; try simp only [Y6] at hc10
  refine .t 1 rfl (.val (.fo 4 rfl X26 rfl rfl Qs9 rfl) rfl (.val (.lo rfl hS (k:=0) rfl Qg9 rfl) rfl ?_));refine .run 3 rfl ⟨by (try simp only [Y0,List.length_cons,List.length_nil]); omega,by (try simp only [Y0,List.length_cons,List.length_nil]); omega,trivial⟩ (.nil (.seq (.q 2 rfl (.ret (Xc Tryz.results176 rfl ?_)))));refine ⟨_,rfl,?_,hS.y 0 1⟩;rw [Xxg,if_pos hc10];simp [Yd]
 have hc10:=hb10; try simp only [Y6] at hc10
 refine .skip (.seq (.q 2 rfl (.ret (Xc Tryz.results176 rfl ?_))));refine ⟨_,rfl,?_,hS.y 0 1⟩;rw [Xxg,if_neg (by rw [hc10]; decide),Y9]
theorem Xo4 (s sep:List UInt8):(Go.Lib.cut s sep).1.length<=s.length/\(Go.Lib.cut s sep).2.1.length<=s.length:=by
 unfold Go.Lib.cut;split
 ·simp only [Yr,Yg]; omega
 ·simp
theorem Xmb (s:List UInt8) (hs:s.length<=1000000) (B w:World) (I:Im) (hK:Known I) (As:List X7) (hS:Sat B w I As):Calls Tryz.prog 187 [S s,S SIGN].toArray w (Ret fun v w'=>∃ sc rs ok,v=.tuple #[S sc,S rs,.bool ok]/\X1y s=(if ok=true/\(low sc=Xl9\/low sc=X7a) then some (low sc,rs) else none)/\sc.length<=s.length/\rs.length<=s.length/\Sat B w' I As) :=
 (Xgi s hs B w I hK As hS).mono fun e w' he=>by
  obtain ⟨v,rfl,rfl,h⟩:=he;obtain ⟨h1,h2⟩:=Xo4 s SIGN;exact ⟨_,rfl,_,_,_,rfl,Xlt s,h1,h2,h⟩
theorem Xpb {s t:List UInt8} (h:X22 s=some t):t.length<=s.length:=by
 unfold X22 at h;split at h
 ·exact Xdj s t h
 ·cases h
theorem Xji (s:List UInt8) (hl:s.length<=1000000) (B w:World) (I:Im) (hK:Known I) (As:List X7) (hS:Sat B w I As):Calls Tryz.prog 219 [S s].toArray w (Ret fun v w'=>∃ n1 e1,v=.tuple #[S n1,I64 e1]/\(match X22 s with | none=>n1=[]/\e1=15 | some t=>n1=t/\e1=0)/\n1.length<=s.length/\Sat B w' I As) :=
 (Xlg s hl B w I hK.dig As hS).mono fun e w' he=>by
  obtain ⟨v,rfl,rfl,h⟩:=he;cases hp:X22 s with
  | none=>exact ⟨_,rfl,_,_,rfl,⟨rfl,rfl⟩,Yo _,h⟩
  | some t=>exact ⟨_,rfl,_,_,rfl,⟨rfl,rfl⟩,Xpb hp,h⟩
theorem port_e (s sch:List UInt8) (hl:s.length<=1000000) (w:World):Calls Tryz.prog 218 [S s,S sch].toArray w (Ret fun v w'=>(∃ pn:Nat,v=.tuple #[I64 (pn:Nat),.bool (X1h s)]/\pn<=65535/\(X1h s=true->pn=X6q s sch))/\w=w') :=
 (Xth s sch hl w).mono fun e w' he=>by
  obtain ⟨v,rfl,rfl,h⟩:=he;refine ⟨_,rfl,?_,h⟩;cases hp:X1h s with
  | false=>exact ⟨0,rfl,by decide,fun e=>by cases e⟩
  | true =>
   refine ⟨X6q s sch,rfl,?_,fun _=>rfl⟩;unfold X6q;split
   ·decide
   ·unfold X1h at hp;simp only [Yn,decide_eq_true_eq] at hp
    exact hp.2
theorem upto_len (a s:List UInt8):(upto a s).length<=s.length:=by
 have:=congrArg List.length (X1l a s)
 rw [Y0] at this; omega
theorem X4j (a s:List UInt8):(X6 a s).length<=s.length:=by
 have:=congrArg List.length (X1l a s)
 rw [Y0] at this; omega
theorem asc4:Asc [47,63,35,58]:=fun j b h=>by
 match j,h with
 | 0,h=>cases h; decide
 | 1,h=>cases h; decide
 | 2,h=>cases h; decide
 | 3,h=>cases h; decide
 | _+4,h=>simp at h
theorem asc3:Asc [47,63,35]:=fun j b h=>by
 match j,h with
 | 0,h=>cases h; decide
 | 1,h=>cases h; decide
 | 2,h=>cases h; decide
 | _+3,h=>simp at h
theorem Xjo (r:List UInt8):Xg r [58]=true ↔ r.take 1=[58]:=by
 cases r with
 | nil=>simp [Xg]
 | cons a b=>simp [Xg]; intro _; omega
set_option maxHeartbeats 800000 in
theorem Xly (s:List UInt8) (hl:s.length<=1000000) (B w:World) (I:Im) (hK:Known I) (As:List X7) (hS:Sat B w I As) :
  Cz 175 [S s] w fun v w'=>v=.tuple #[.agg (uc (pU s).1).toArray,I64 ((pU s).2:Nat)]/\Sat B w' I As:=by
 refine calls Tryz.func175 rfl Tryz.ntmps175 rfl (.seq (.region (.allocA (cs:=[_,_,_,_,_,_]) hS Xgv rfl ?_)));clear hS; intro b2 w hS;refine .q 1 rfl (.nil (.seq (.seq (.region (.run 3 rfl ⟨Qu9,trivial⟩ (.nil ?_))))));refine .cond rfl (fun hb15=>?_) fun hb15=>?_
 ·have hc15:=hb15; try simp only [Y6] at hc15
  refine .seq (.region (.val (.build (cs:=[_,_,_,_,_,_]) X4 Xu rfl) rfl (.so hS (k:=0) rfl rfl rfl rfl X14 rfl (by simp) ?_)));clear hS; intro w hS;try simp only [Yk,Ye,Y9,Y7,Yh,Ym,Yc] at hS
  refine .q 1 rfl (.nil (.ret (X1k (b:=_) (cs:=[_,_,_,_,_,_]) Xeo hS (k:=0) rfl X2s X14 rfl rfl rfl ?_)));exact ⟨_,rfl,by rw [pU,if_pos (by omega)]; rfl,(hS.y 0 1)⟩
 have hc15:=hb15; try simp only [Y6] at hc15
 refine .skip (.seq (.t 1 rfl (.call Qf187 rfl (ec9 rfl (ec9 rfl X0)) rfl (Xmb s (by omega) B _ I hK _ hS) ?_)));clear hS;rintro _ w ⟨sc,rs,ok,rfl,hsc,hscl,hrsl,hS⟩;refine .q 7 rfl (.nil (.seq (.t 1 rfl (.call Tryz.func215 rfl (ec9 rfl X0) rfl (Xfn sc (by omega) B _ I _ hS) ?_))));clear hS;rintro _ w ⟨rfl,hS⟩;refine .q 1 rfl (.nil (.seq (.seq (.t 3 rfl (.gm rfl rfl rfl rfl (.gval rfl rfl (fun hg1=>(.nes (.gd hg1 rfl) (.of rfl))) rfl (.gval rfl rfl (fun hg1=>(.move (.gd hg1 rfl))) rfl (.gval2 rfl rfl rfl (fun hg1 hg2=>(.mo rfl)) rfl (.gval2 rfl rfl rfl (fun hg1 hg2=>(.nes (.gd2 hg1 hg2 rfl) (.of rfl))) rfl (.gval rfl rfl (fun hg1=>(.pand (.gd hg1 rfl) (.gd hg1 rfl) (.of rfl))) rfl (.val (.po rfl rfl rfl) rfl (.nil ?_))))))))))));refine .cond rfl (fun hb34=>?_) fun hb34=>?_
 ·have hc34:=hb34; try simp only [Y6] at hc34
  refine .seq (.region (.val (.build (cs:=[_,_,_,_,_,_]) X4 Xu rfl) rfl (.so hS (k:=0) rfl rfl rfl rfl X14 rfl (by simp) ?_)));clear hS; intro w hS;try simp only [Yk,Ye,Y9,Y7,Yh,Ym,Yc] at hS
  refine .q 1 rfl (.nil (.ret (X1k (b:=_) (cs:=[_,_,_,_,_,_]) Xeo hS (k:=0) rfl X2s X14 rfl rfl rfl ?_)));refine ⟨_,rfl,?_,(hS.y 0 1)⟩;rw [pU,if_neg (by omega),hsc,if_neg]
  ·rfl
  ·rintro ⟨h1,h2⟩;rw [h1] at hb34;rcases h2 with h | h <;> rw [h] at hb34 <;> simp [Xl9,X7a] at hb34
 have hc34:=hb34; try simp only [Y6] at hc34
 refine .skip (.seq ?_);have hok:ok=true/\(low sc=Xl9\/low sc=X7a):=hc34;rw [if_pos hok] at hsc;have hlow:=X2b sc;refine .t 1 rfl (.val (.build (cs:=[_,_,_,_,_,_]) (pc9 rfl X4) Xu rfl) rfl (.allocA (cs:=[_,_,_,_,_,_]) hS Xgv rfl ?_));clear hS; intro b7 w hS;refine .so hS (k:=0) rfl rfl rfl rfl X14 rfl (by simp) ?_;clear hS; intro w hS;try simp only [Yk,Ye,Y9,Y7,Yh,Ym,Yc] at hS
 refine .nil (.seq (.t 1 rfl (.call Tryz.func216 rfl (ec9 rfl (ec9 rfl X0)) rfl (Xo2 rs [47,63,35,58] (by omega) asc4 (by decide) (by decide) B _ I _ hS) ?_)));clear hS;rintro _ w ⟨rfl,hS⟩;refine .q 3 rfl (.val (.fo 1 rfl X26 rfl rfl Qs9 rfl) rfl (.s1 hS (k:=0) rfl rfl rfl rfl Qs9 (by simp) ?_));clear hS; intro w hS;refine .q 1 rfl (.nil (.seq (.seq (.region (.val (.fo 1 rfl X26 rfl rfl Qs9 rfl) rfl (.val (.lo rfl hS (k:=0) rfl Qg9 rfl) rfl ?_))))));refine .call Tryz.func215 rfl (ec9 rfl X0) rfl (Xfn _ (by have:=upto_len [47,63,35,58] rs; omega) B _ I _ hS) ?_;clear hS;rintro _ w ⟨rfl,hS⟩;refine .val (.fo 1 rfl X26 rfl rfl Qs9 rfl) rfl (.s1 hS (k:=0) rfl rfl rfl rfl Qs9 (by simp) ?_);clear hS; intro w hS;refine .nil (.seq (.region (.val (.fo 1 rfl X26 rfl rfl Qs9 rfl) rfl (.val (.lo rfl hS (k:=0) rfl Qg9 rfl) rfl (.call Tryz.func217 rfl (ec9 rfl X0) rfl (Xsk _ _) ?_)))));rintro _ _ ⟨rfl,rfl⟩;refine .q 1 rfl (.nil ?_);refine .cond rfl (fun hb51=>?_) fun hb51=>?_
 ·have hc51:=hb51; try simp only [Y6] at hc51
  refine .seq (.region (.val (.build (cs:=[_,_,_,_,_,_]) X4 Xu rfl) rfl (.so hS (k:=1) rfl rfl rfl rfl X14 rfl (by simp) ?_)));clear hS; intro w hS;try simp only [Yk,Ye,Y9,Y7,Yh,Ym,Yc] at hS
  refine .q 1 rfl (.nil (.ret (X1k (b:=_) (cs:=[_,_,_,_,_,_]) Xeo hS (k:=1) rfl X2s X14 rfl rfl rfl ?_)));refine ⟨_,rfl,?_,(hS.y 0 2)⟩;rw [pU,if_neg (by omega),hsc];simp only
  rw [X39,if_neg (by simpa using hb51)]; rfl
 have hc51:=hb51; try simp only [Y6] at hc51
 refine .skip (.cutS (σ:=Nat×List UInt8) (fun ⟨port,r⟩=>[(2,ptr b2 0),(5,S r),(7,ptr b7 0)]) (fun ⟨port,r⟩ w=>pU s=X6s (low sc) (low (upto [47,63,35,58] rs)) port r/\port<=65535/\r.length<=2000/\Sat B w I (blk b7 [S (low sc),S (low (upto [47,63,35,58] rs)),I64 (port:Nat),S [],S [],.bool false] 213::blk b2 [S [],S [],I64 0,S [],S [],.bool false] 213::As)) ?_ ?_)
 ·refine .seq (.t 1 rfl ?_);refine .call Xgl rfl (ec9 rfl (ec9 rfl X0)) rfl (X1s _ [58] _ (by have:=X4j [47,63,35,58] rs; omega) (by decide)) ?_;rintro _ _ ⟨rfl,rfl⟩;refine .nil (.cond rfl (fun hb54=>?_) fun hb54=>?_)
  ·have hc54:=hb54; try simp only [Y6] at hc54
   refine .seq ?_;have htk:=(Xjo _).1 hb54;have hfl:=X4j [47,63,35,58] rs;have hr1:1<=(X6 [47,63,35,58] rs).length:=by
    have:=congrArg List.length htk
    rw [Yr,List.length_cons,List.length_nil] at this; omega
   refine .q 1 rfl (.seq (.t 1 rfl (.val (.subFrom (.of rfl) (.of rfl) (by omega) (by omega) Qu9) rfl ?_)));refine .call Tryz.func216 rfl (ec9 rfl (ec9 rfl X0)) rfl (Xo2 ((X6 [47,63,35,58] rs).drop 1) [47,63,35] (by rw [Yg]; have:=X4j [47,63,35,58] rs; omega) asc3 (by decide) (by decide) B _ I _ hS) ?_;clear hS;rintro _ w ⟨rfl,hS⟩;refine .q 5 rfl (.nil (.seq (.t 2 rfl ?_)));refine .call Tryz.func218 rfl (ec9 rfl (ec9 rfl X0)) rfl (port_e _ (low sc) (by have:=upto_len [47,63,35] ((X6 [47,63,35,58] rs).drop 1); have:=X4j [47,63,35,58] rs; rw [Yg] at *; omega) _) ?_;rintro _ _ ⟨⟨pn,rfl,hpn,hpv⟩,rfl⟩;refine .q 3 rfl (.val (.fo 2 rfl X26 rfl rfl Qs3 rfl) rfl (.s1 hS (k:=0) rfl rfl rfl rfl Qs3 (by simp) ?_));clear hS; intro w hS;refine .q 1 rfl (.nil (.seq (.q 2 rfl ?_)));refine .cond rfl (fun hb69=>?_) fun hb69=>?_
   ·have hc69:=hb69; try simp only [Y6] at hc69
    refine .seq (.region (.val (.build (cs:=[_,_,_,_,_,_]) X4 Xu rfl) rfl (.so hS (k:=1) rfl rfl rfl rfl X14 rfl (by simp) ?_)));clear hS; intro w hS;try simp only [Yk,Ye,Y9,Y7,Yh,Ym,Yc] at hS
    refine .q 1 rfl (.nil (.ret (X1k (b:=_) (cs:=[_,_,_,_,_,_]) Xeo hS (k:=1) rfl X2s X14 rfl rfl rfl ?_)));refine ⟨_,rfl,?_,(hS.y 0 2)⟩;rw [pU,if_neg (by omega),hsc];simp only
    rw [X39,if_pos (by simpa using hb51),behind,if_pos htk,if_neg (by simpa using hb69)]; rfl
   have hc69:=hb69; try simp only [Y6] at hc69
   refine .skip ?_;have hok2:X1h (upto [47,63,35] ((X6 [47,63,35,58] rs).drop 1))=true:=by simpa using hb69
   have hpp:=hpv hok2;refine ⟨(pn,_),⟨rfl,rfl,rfl,trivial⟩,?_,hpn,?_,hS⟩
   ·rw [pU,if_neg (by omega),hsc];simp only
    rw [X39,if_pos (by simpa using hb51),behind,if_pos htk,if_pos hok2,hpp]
   ·have:=X4j [47,63,35] ((X6 [47,63,35,58] rs).drop 1)
    rw [Yg] at this;omega
  have hc54:=hb54; try simp only [Y6] at hc54
  refine .skip (⟨(0,_),⟨rfl,rfl,rfl,trivial⟩,?_,by decide,?_,hS⟩)
  ·rw [pU,if_neg (by omega),hsc];simp only
   rw [X39,if_pos (by simpa using hb51),behind,if_neg (fun e=>by rw [(Xjo _).2 e] at hb54; cases hb54)]
  ·have:=X4j [47,63,35,58] rs
   omega
 rintro ⟨port,r⟩ w ⟨hpu,hport,hrl,hS⟩;refine .seq (.t 1 rfl (.call Qf187 rfl (ec9 rfl (ec9 rfl X0)) rfl (Xc1 r 63 (by omega) B _ I hK _ hS) ?_));clear hS;rintro _ w ⟨rfl,hS⟩;refine .q 7 rfl (.nil (.seq (.t 1 rfl ?_)));refine .call Tryz.func219 rfl (ec9 rfl X0) rfl (Xji _ (by have:=upto_len [63] r; omega) B _ I hK _ hS) ?_;clear hS;rintro _ w ⟨p1,e1,rfl,hp1,hp1l,hS⟩;refine .q 5 rfl (.nil (.seq (.seq (.q 2 rfl ?_))));refine .cond rfl (fun hb83=>?_) fun hb83=>?_
 ·have hc83:=hb83; try simp only [Y6] at hc83
  refine .seq (.region (.val (.build (cs:=[_,_,_,_,_,_]) X4 Xu rfl) rfl (.q 1 rfl (.so hS (k:=1) rfl rfl rfl rfl X14 rfl (by simp) ?_))));clear hS; intro w hS;try simp only [Yk,Ye,Y9,Y7,Yh,Ym,Yc] at hS
  refine .q 1 rfl (.nil (.ret (X1k (b:=_) (cs:=[_,_,_,_,_,_]) Xeo hS (k:=1) rfl X2s X14 rfl rfl rfl ?_)));refine ⟨_,rfl,?_,(hS.y 0 2)⟩;rw [hpu,X6s];cases hp:X22 (upto [63] r) with
  | none=>rw [hp] at hp1; rw [hp1.2]; rfl
  | some t=>rw [hp] at hp1; exact absurd hp1.2 hc83
 have hc83:=hb83; try simp only [Y6] at hc83
 refine .skip (.seq (.t 1 rfl ?_));refine .call Tryz.func219 rfl (ec9 rfl X0) rfl (Xji _ (by have:=X4j [63] r; rw [Yg]; omega) B _ I hK _ hS) ?_;clear hS;rintro _ w ⟨q1,e2,rfl,hq1,hq1l,hS⟩;refine .q 3 rfl (.val (.fo 4 rfl X26 rfl rfl Qs9 rfl) rfl (.s1 hS (k:=0) rfl rfl rfl rfl Qs9 (by simp) ?_));clear hS; intro w hS;refine .q 1 rfl (.nil (.seq (.seq (.q 2 rfl ?_))));refine .cond rfl (fun hb93=>?_) fun hb93=>?_
 ·have hc93:=hb93; try simp only [Y6] at hc93
  refine .seq (.region (.val (.build (cs:=[_,_,_,_,_,_]) X4 Xu rfl) rfl (.q 1 rfl (.so hS (k:=1) rfl rfl rfl rfl X14 rfl (by simp) ?_))));clear hS; intro w hS;try simp only [Yk,Ye,Y9,Y7,Yh,Ym,Yc] at hS
  refine .q 1 rfl (.nil (.ret (X1k (b:=_) (cs:=[_,_,_,_,_,_]) Xeo hS (k:=1) rfl X2s X14 rfl rfl rfl ?_)));refine ⟨_,rfl,?_,(hS.y 0 2)⟩;rw [hpu,X6s];cases hp:X22 (upto [63] r) with
  | none=>rw [hp] at hp1; have:=hp1.2; omega
  | some t =>
   cases hq:X22 ((X6 [63] r).drop 1) with
   | none=>rw [hq] at hq1; rw [hq1.2]; rfl
   | some t=>rw [hq] at hq1; exact absurd hq1.2 hc93
 have hc93:=hb93; try simp only [Y6] at hc93
 refine .skip (.seq (.t 1 rfl ?_));refine .call Tryz.func220 rfl (ec9 rfl X0) rfl (Xql p1 (by have:=upto_len [63] r; omega) B _ I hK _ hS) ?_;clear hS;rintro _ w ⟨rfl,hS⟩;refine .q 1 rfl (.val (.fo 3 rfl X26 rfl rfl Qs9 rfl) rfl (.s1 hS (k:=0) rfl rfl rfl rfl Qs9 (by simp) ?_));clear hS; intro w hS;refine .val (.fo 5 rfl X26 rfl rfl Qs4 rfl) rfl (.s1 hS (k:=0) rfl rfl rfl rfl Qs4 (by simp) ?_);clear hS; intro w hS;refine .nil (.seq (.seq (.region (.val (.fo 3 rfl X26 rfl rfl Qs9 rfl) rfl (.val (.lo rfl hS (k:=0) rfl Qg9 rfl) rfl (.q 1 rfl (.nil ?_)))))));refine .cond rfl (fun hb103=>?_) fun hb103=>?_
 ·have hc103:=hb103; try simp only [Y6] at hc103
  refine .region (.val (.fo 3 rfl X26 rfl rfl Qs9 rfl) rfl (.s1 hS (k:=0) rfl rfl rfl rfl Qs9 (by simp) ?_));clear hS; intro w hS;refine .nil (.seq (.region (.val (.ldsW (cs:=[_,_,_,_,_,_]) (.of rfl) hS (k:=0) rfl X2s X14 rfl) rfl (.so hS (k:=1) rfl rfl rfl rfl X14 rfl (by simp) ?_))));clear hS; intro w hS;try simp only [Yk,Ye,Y9,Y7,Yh,Ym,Yc] at hS
  refine .q 1 rfl (.nil (.ret (X1k (b:=_) (cs:=[_,_,_,_,_,_]) Xeo hS (k:=1) rfl X2s X14 rfl rfl rfl ?_)));refine ⟨_,rfl,?_,(hS.y 0 2)⟩;rw [hpu,X6s];cases hp:X22 (upto [63] r) with
  | none=>rw [hp] at hp1; have:=hp1.2; omega
  | some t =>
   cases hq:X22 ((X6 [63] r).drop 1) with
   | none=>rw [hq] at hq1; have:=hq1.2; omega
   | some q =>
    rw [hp] at hp1; rw [hq] at hq1;obtain ⟨rfl,_⟩:=hp1;obtain ⟨rfl,_⟩:=hq1;have hif:(if p1=[] then [47] else X9c p1)=[47]:=if_pos (by have:=Xs0 p1; rw [hb103] at this; simpa using this.symm);show _=Value.tuple #[.agg #[S (low sc),S (low (upto [47,63,35,58] rs)),I64 (port:Nat),S (if p1=[] then [47] else X9c p1),S q1,.bool (!(X6 [63] r).isEmpty)],I64 0]
    rw [hif];rfl
 have hc103:=hb103; try simp only [Y6] at hc103
 refine .skip (.seq (.region (.val (.ldsW (cs:=[_,_,_,_,_,_]) (.of rfl) hS (k:=0) rfl X2s X14 rfl) rfl (.so hS (k:=1) rfl rfl rfl rfl X14 rfl (by simp) ?_))));clear hS; intro w hS;try simp only [Yk,Ye,Y9,Y7,Yh,Ym,Yc] at hS
 refine .q 1 rfl (.nil (.ret (X1k (b:=_) (cs:=[_,_,_,_,_,_]) Xeo hS (k:=1) rfl X2s X14 rfl rfl rfl ?_)));refine ⟨_,rfl,?_,(hS.y 0 2)⟩;rw [hpu,X6s];cases hp:X22 (upto [63] r) with
 | none=>rw [hp] at hp1; have:=hp1.2; omega
 | some t =>
  cases hq:X22 ((X6 [63] r).drop 1) with
  | none=>rw [hq] at hq1; have:=hq1.2; omega
  | some q =>
   rw [hp] at hp1; rw [hq] at hq1;obtain ⟨rfl,_⟩:=hp1;obtain ⟨rfl,_⟩:=hq1;have hif:(if p1=[] then [47] else X9c p1)=X9c p1:=if_neg (fun e=>by rw [e] at hb103; simp [X9c] at hb103);show _=Value.tuple #[.agg #[S (low sc),S (low (upto [47,63,35,58] rs)),I64 (port:Nat),S (if p1=[] then [47] else X9c p1),S q1,.bool (!(X6 [63] r).isEmpty)],I64 0]
   rw [hif];rfl
theorem Xif (s:List UInt8) (hl:s.length<=1000000) (B w:World) (I:Im) (hK:Known I) (As:List X7) (hS:Sat B w I As) :
  Cz 128 [S s] w fun v w'=>v=.tuple #[S (nU s).1,I64 ((nU s).2:Nat)]/\Sat B w' I As:=by
 refine calls Tryz.func128 rfl Tryz.ntmps128 rfl (.seq (.q 2 rfl (.seq (.t 1 rfl (.call Tryz.func175 rfl (ec9 rfl X0) rfl (Xly s hl B _ I hK _ hS) ?_)))));rintro _ w ⟨rfl,hS⟩;refine .q 3 rfl (.allocA (cs:=[_,_,_,_,_,_]) hS Xgv rfl ?_);intro b4 w hS;refine .so hS (k:=0) rfl rfl rfl rfl X14 rfl (by simp) ?_;intro w hS;try simp only [Yk,Ye,Y9,Y7,Yh,Ym,Yc] at hS
 refine .q 1 rfl (.nil (.seq (.seq (.q 2 rfl ?_))));refine .cond rfl (fun hb12=>?_) fun hb12=>?_
 ·have hc12:=hb12; simp only [Y6] at hc12;refine .seq (.q 3 rfl (.ret (X1t Tryz.results128 rfl rfl ?_)));refine ⟨_,rfl,?_,hS.y 0 1⟩;rw [nU,if_neg (by omega)];rfl
 have hc12:=hb12; simp only [Y6] at hc12;refine .skip (.seq (.region (.val (.ldsW (cs:=[_,_,_,_,_,_]) (.of rfl) hS (k:=0) rfl X2s X14 rfl) rfl (.call Tryz.func176 rfl (ec9 rfl X0) rfl (Xih (pU s).1 (Xju s) B _ I hK _ hS) ?_))));rintro _ w ⟨rfl,hS⟩;refine .q 2 rfl (.nil (.ret (X1t Tryz.results128 rfl rfl ?_)));refine ⟨_,rfl,?_,hS.y 0 1⟩;rw [nU,if_pos (by omega)];rfl
theorem Xaz (s:List UInt8) (hl:s.length<=1000000) (B w:World) (I:Im) (As:List X7) (hS:Sat B w I As) :
  Cz 179 [S s] w fun v w'=>v=S (low s)/\Sat B w' I As:=by
 refine calls Xqu rfl Tryz.ntmps179 rfl (.seq (.q 1 rfl (.seq (.q 1 rfl (.seq (.seq (.q 1 rfl (.block (.loop (σ:=Nat) (fun i=>[(0,S s),(3,S (low (s.take i))),(4,I64 (i:Nat))]) (fun i w=>i<=s.length/\Sat B w I As) (fun i=>s.length - i) 0 ⟨rfl,rfl,rfl,trivial⟩ ⟨Yo _,hS⟩ ?_)))))))));rintro i w ⟨hi,hS⟩;refine .seq (.seq (.region (.run 4 rfl ⟨Qu9,trivial⟩ (.nil ?_))));refine .cond rfl (fun hb9=>?_) fun hb9=>?_
 ·have hc9:=hb9; simp only [Y6] at hc9;refine .skip (.seq (.block (.seq ?_)));have hnx:low (s.take (i+1))=low (s.take i) ++ [lo (at_ s (i:Int))]:=by rw [Yz,Xy (by omega),low,low,Yw]; rfl
  have hll:(low (s.take i)).length<=1000000:=by rw [X2b,Yr]; omega
  refine .region (.run 4 rfl ⟨⟨⟨by omega,by omega⟩,Qu9⟩,trivial⟩ (.nil (.seq (.seq (.t 3 rfl (.gm rfl rfl rfl rfl (.gval rfl rfl (fun hg1=>(.leq (.gd hg1 rfl) (.of rfl))) rfl (.val (.pa rfl rfl rfl) rfl (.nil ?_)))))))));refine .cond rfl (fun hb20=>?_) fun hb20=>?_
  ·have hc20:=hb20; simp only [Y6] at hc20;refine .t 1 rfl (.val (.addw (.of rfl) (.of rfl)) rfl (.q 1 rfl (.nil (.t 2 rfl (.buildSlice (cs:=[_]) hS (pc9 rfl X4) X2x Qs5 Qz5 rfl rfl rfl rfl ?_)))));intro b25 w hS;refine .val (.str1 (b:=b25) (cap:=1) (c:=lo (at_ s (i:Int))) (i:=(IntKind.u8.wrap (((at_ s (i:Int)).toNat:Int)+32))) (.of rfl) hS (k:=0) rfl (by have:=lo_up (c:=at_ s (i:Int)) (by simpa only [Yn,decide_eq_true_eq] using hb20); rw [this,IntKind.wrap_u8]; omega) X2x Qu5 Qu9) rfl ?_;refine .run 2 rfl ⟨by (try simp only [Y0,List.length_cons,List.length_nil]); omega,trivial⟩ (.nil (.region (.run 3 rfl ⟨⟨by omega,by omega⟩,trivial⟩ (.nil ?_))));refine ⟨i+1,⟨rfl,by show some (S _)=some _; rw [hnx],rfl,trivial⟩,⟨by omega,hS.y 0 1⟩,by omega⟩
  have hc20:=hb20; simp only [Y6] at hc20;refine .skip (.t 2 rfl (.buildSlice (cs:=[_]) hS (pc9 rfl X4) X2x Qs5 Qz5 rfl rfl rfl rfl ?_));intro b25 w hS;have hlo:lo (at_ s (i:Int))=at_ s (i:Int):=lo_no (fun hh=>by
   have:(decide (65<=((at_ s (i:Int)).toNat:Int)) && decide (((at_ s (i:Int)).toNat:Int)<=90))=true:=by simp only [Yn,decide_eq_true_eq]; exact hh
   rw [this] at hb20; cases hb20)
  refine .val (.str1 (b:=b25) (cap:=1) (c:=lo (at_ s (i:Int))) (i:=((at_ s (i:Int)).toNat:Int)) (.of rfl) hS (k:=0) rfl (by rw [hlo]) X2x Qu5 Qu9) rfl ?_;refine .run 2 rfl ⟨by (try simp only [Y0,List.length_cons,List.length_nil]); omega,trivial⟩ (.nil (.region (.run 3 rfl ⟨⟨by omega,by omega⟩,trivial⟩ (.nil ?_))));refine ⟨i+1,⟨rfl,by show some (S _)=some _; rw [hnx],rfl,trivial⟩,⟨by omega,hS.y 0 1⟩,by omega⟩
 have hc9:=hb9; simp only [Y6] at hc9;refine .exit (.seq (.q 2 rfl (.ret (Xc Tryz.results179 rfl ?_))));exact ⟨_,rfl,by rw [Yx (by omega)],hS⟩
theorem Xd9 (s cs:List UInt8) (fr:Nat) (hf:fr<=s.length) (hl:s.length<=1000000) (hc:cs.length<=1000) (B w:World) (I:Im) (As:List X7) (hS:Sat B w I As) :
  Cz 180 [S s,I64 (fr:Nat),S cs] w fun v w'=>v=I64 ((fr+(upto cs (s.drop fr)).length:Nat):Int)/\Sat B w' I As:=by
 refine calls Xqv rfl Tryz.ntmps180 rfl (.seq (.q 1 rfl (.seq (.seq (.q 2 rfl (.block (.loop (σ:=Nat) (fun i=>[(0,S s),(2,S cs),(7,I64 ((fr+i:Nat):Int))]) (fun i w=>fr+i<=s.length/\Go.Lib.NoAny (s.drop fr) cs i/\Sat B w I As) (fun i=>s.length - (fr+i)) 0 ⟨rfl,rfl,rfl,trivial⟩ ⟨hf,Go.Lib.NoAny.zero _ _,hS⟩ ?_)))))));rintro i w ⟨hi,hno,hS⟩;refine .seq (.seq (.region (.run 4 rfl ⟨Qu9,trivial⟩ (.nil ?_))));refine .cond rfl (fun hb13=>?_) fun hb13=>?_
 ·have hc13:=hb13; simp only [Y6] at hc13;refine .skip (.seq (.block (.seq (.q 1 rfl (.block (.loop (σ:=Nat) (fun k=>[(0,S s),(2,S cs),(7,I64 ((fr+i:Nat):Int)),(8,I64 (k:Nat))]) (fun k w=>k<=cs.length/\(∀ q,q<k->at_ cs (q:Int)≠at_ s ((fr+i:Nat):Int))/\Sat B w I As) (fun k=>cs.length - k) 0 ⟨rfl,rfl,rfl,rfl,trivial⟩ ⟨Yo _,fun _ h=>absurd h (by omega),hS⟩ ?_))))));rintro k w ⟨hkl,hk,hS⟩;refine .seq (.seq (.region (.run 4 rfl ⟨Qu9,trivial⟩ (.nil ?_))));refine .cond rfl (fun hb19=>?_) fun hb19=>?_
  ·have hc19:=hb19; simp only [Y6] at hc19;refine .skip (.seq (.block (.seq (.qt hS (.val (fun w hS=>(.mo rfl)) rfl (.val (fun w hS=>(.mo rfl)) rfl (.val (fun w hS=>(.index (.of rfl) (.of rfl) (by omega) (by omega) Qu9)) rfl (.val (fun w hS=>(.mo rfl)) rfl (.val (fun w hS=>(.mo rfl)) rfl (.val (fun w hS=>(.index (.of rfl) (.of rfl) (by omega) (by omega) Qu9)) rfl (.val (fun w hS=>(.eql (.of rfl) (.of rfl))) rfl (.nil ?_))))))))))));intro w hS;refine .cond rfl (fun hb28=>?_) fun hb28=>?_
   ·have hc28:=hb28; simp only [Y6] at hc28;refine .seq (.q 2 rfl (.ret (Xc Tryz.results180 rfl ?_)));have heq:at_ cs (k:Int)=at_ s ((fr+i:Nat):Int):=Y18.1 (by simp only [beq_iff_eq] at hb28; omega);have hat:(s.drop fr)[i]?=some (at_ s ((fr+i:Nat):Int)):=by rw [Y1d]; exact Xy (by omega)
    have hin:cs.contains (at_ s ((fr+i:Nat):Int))=true:=by
     rw [Y2k,<- heq];exact Yl (Xy (by omega:k<cs.length))
    obtain ⟨h1,h2,h3⟩:=Xa7 (Go.Lib.indexAny_hit hno hat hin);refine ⟨_,rfl,?_,hS⟩;rw [h1,Yr,Yg]
    congr 1; omega
   have hc28:=hb28; simp only [Y6] at hc28;refine .skip (.region (.run 3 rfl ⟨⟨by omega,by omega⟩,trivial⟩ (.nil ?_)));refine ⟨k+1,⟨rfl,rfl,rfl,rfl,trivial⟩,⟨by omega,fun q hq=>?_,hS⟩,by omega⟩;rcases Yp q k with h1 | h1
   ·exact hk q h1
   ·have e:q=k:=by omega
    subst e;simp only [beq_eq_false_iff_ne] at hb28
    exact fun e=>hb28 (by rw [e])
  have hc19:=hb19; simp only [Y6] at hc19;refine .exit (.region (.run 3 rfl ⟨⟨by omega,by omega⟩,trivial⟩ (.nil ?_)));have hat:(s.drop fr)[i]?=some (at_ s ((fr+i:Nat):Int)):=by rw [Y1d]; exact Xy (by omega)
  refine ⟨i+1,⟨rfl,rfl,by show some (I64 _)=some (I64 _); congr 2,trivial⟩,⟨by omega,hno.succ hat ?_,hS⟩,by omega⟩;cases hc:cs.contains (at_ s ((fr+i:Nat):Int)) with
  | false=>rfl
  | true =>
   rw [Y2k] at hc;obtain ⟨q,hq⟩:=Yy.1 hc;have hql:q<cs.length:=(Y5.1 hq).1;rw [Xy hql] at hq;exact absurd (by injection hq) (hk q (by omega))
 have hc13:=hb13; simp only [Y6] at hc13;refine .exit (.seq (.region (.run 3 rfl ⟨Qu9,trivial⟩ (.nil (.ret (Xc Tryz.results180 rfl ?_))))));obtain ⟨h1,h2⟩:=X74 (Go.Lib.indexAny_none (s:=s.drop fr) (chars:=cs) (by rw [Yg,show s.length - fr=i by omega]; exact hno));refine ⟨_,rfl,?_,hS⟩;rw [h1,Yg]
 congr 1; omega
theorem Xw2 {n:Nat} (h:¬ n<10):Go.Lib.decDigits n=Go.Lib.decDigits (n / 10) ++ [UInt8.ofNat (48+n % 10)]:=by
 rw [Go.Lib.decDigits,dif_neg h]
theorem Xk6 (m:Nat) (hm:m<=65535) (B w:World) (I:Im) (As:List X7) (hS:Sat B w I As) :
  Cz 69 [I64 (m:Nat)] w fun v w'=>v=S (Go.Lib.decDigits m)/\Sat B w' I As:=by
 refine calls Tryz.func69 rfl Tryz.ntmps69 rfl (.seq (.q 1 rfl (.seq (.q 1 rfl (.seq (.block (.loop (σ:=Nat×List UInt8) (fun ⟨n,out⟩=>[(0,I64 (n:Nat)),(3,S out)]) (fun ⟨n,out⟩ w=>n<=m/\Go.Lib.decDigits m=Go.Lib.decDigits n ++ out/\Sat B w I As) (fun ⟨n,out⟩=>n) (m,[]) ⟨rfl,rfl,trivial⟩ ⟨Yq _,by simp,hS⟩ ?_)))))));rintro ⟨n,out⟩ w ⟨hn,hd,hS⟩;refine .seq (.seq (.q 2 rfl ?_));refine .cond rfl (fun hb5=>?_) fun hb5=>?_
 ·have hc5:=hb5; simp only [Y6] at hc5;refine .skip (.block (.seq ?_));have hbg:=Xw2 (n:=n) (by omega);have hlo2:=congrArg List.length hd;rw [Y0,hbg,Y0] at hlo2;have h5:=X88 m hm;refine .t 1 rfl (.val (.rem (.of rfl) (.of rfl) (by omega) (by omega)) rfl (.run 1 rfl ⟨⟨by omega,by omega⟩,trivial⟩ ?_));refine .val (.cvi (.of rfl) Qu3 Qu5 (by rw [IntKind.wrap_u8]; omega)) rfl (.buildSlice (cs:=[_]) hS (pc9 rfl X4) X2x Qs5 Qz5 rfl rfl rfl rfl ?_);intro b10 w hS;refine .val (.str1 (b:=b10) (cap:=1) (c:=UInt8.ofNat (48+n % 10)) (i:=(48+(n:Int) % 10)) (.of rfl) hS (k:=0) rfl (by rw [Y5c]; omega) X2x Qu5 Qu9) rfl ?_;refine .run 3 rfl ⟨by (try simp only [Y0,List.length_cons,List.length_nil]); omega,trivial⟩ (.nil (.t 1 rfl ?_));refine .val (.quo (.of rfl) (.of rfl) (by omega) (by omega) (by rw [IntKind.wrap_i64]; omega)) rfl (.q 1 rfl (.nil ?_));refine ⟨(n / 10,_),⟨rfl,rfl,trivial⟩,⟨by (try dsimp only); omega,?_,hS.y 0 1⟩,by (try dsimp only); omega⟩;rw [hd,hbg,Yd]
 have hc5:=hb5; simp only [Y6] at hc5;refine .exit (.seq ?_);have hsm:=Go.Lib.decDigits_one (i:=n) (by omega);have hlo2:=congrArg List.length hd;rw [Y0] at hlo2;have h5:=X88 m hm;refine .region (.run 2 rfl ⟨⟨by omega,by omega⟩,trivial⟩ ?_);refine .val (.cvi (.of rfl) Qu3 Qu5 (by rw [IntKind.wrap_u8]; omega)) rfl (.buildSlice (cs:=[_]) hS (pc9 rfl X4) X2x Qs5 Qz5 rfl rfl rfl rfl ?_);intro b19 w hS;refine .val (.str1 (b:=b19) (cap:=1) (c:=UInt8.ofNat (48+n)) (i:=(48+(n:Int))) (.of rfl) hS (k:=0) rfl (by rw [Y5c]; omega) X2x Qu5 Qu9) rfl ?_;refine .run 3 rfl ⟨by (try simp only [Y0,List.length_cons,List.length_nil]); omega,trivial⟩ (.nil (.ret (Xc Tryz.results69 rfl ?_)));refine ⟨_,rfl,?_,hS.y 0 1⟩;rw [hd,hsm]
theorem Xck (c:UInt8):(((((((((((decide ((c.toNat:Int)<33) || decide (126<(c.toNat:Int))) || ((c.toNat:Int) == 34)) || ((c.toNat:Int) == 60)) || ((c.toNat:Int) == 62)) || ((c.toNat:Int) == 35)) || ((c.toNat:Int) == 92)) || ((c.toNat:Int) == 94)) || ((c.toNat:Int) == 123)) || ((c.toNat:Int) == 124)) || ((c.toNat:Int) == 125)) || ((c.toNat:Int) == 96))=!X3e c :=
 eq_of_beq (Xh (p:=fun c=>(((((((((((decide ((c.toNat:Int)<33) || decide (126<(c.toNat:Int))) || ((c.toNat:Int) == 34)) || ((c.toNat:Int) == 60)) || ((c.toNat:Int) == 62)) || ((c.toNat:Int) == 35)) || ((c.toNat:Int) == 92)) || ((c.toNat:Int) == 94)) || ((c.toNat:Int) == 123)) || ((c.toNat:Int) == 124)) || ((c.toNat:Int) == 125)) || ((c.toNat:Int) == 96)) == !X3e c) (by decide +kernel) c)
theorem Xhy (s:List UInt8) (hl:s.length<=1000000) (B w:World) (I:Im) (As:List X7) (hS:Sat B w I As):Calls Tryz.prog 224 [S s].toArray w (Ret fun v w'=>∃ n1 e1,v=.tuple #[S n1,I64 e1]/\(match X4c s with | none=>n1=[]/\e1=11 | some t=>n1=t/\e1=0)/\Sat B w' I As) :=
 (Xdm s hl B w I As hS).mono fun e w' he=>by
  obtain ⟨v,rfl,rfl,h⟩:=he;cases X4c s with
  | none=>exact ⟨_,rfl,_,_,rfl,⟨rfl,rfl⟩,h⟩
  | some t=>exact ⟨_,rfl,_,_,rfl,⟨rfl,rfl⟩,h⟩
set_option maxRecDepth 4000 in
theorem Xjm (s:List UInt8) (hl:s.length<=1000000) (B w:World) (I:Im) (As:List X7) (hS:Sat B w I As) :
  Cz 181 [S s] w fun v w'=>∃ n1 b1,v=.tuple #[S n1,.bool b1]/\(match X22 s with | none=>b1=false | some t=>n1=t/\b1=true)/\n1.length<=s.length/\Sat B w' I As:=by
 refine calls Tryz.func181 rfl Tryz.ntmps181 rfl (.seq (.q 2 rfl (.seq (.seq (.q 1 rfl (.block (.loop (σ:=Nat) (fun i=>[(0,S s),(4,I64 (i:Nat))]) (fun i w=>i<=s.length/\(∀ j,j<i->j<s.length->X3e (at_ s (j:Int))=true)/\Sat B w I As) (fun i=>s.length - i) 0 ⟨rfl,rfl,trivial⟩ ⟨Yo _,fun _ h=>absurd h (by omega),hS⟩ ?_)))))));rintro i w ⟨hi,hok,hS⟩;refine .seq (.seq (.region (.run 4 rfl ⟨Qu9,trivial⟩ (.nil ?_))));refine .cond rfl (fun hb11=>?_) fun hb11=>?_
 ·have hc11:=hb11; simp only [Y6] at hc11;refine .skip (.seq (.block (.seq (.region (.run 4 rfl ⟨⟨⟨by omega,by omega⟩,Qu9⟩,trivial⟩ (.nil (.seq (.t 3 rfl (.gm rfl rfl rfl rfl (.gval rfl rfl (fun hg1=>(.gtr (.gd hg1 rfl) (.of rfl))) rfl (.val (.po rfl rfl rfl) rfl (.q 1 rfl (.gm rfl rfl rfl rfl (.gval rfl rfl (fun hg1=>(.eql (.gd hg1 rfl) (.of rfl))) rfl (.val (.po rfl rfl rfl) rfl (.q 1 rfl (.gm rfl rfl rfl rfl (.gval rfl rfl (fun hg1=>(.eql (.gd hg1 rfl) (.of rfl))) rfl (.val (.po rfl rfl rfl) rfl (.q 1 rfl (.gm rfl rfl rfl rfl (.gval rfl rfl (fun hg1=>(.eql (.gd hg1 rfl) (.of rfl))) rfl (.val (.po rfl rfl rfl) rfl (.q 1 rfl (.gm rfl rfl rfl rfl (.gval rfl rfl (fun hg1=>(.eql (.gd hg1 rfl) (.of rfl))) rfl (.val (.po rfl rfl rfl) rfl (.q 1 rfl (.gm rfl rfl rfl rfl (.gval rfl rfl (fun hg1=>(.eql (.gd hg1 rfl) (.of rfl))) rfl (.val (.po rfl rfl rfl) rfl (.q 1 rfl (.gm rfl rfl rfl rfl (.gval rfl rfl (fun hg1=>(.eql (.gd hg1 rfl) (.of rfl))) rfl (.val (.po rfl rfl rfl) rfl (.q 1 rfl (.gm rfl rfl rfl rfl (.gval rfl rfl (fun hg1=>(.eql (.gd hg1 rfl) (.of rfl))) rfl (.val (.po rfl rfl rfl) rfl (.q 1 rfl (.gm rfl rfl rfl rfl (.gval rfl rfl (fun hg1=>(.eql (.gd hg1 rfl) (.of rfl))) rfl (.val (.po rfl rfl rfl) rfl (.q 1 rfl (.gm rfl rfl rfl rfl (.gval rfl rfl (fun hg1=>(.eql (.gd hg1 rfl) (.of rfl))) rfl (.val (.po rfl rfl rfl) rfl (.q 1 rfl (.gm rfl rfl rfl rfl (.gval rfl rfl (fun hg1=>(.eql (.gd hg1 rfl) (.of rfl))) rfl (.val (.po rfl rfl rfl) rfl (.nil ?_))))))))))))))))))))))))))))))))))))))))))))))))))));refine .cond rfl (fun hb62=>?_) fun hb62=>?_
  ·have hc62:=hb62; simp only [Y6] at hc62;refine .seq (.q 2 rfl (.ret (X1t Tryz.results181 rfl rfl ?_)));refine ⟨_,rfl,[],false,rfl,?_,Yo _,hS⟩;have hh:=Xck (at_ s (i:Int));rw [hb62] at hh
   have:X22 s=none:=by rw [X22,X5a (p:=X3e) (i:=i) (by omega) (by simpa using hh.symm)]; rfl
   rw [this]
  have hc62:=hb62; simp only [Y6] at hc62;refine .skip (.region (.run 3 rfl ⟨⟨by omega,by omega⟩,trivial⟩ (.nil ?_)));refine ⟨i+1,⟨rfl,rfl,trivial⟩,⟨by omega,fun j hj hjl=>?_,hS⟩,by omega⟩;rcases Yp j i with h1 | h1
  ·exact hok j h1 hjl
  ·have e:j=i:=by omega
   subst e;have hh:=Xck (at_ s (j:Int));rw [hb62] at hh;simpa using hh.symm
 have hc11:=hb11; simp only [Y6] at hc11;refine .exit (.seq (.t 1 rfl (.call Tryz.func224 rfl (ec9 rfl X0) rfl (Xhy s hl B _ I _ hS) ?_)));rintro _ w ⟨n1,e1,rfl,hne,hS⟩;refine .q 5 rfl (.nil (.seq (.q 5 rfl (.ret (X1t Tryz.results181 rfl rfl ?_)))));have hall:s.all X3e=true:=X69 hok (by omega);cases hn:X4c s with
 | none =>
  rw [hn] at hne;obtain ⟨rfl,rfl⟩:=hne;refine ⟨_,rfl,[],false,rfl,?_,Yo _,hS⟩
  have:X22 s=none:=by rw [X22,if_pos hall,hn]
  rw [this]
 | some t =>
  rw [hn] at hne;obtain ⟨rfl,rfl⟩:=hne;refine ⟨_,rfl,n1,true,rfl,?_,Xdj s _ hn,hS⟩
  have:X22 s=some n1:=by rw [X22,if_pos hall,hn]
  rw [this];exact ⟨rfl,rfl⟩
theorem Xlp (s:List UInt8) (hl:s.length<=1000000) (B w:World) (I:Im) (As:List X7) (hS:Sat B w I As) :
  Cz 225 [S s,U8 47] w fun v w'=>Sat B w' I (Vec 9 1 v (spl s).length ((spl s).map S)::As):=by
 refine calls Tryz.func225 rfl Tryz.ntmps225 rfl (.seq (.q 1 rfl (.seq (.q 1 rfl (.seq (.q 1 rfl (.seq (.seq (.q 1 rfl (.block ?_))))))))));replace hS:=hS.vecNil 9 1;refine .loop (σ:=Value×List (List UInt8)×Nat×Nat) (fun ⟨kv,out,fr,i⟩=>[(0,S s),(1,U8 47),(5,kv),(6,I64 (fr:Nat)),(7,I64 (i:Nat))]) (fun ⟨kv,out,fr,i⟩ w=>i<=s.length/\fr<=i/\spl s=out ++ spl (s.drop fr)/\(∀ j,fr<=j->j<i->at_ s (j:Int)≠47)/\Sat B w I (Vec 9 1 kv out.length (out.map S)::As)) (fun ⟨kv,out,fr,i⟩=>s.length - i) (.slice none 0 0,[],0,0) ⟨rfl,rfl,rfl,rfl,rfl,trivial⟩ ⟨Yo _,Yo _,rfl,fun _ h1 h2=>by (try dsimp only at h1 h2); omega,hS⟩ ?_;rintro ⟨kv,out,fr,i⟩ w ⟨hi,hfi,hsp,hno,hS⟩;refine .seq (.seq (.region (.run 4 rfl ⟨Qu9,trivial⟩ (.nil ?_))));refine .cond rfl (fun hb11=>?_) fun hb11=>?_
 ·have hc11:=hb11; simp only [Y6] at hc11;refine .skip (.seq (.block (.seq (.region (.run 5 rfl ⟨⟨⟨by omega,by omega⟩,Qu9⟩,trivial⟩ (.nil ?_))))));refine .cond rfl (fun hb18=>?_) fun hb18=>?_
  ·have hc18:=hb18; simp only [Y6] at hc18;refine .seq ?_;have hto:=congrArg List.length hsp;rw [Y0] at hto;have hlt:=X57 (spl s);rw [X3r] at hlt;have hsn:1<=(spl (s.drop fr)).length:=Y20.2 (Xb1 _);obtain ⟨ka,kc,rfl,hkc,_⟩:=hS.vecSlice (k:=0) (v:=kv) rfl;refine .t 4 rfl (.val (.sub3 (.of rfl) (.of rfl) (.of rfl) (by omega) (by omega) (by omega) Qu9) rfl ?_);simp only [Yf]
   refine .buildSlice (cs:=[_]) hS (pc9 rfl X4) X1u Qs9 Qz9 rfl rfl rfl rfl ?_;intro b24 w hS;refine .append (size:=1) (bytes:=16) hS (.of rfl) (.of rfl) (k:=0) rfl X1u X2v rfl rfl rfl rfl rfl rfl rfl ⟨by omega,by unfold maxLen; omega⟩ rfl ?_;intro v25 w hS;obtain ⟨a25,c25,rfl,hcap25,_⟩:=hS.vecSlice (k:=0) (v:=v25) rfl;refine .q 1 rfl (.nil (.region (.run 3 rfl ⟨⟨by omega,by omega⟩,trivial⟩ (.nil (.region (.run 3 rfl ⟨⟨by omega,by omega⟩,trivial⟩ (.nil ?_)))))));refine ⟨(_,out ++ [(s.drop fr).take (i - fr)],i+1,i+1),⟨rfl,rfl,rfl,rfl,rfl,trivial⟩,⟨by (try dsimp only); omega,by (try dsimp only); omega,?_,fun j h1 h2=>by (try dsimp only at h1 h2); omega,?_⟩,by (try dsimp only); omega⟩
   ·rw [hsp,Xdw (s:=s.drop fr) (i:=i - fr) (by rw [Y1d,show fr+(i - fr)=i by omega,Xy (by omega)]; congr 1; exact Y18.1 (by show (at_ s (i:Int)).toNat=47; simp only [beq_iff_eq] at hb18; omega)) (fun q hq e=>by
     rw [Y1d,Xy (by omega)] at e;injection e with e
     exact hno (fr+q) (by omega) (by omega) e),Y1i,show fr+(i - fr+1)=i+1 by omega,Yd]
    rfl
   ·rw [Yw,Y0]; exact hS
  have hc18:=hb18; simp only [Y6] at hc18;refine .skip (.region (.run 3 rfl ⟨⟨by omega,by omega⟩,trivial⟩ (.nil ?_)));refine ⟨(_,out,fr,i+1),⟨rfl,rfl,rfl,rfl,rfl,trivial⟩,⟨by (try dsimp only); omega,by (try dsimp only); omega,hsp,fun j h1 h2=>?_,hS⟩,by (try dsimp only); omega⟩;rcases Yp j i with h3 | h3
  ·exact hno j h1 h3
  ·have e:j=i:=by (try dsimp only at h2); omega
   subst e;simp only [beq_eq_false_iff_ne] at hb18
   exact fun e=>hb18 (by rw [e]; rfl)
 have hc11:=hb11; simp only [Y6] at hc11;refine .exit (.seq ?_);have hto:=congrArg List.length hsp;rw [Y0] at hto;have hlt:=X57 (spl s);rw [X3r] at hlt;have hsn:1<=(spl (s.drop fr)).length:=Y20.2 (Xb1 _);obtain ⟨ka,kc,rfl,hkc,_⟩:=hS.vecSlice (k:=0) (v:=kv) rfl;refine .t 3 rfl (.val (.subFrom (.of rfl) (.of rfl) (by omega) (by omega) Qu9) rfl ?_);simp only [Yf]
 refine .buildSlice (cs:=[_]) hS (pc9 rfl X4) X1u Qs9 Qz9 rfl rfl rfl rfl ?_;intro b32 w hS;refine .append (size:=1) (bytes:=16) hS (.of rfl) (.of rfl) (k:=0) rfl X1u X2v rfl rfl rfl rfl rfl rfl rfl ⟨by omega,by unfold maxLen; omega⟩ rfl ?_;intro v33 w hS;obtain ⟨a33,c33,rfl,hcap33,_⟩:=hS.vecSlice (k:=0) (v:=v33) rfl;refine .q 1 rfl (.nil (.ret (Xc Tryz.results225 rfl ?_)));have hend:spl s=out ++ [s.drop fr]:=by
  rw [hsp,X9o (s.drop fr) fun x hx ex=>?_];obtain ⟨q,hq⟩:=Yy.1 hx;rw [Y1d] at hq;have hql:=(Y5.1 hq).1;rw [Xy hql] at hq;injection hq with hq
  exact hno (fr+q) (by omega) (by omega) (hq.trans ex)
 refine ⟨_,rfl,?_⟩;rw [hend,Yw,Y0];exact hS
end Go.Proofs.YtbciobiiejpdgaaGreatDoor
namespace Go.Proofs.YtbciobiiejpdgaaGreatDoor
open Gk Pc Ul Pat
set_option maxHeartbeats 800000 in
theorem Xhu (p:List UInt8) (hl:p.length<=1000000) (B w:World) (I:Im) (As:List X7) (hS:Sat B w I As) :
  Cz 182 [S p] w fun v w'=>v=S (X9c p)/\Sat B w' I As:=by
 refine calls Tryz.func182 rfl Tryz.ntmps182 rfl (.seq (.q 1 rfl (.seq (.seq (.t 3 rfl (.gm rfl rfl rfl rfl ?_))))));refine .gval rfl rfl (fun hg1=>.index (.gd hg1 rfl) (.of rfl) (by omega) (by cases p with | nil=>simp at hg1 | cons a b=>simp only [List.length_cons]; omega) Qu9) rfl ?_;refine .gval rfl rfl (fun hg1=>(.neq (.gd hg1 rfl) (.of rfl))) rfl (.val (.po rfl rfl rfl) rfl (.nil ?_));refine .cond rfl (fun hb15=>?_) fun hb15=>?_
 ·have hc15:=hb15; simp only [Y6] at hc15;refine .seq (.q 2 rfl (.ret (Xc Xv6 rfl ?_)));refine ⟨_,rfl,?_,hS⟩;cases p with
  | nil=>rfl
  | cons a b =>
   rw [X9c,if_neg (fun e=>?_)];subst e;rcases hc15 with h | h
   ·cases h
   ·exact absurd (show (((47:UInt8).toNat:Nat):Int)=47 from rfl) h
 have hc15:=hb15; simp only [Y6] at hc15;refine .skip (.seq ?_);have hp1:1<=p.length:=by cases p with | nil=>simp at hb15 | cons a b=>simp
 have hpn:=X57 (spl (p.drop 1));rw [X3r,Yg] at hpn;have hn1:0<(spl (p.drop 1)).length:=Y20.2 (Xb1 _);refine .t 1 rfl (.val (.subFrom (.of rfl) (.of rfl) (by omega) (by omega) Qu9) rfl ?_);refine .call Tryz.func225 rfl (ec9 rfl (ec9 rfl X0)) rfl (Xlp (p.drop 1) (by rw [Yg]; omega) B _ I _ hS) ?_;rintro _ w hS;obtain ⟨gl,cl,rl,rfl,_,_,_,_,hS⟩:=hS.vecOpen (k:=0) rfl hn1;try dsimp only [List.set] at hS
 refine .q 1 rfl (.nil (.seq (.q 1 rfl (.seq (.seq (.q 1 rfl (.block ?_)))))));replace hS:=hS.vecNil 9 1;refine .loop (σ:=Value×Nat) (fun ⟨kv,i⟩=>[(3,.slice (some (ad gl 0)) (spl (p.drop 1)).length cl),(4,kv),(5,I64 (i:Nat))]) (fun ⟨kv,i⟩ w=>i<=(spl (p.drop 1)).length/\Sat B w I (Vec 9 1 kv (List.foldl keep [] ((spl (p.drop 1)).take i)).length ((List.foldl keep [] ((spl (p.drop 1)).take i)).map S)::blk gl ((spl (p.drop 1)).map S ++ rl) 9::As)) (fun ⟨kv,i⟩=>(spl (p.drop 1)).length - i) (.slice none 0 0,0) ⟨rfl,rfl,rfl,trivial⟩ ⟨Yo _,hS⟩ ?_;rintro ⟨kv,i⟩ w ⟨hi,hS⟩;refine .seq (.seq (.region (.run 4 rfl ⟨⟨_,X1u⟩,trivial⟩ (.nil ?_))));refine .cond rfl (fun hb23=>?_) fun hb23=>?_
 ·have hc23:=hb23; simp only [Y6] at hc23;refine .skip (.seq (.block (.seq (.seq ?_))));obtain ⟨x,hx⟩:∃ x,(spl (p.drop 1))[i]?=some x:=⟨_,Y4 (by omega)⟩
  have hxb:((spl (p.drop 1)).map S ++ rl)[0+(i:Int).toNat*1]?=some (S x):=by rw [Yc,Yf,Y1n,Yi (by rw [Y14]; omega),Yu,hx]; rfl
  have hKn:(List.foldl keep [] ((spl (p.drop 1)).take (i+1)))=keep (List.foldl keep [] ((spl (p.drop 1)).take i)) x:=by rw [Yz,hx,Y2r]; rfl
  obtain ⟨ka,kc,rfl,hkc,_⟩:=hS.vecSlice (k:=0) (v:=kv) rfl;have hKl:(List.foldl keep [] ((spl (p.drop 1)).take i)).length<=1000001:=by
   have h1:=X57 (List.foldl keep [] ((spl (p.drop 1)).take i));have h2:=X7s ((spl (p.drop 1)).take i) [];have h3:tot (spl (p.drop 1))=tot ((spl (p.drop 1)).take i)+tot ((spl (p.drop 1)).drop i):=by rw [<- X8p,Yv]
   have h4:=X3r (p.drop 1);rw [Yg] at h4;rw [show tot []=0 from rfl] at h2;omega
  refine .t 2 rfl (.val (.io rfl rfl (by omega) (by omega) X1u Qs9) rfl (.val (.ld (v:=S x) (.of rfl) hS (k:=1) rfl Qg9 hxb) rfl (.q 2 rfl (.gm rfl rfl rfl rfl (.gval rfl rfl (fun hg1=>(.lenSlice (.gd hg1 rfl) X1u)) rfl (.gval rfl rfl (fun hg1=>(.gtr (.gd hg1 rfl) (.of rfl))) rfl (.val (.pa rfl rfl rfl) rfl (.nil ?_))))))));refine .cond rfl (fun hb35=>?_) fun hb35=>?_
  ·have hc35:=hb35; simp only [Y6] at hc35;have hx2:x=[46,46]/\0<(List.foldl keep [] ((spl (p.drop 1)).take i)).length:=by
    simp only [Yn,beq_iff_eq,decide_eq_true_eq] at hb35
    exact ⟨hb35.1,by omega⟩
   obtain ⟨gk,ck,rk,hvv,_,_,_,_,hS⟩:=hS.vecOpen (k:=0) rfl hx2.2;injection hvv with hv1 hv2 hv3
   subst hv1; subst hv3;try dsimp only [List.set] at hS
   refine .region (.buildSlice (cs:=[]) hS X4 X1u Qs9 Qz9 rfl rfl rfl rfl ?_);intro b36 w hS;refine .run 4 rfl ⟨⟨_,X1u⟩,⟨by omega,by omega⟩,trivial⟩ (.val (.slcTo (.of rfl) (.of rfl) (by omega) (by omega) X1u Qs9) rfl ?_);rw [X4p];refine .append0p (bytes:=16) (news:=(List.foldl keep [] ((spl (p.drop 1)).take i)).map S) (rest':=rk) hS (.of rfl) (.of rfl) (k:=0) rfl (by rw [Y14]; omega) X1u X2v rfl rfl rfl rfl (fun u hu=>by obtain ⟨y,_,rfl⟩:=Y2b.1 hu; rfl) ⟨by omega,by unfold maxLen; omega⟩ rfl ?_;intro v42 w hS;replace hS:Sat B w I (Vec 9 1 v42 ((List.foldl keep [] ((spl (p.drop 1)).take i)).take ((List.foldl keep [] ((spl (p.drop 1)).take i)).length - 1)).length (((List.foldl keep [] ((spl (p.drop 1)).take i)).take ((List.foldl keep [] ((spl (p.drop 1)).take i)).length - 1)).map S)::blk gl ((spl (p.drop 1)).map S ++ rl) 9::As):=by
    have h:=hS.drop (k:=1) rfl;rw [show (((List.foldl keep [] ((spl (p.drop 1)).take i)).length:Int) - 1).toNat=(List.foldl keep [] ((spl (p.drop 1)).take i)).length - 1 by omega,<- List.map_take] at h;rw [show ((List.foldl keep [] ((spl (p.drop 1)).take i)).take ((List.foldl keep [] ((spl (p.drop 1)).take i)).length - 1)).length=(List.foldl keep [] ((spl (p.drop 1)).take i)).length - 1 by rw [Yr]; omega];exact h
   refine .q 1 rfl (.nil (.seq (.t 2 rfl (.val (.io rfl rfl (by omega) (by omega) X1u Qs9) rfl (.val (.ld (v:=S x) (.of rfl) hS (k:=1) rfl Qg9 hxb) rfl (.q 2 rfl (.gm rfl rfl rfl rfl (.gm rfl rfl rfl rfl ?_))))))));refine .gval rfl rfl (fun hg1=>(.indexAddr (.gd hg1 rfl) (.gd hg1 rfl) (by (try simp only [Y6] at hg1); omega) (by (try simp only [Y6] at hg1); omega) X1u Qs9)) rfl ?_;refine .gval rfl rfl (fun hg1=>.ld (v:=S x) (.gd hg1 rfl) hS (k:=1) rfl Qg9 hxb) rfl (.gval rfl rfl (fun hg1=>(.nes (.gd hg1 rfl) (.of rfl))) rfl (.val (.pa rfl rfl rfl) rfl (.nil ?_)));refine .condF (by show some (Value.bool (x != [46] && x != [46,46]))=_; rw [hx2.1]; rfl) ?_;refine .skip (.region (.run 3 rfl ⟨⟨by omega,by omega⟩,trivial⟩ (.nil ?_)));refine ⟨(_,i+1),⟨rfl,rfl,rfl,trivial⟩,⟨by (try dsimp only); omega,?_⟩,by (try dsimp only); omega⟩;rw [hKn,keep,if_neg (by rw [hx2.1]; decide),if_pos hx2.1,List.dropLast_eq_take];exact hS
  have hc35:=hb35; simp only [Y6] at hc35;refine .skip (.seq (.t 2 rfl (.val (.io rfl rfl (by omega) (by omega) X1u Qs9) rfl (.val (.ld (v:=S x) (.of rfl) hS (k:=1) rfl Qg9 hxb) rfl (.q 2 rfl (.gm rfl rfl rfl rfl (.gm rfl rfl rfl rfl ?_)))))));refine .gval rfl rfl (fun hg1=>(.indexAddr (.gd hg1 rfl) (.gd hg1 rfl) (by (try simp only [Y6] at hg1); omega) (by (try simp only [Y6] at hg1); omega) X1u Qs9)) rfl ?_;refine .gval rfl rfl (fun hg1=>.ld (v:=S x) (.gd hg1 rfl) hS (k:=1) rfl Qg9 hxb) rfl (.gval rfl rfl (fun hg1=>(.nes (.gd hg1 rfl) (.of rfl))) rfl (.val (.pa rfl rfl rfl) rfl (.nil ?_)));refine .cond rfl (fun hb54=>?_) fun hb54=>?_
  ·have hc54:=hb54; simp only [Y6] at hc54;refine .t 3 rfl (.val (.io rfl rfl (by omega) (by omega) X1u Qs9) rfl (.val (.ld (v:=S x) (.of rfl) hS (k:=1) rfl Qg9 hxb) rfl (.buildSlice (cs:=[_]) hS (pc9 rfl X4) X1u Qs9 Qz9 rfl rfl rfl rfl ?_)));intro b60 w hS;refine .append (size:=1) (bytes:=16) hS (.of rfl) (.of rfl) (k:=0) rfl X1u X2v rfl rfl rfl rfl rfl rfl rfl ⟨by omega,by unfold maxLen; omega⟩ rfl ?_;intro v61 w hS;obtain ⟨a61,c61,rfl,hcap61,_⟩:=hS.vecSlice (k:=0) (v:=v61) rfl;refine .q 1 rfl (.nil (.region (.run 3 rfl ⟨⟨by omega,by omega⟩,trivial⟩ (.nil ?_))));refine ⟨(_,i+1),⟨rfl,rfl,rfl,trivial⟩,⟨by (try dsimp only); omega,?_⟩,by (try dsimp only); omega⟩;rw [hKn,keep,if_neg hc54.1,if_neg hc54.2,Yw,Y0];exact hS
  have hc54:=hb54; simp only [Y6] at hc54;refine .skip (.region (.run 3 rfl ⟨⟨by omega,by omega⟩,trivial⟩ (.nil ?_)));refine ⟨(_,i+1),⟨rfl,rfl,rfl,trivial⟩,⟨by (try dsimp only); omega,?_⟩,by (try dsimp only); omega⟩;have hke:=Xoo (k:=(List.foldl keep [] ((spl (p.drop 1)).take i))) hc54 (fun e=>Yj (by rcases hc35 with h | h; exact absurd e h; omega));rw [hKn,hke];exact hS
 have hc23:=hb23; simp only [Y6] at hc23;refine .exit (.seq ?_);have hin:i=(spl (p.drop 1)).length:=by omega
 subst hin;rw [Y15] at hS;obtain ⟨ka,kc,rfl,hkc,_⟩:=hS.vecSlice (k:=0) (v:=kv) rfl;have htot:=X7s (spl (p.drop 1)) [];rw [X3r,show tot []=0 from rfl,Yc,Yg] at htot;have hkt:=X57 (List.foldl keep [] (spl (p.drop 1)));refine .q 1 rfl (.seq (.seq (.q 1 rfl (.block (.loop (σ:=Nat) (fun j=>[(3,.slice (some (ad gl 0)) (spl (p.drop 1)).length cl),(4,.slice ka (List.foldl keep [] (spl (p.drop 1))).length kc),(6,S (X18 ((List.foldl keep [] (spl (p.drop 1))).take j))),(7,I64 (j:Nat))]) (fun j w=>j<=(List.foldl keep [] (spl (p.drop 1))).length/\Sat B w I (Vec 9 1 (.slice ka (List.foldl keep [] (spl (p.drop 1))).length kc) (List.foldl keep [] (spl (p.drop 1))).length ((List.foldl keep [] (spl (p.drop 1))).map S)::blk gl ((spl (p.drop 1)).map S ++ rl) 9::As)) (fun j=>(List.foldl keep [] (spl (p.drop 1))).length - j) 0 ⟨rfl,rfl,rfl,rfl,trivial⟩ ⟨Yo _,hS⟩ ?_)))));rintro j w ⟨hj,hS⟩;refine .seq (.seq (.region (.run 4 rfl ⟨⟨_,X1u⟩,trivial⟩ (.nil ?_))));refine .cond rfl (fun hb65=>?_) fun hb65=>?_
 ·have hc65:=hb65; simp only [Y6] at hc65;refine .skip (.seq (.block ?_));obtain ⟨x,hx⟩:∃ x,(List.foldl keep [] (spl (p.drop 1)))[j]?=some x:=⟨_,Y4 (by omega)⟩
  have hsn:X18 ((List.foldl keep [] (spl (p.drop 1))).take (j+1))=X18 ((List.foldl keep [] (spl (p.drop 1))).take j) ++ 47::x:=by rw [Yz,hx]; exact Xay _ _
  have hsl:(X18 ((List.foldl keep [] (spl (p.drop 1))).take j)).length+(x.length+1)<=tot (List.foldl keep [] (spl (p.drop 1))):=by
   rw [show x.length+1=(47::x).length from rfl,<- Y0,<- hsn,X3d]
   have:tot (List.foldl keep [] (spl (p.drop 1)))=tot ((List.foldl keep [] (spl (p.drop 1))).take (j+1))+tot ((List.foldl keep [] (spl (p.drop 1))).drop (j+1)):=by rw [<- X8p,Yv]
   omega
  obtain ⟨g19,rest19,hS19⟩:∃ g rest,ka=some (ad g 0)/\Sat B w I (blk g ((List.foldl keep [] (spl (p.drop 1))).map S ++ rest) 9::blk gl ((spl (p.drop 1)).map S ++ rl) 9::As):=by
   obtain ⟨g,c,rest,hv,_,_,_,_,hs⟩:=hS.vecOpen (k:=0) rfl (by omega);injection hv with hv1 hv2 hv3
   exact ⟨g,rest,hv1,hs⟩
  obtain ⟨rfl,hS19⟩:=hS19;refine .region (.run 4 rfl ⟨by (try simp only [Y0,List.length_cons,List.length_nil]); omega,trivial⟩ (.val (.indexAddr (b:=g19) (o:=0) (.of rfl) (.of rfl) (by omega) (by omega) X1u Qs9) rfl ?_));refine .val (.ld (v:=S x) (.of rfl) hS19 (k:=0) rfl Qg9 (by rw [Yc,Yf,Y1n,Yi (by rw [Y14]; omega),Yu,hx]; rfl)) rfl ?_;clear hS19;refine .run 2 rfl ⟨by (try simp only [Y0,List.length_cons,List.length_nil]); omega,trivial⟩ (.nil (.region (.run 3 rfl ⟨⟨by omega,by omega⟩,trivial⟩ (.nil ?_))));refine ⟨j+1,⟨rfl,rfl,by show some (S _)=some _; rw [hsn]; simp,rfl,trivial⟩,⟨by omega,hS⟩,by omega⟩
 have hc65:=hb65; simp only [Y6] at hc65;refine .exit (.seq ?_);have hjn:(List.foldl keep [] (spl (p.drop 1))).take j=(List.foldl keep [] (spl (p.drop 1))):=Yx (by omega);have hsl2:(X18 ((List.foldl keep [] (spl (p.drop 1))).take j)).length<=tot (List.foldl keep [] (spl (p.drop 1))):=by rw [hjn,X3d]; exact Yq _
 have hn1:1<=(spl (p.drop 1)).length:=Y20.2 (Xb1 _);obtain ⟨x,hx⟩:∃ x,(spl (p.drop 1))[(spl (p.drop 1)).length - 1]?=some x:=⟨_,Y4 (by omega)⟩
 have hxb:((spl (p.drop 1)).map S ++ rl)[0+(((spl (p.drop 1)).length:Int) - 1).toNat*1]?=some (S x):=by rw [Yc,show (((spl (p.drop 1)).length:Int) - 1).toNat=(spl (p.drop 1)).length - 1 by omega,Y1n,Yi (by rw [Y14]; omega),Yu,hx]; rfl
 have hlast:(spl (p.drop 1)).getLastD []=x:=by rw [Y47,Y46,hx]; rfl
 have hpc:p=47::p.drop 1:=by
  cases p with
  | nil=>simp at hb15
  | cons a b =>
   have h:=hb15;rw [show ((a::b:List UInt8) == [])=false from rfl,Y3m] at h
   have:a=47:=Y18.1 (by
    have h2:(((a.toNat:Int)) != 47)=false:=h;simp only [bne_eq_false_iff_eq] at h2
    show a.toNat=47
    omega)
   rw [this]; rfl
 have hall:X9c p=X18 (List.foldl keep [] (spl (p.drop 1))) ++ (if X65 ((spl (p.drop 1)).getLastD []) || (List.foldl keep [] (spl (p.drop 1))).length == 0 then [47] else []):=by rw [hpc,X9c,if_pos rfl]; rfl
 refine .region (.run 4 rfl ⟨⟨_,X1u⟩,⟨by omega,by omega⟩,trivial⟩ (.val (.io rfl rfl (by omega) (by omega) X1u Qs9) rfl (.val (.ld (v:=S x) (.of rfl) hS (k:=1) rfl Qg9 hxb) rfl (.q 1 rfl (.nil (.seq (.seq (.t 3 rfl (.gm rfl rfl rfl rfl (.gval rfl rfl (fun hg1=>(.eqs (.gd hg1 rfl) (.of rfl))) rfl (.val (.po rfl rfl rfl) rfl (.q 1 rfl (.gm rfl rfl rfl rfl (.gval rfl rfl (fun hg1=>(.lenSlice (.gd hg1 rfl) X1u)) rfl (.gval rfl rfl (fun hg1=>(.eql (.gd hg1 rfl) (.of rfl))) rfl (.val (.po rfl rfl rfl) rfl (.nil ?_)))))))))))))))));refine .cond rfl (fun hb91=>?_) fun hb91=>?_
 ·refine .region (.run 3 rfl ⟨by (try simp only [Y0,List.length_cons,List.length_nil]); omega,trivial⟩ (.nil (.seq (.q 2 rfl (.ret (Xc Xv6 rfl ?_))))));refine ⟨_,rfl,?_,hS.y 0 2⟩;rw [hall,hjn,hlast];rw [if_pos (by simpa [X65] using hb91)]
 refine .skip (.seq (.q 2 rfl (.ret (Xc Xv6 rfl ?_))));refine ⟨_,rfl,?_,hS.y 0 2⟩;rw [hall,hjn,hlast];rw [if_neg (by rw [Y2q]; simpa [X65] using hb91),Y9]
theorem Xdn (u:U) (hu:X8t u) (B w:World) (I:Im) (As:List X7) (hS:Sat B w I As) :
  Cz 183 [.agg [S u.sch,S u.host,I64 (u.port:Nat),S u.path,S u.query,.bool u.ask].toArray] w fun v w'=>v=S (X7f u)/\Sat B w' I As:=by
 refine calls Tryz.func183 rfl Tryz.ntmps183 rfl (.seq (.region (.boxA (cs:=[_,_,_,_,_,_]) hS (.of rfl) rfl ?_)));intro b1 w hS;refine .q 1 rfl (.nil (.seq ?_));obtain ⟨hs1,hs2,hp,hs4,hs5⟩:=hu;have hd5:=X88 u.port hp;refine .region (.val (.fo 0 rfl X26 rfl rfl Qs9 rfl) rfl (.val (.lo rfl hS (k:=0) rfl Qg9 rfl) rfl ?_));refine .run 1 rfl ⟨by (try simp only [Y0,List.length_cons,List.length_nil]); omega,trivial⟩ (.val (.fo 1 rfl X26 rfl rfl Qs9 rfl) rfl (.val (.lo rfl hS (k:=0) rfl Qg9 rfl) rfl ?_));refine .run 2 rfl ⟨by (try simp only [Y0,List.length_cons,List.length_nil]); omega,trivial⟩ (.nil (.seq (.seq (.region (.val (.fo 2 rfl X26 rfl rfl Qs3 rfl) rfl (.val (.lo rfl hS (k:=0) rfl Qg3 rfl) rfl (.q 1 rfl (.nil ?_))))))));refine .cond rfl (fun hb12=>?_) fun hb12=>?_
 ·have hc12:=hb12; simp only [Y6] at hc12;refine .region (.run 2 rfl ⟨by (try simp only [Y0,List.length_cons,List.length_nil]); omega,trivial⟩ (.val (.fo 2 rfl X26 rfl rfl Qs3 rfl) rfl (.val (.lo rfl hS (k:=0) rfl Qg3 rfl) rfl (.call Tryz.func69 rfl (ec9 rfl X0) rfl (Xk6 u.port hp B _ I _ hS) ?_))));rintro _ w ⟨rfl,hS⟩;refine .run 2 rfl ⟨by (try simp only [Y0,List.length_cons,List.length_nil]); omega,trivial⟩ (.nil (.seq (.q 2 rfl (.ret (Xc Tryz.results183 rfl ?_)))));refine ⟨_,rfl,?_,hS.y 0 1⟩;rw [X7f,if_neg (by omega)];simp [Yd]
 have hc12:=hb12; simp only [Y6] at hc12;refine .skip (.seq (.q 2 rfl (.ret (Xc Tryz.results183 rfl ?_))));refine ⟨_,rfl,?_,hS.y 0 1⟩;rw [X7f,if_pos (by omega)];simp [Yd]
theorem Xdp (u:U) (hu:X8t u) (B w:World) (I:Im) (As:List X7) (hS:Sat B w I As) :
  Cz 138 [.agg [S u.sch,S u.host,I64 (u.port:Nat),S u.path,S u.query,.bool u.ask].toArray] w fun v w'=>v=S (Xxg u)/\Sat B w' I As:=by
 refine calls Tryz.func138 rfl Tryz.ntmps138 rfl (.seq (.region (.boxA (cs:=[_,_,_,_,_,_]) hS (.of rfl) rfl ?_)));clear hS; intro b1 w hS;refine .q 1 rfl (.nil (.seq ?_));have hol:=Xcb u hu;obtain ⟨hs1,hs2,hp,hs4,hs5⟩:=id hu;refine .dw (fun w=>∃ R,Sat B w I (blk b1 [S u.sch,S u.host,I64 (u.port:Nat),S u.path,S u.query,.bool u.ask] 213::R)) (fun j=>!([].contains j)) ?_;replace hS:=hS.drew; generalize w.drew=w at hS ⊢;have hH:=(hS.x [0])
 refine .tk 0 rfl ⟨_,hH⟩ (fun w ⟨R,hS⟩=>(.ldsW (cs:=[_,_,_,_,_,_]) (.of rfl) hS (k:=0) rfl X2s X14 rfl)) (.tp 2 rfl (fun w=>(.fo 3 rfl X26 rfl rfl Qs9 rfl)) (.tk 3 rfl ⟨_,hH⟩ (fun w ⟨R,hS⟩=>(.lo rfl hS (k:=0) rfl Qg9 rfl)) ?_));refine .b1 1 rfl (.call Tryz.func183 rfl (ec9 rfl X0) rfl (Xdn u hu B _ I _ hS) ?_);clear hS;rintro _ w ⟨rfl,hS⟩;refine .nil ?_;clear hH;have hH:=(hS.x [0])
 refine ⟨fun _ _=>⟨_,hH⟩,?_⟩;refine .tp 4 rfl (fun w=>(.cat (.of rfl) (.of rfl) (by (try simp only [Y0,List.length_cons,List.length_nil]); omega))) (.tp 5 rfl (fun w=>(.ao rfl)) (.dn (.seq (.seq (.region (.val (.fo 5 rfl X26 rfl rfl Qs4 rfl) rfl (.val (.lo rfl hS (k:=0) rfl Qg4 rfl) rfl (.nil ?_))))))));refine .cond rfl (fun hb10=>?_) fun hb10=>?_
 ·have hc10:=hb10; try simp only [Y6] at hc10
  refine .region (.run 2 rfl ⟨by (try simp only [Y0,List.length_cons,List.length_nil]); omega,trivial⟩ (.val (.fo 4 rfl X26 rfl rfl Qs9 rfl) rfl (.val (.lo rfl hS (k:=0) rfl Qg9 rfl) rfl ?_)));refine .run 2 rfl ⟨by (try simp only [Y0,List.length_cons,List.length_nil]); omega,trivial⟩ (.nil (.seq (.q 2 rfl (.ret (Xc Tryz.results138 rfl ?_)))));refine ⟨_,rfl,?_,hS.y 0 1⟩;rw [Xxg,if_pos hc10];simp [Yd]
 have hc10:=hb10; try simp only [Y6] at hc10
 refine .skip (.seq (.q 2 rfl (.ret (Xc Tryz.results138 rfl ?_))));refine ⟨_,rfl,?_,hS.y 0 1⟩;rw [Xxg,if_neg (by rw [hc10]; decide),Y9]
end Go.Proofs.YtbciobiiejpdgaaGreatDoor
namespace Go.Proofs.YtbciobiiejpdgaaGreatDoor
open Gk Pc Ul Pat
set_option maxHeartbeats 1000000 in
theorem Xfz (s:List UInt8) (hl:s.length<=1000000) (B w:World) (I:Im) (As:List X7) (hS:Sat B w I As) :
  Cz 137 [S s] w fun v w'=>v=.tuple #[.agg (uc (pU s).1).toArray,I64 ((pU s).2:Nat)]/\Sat B w' I As:=by
 refine calls Tryz.func137 rfl Tryz.ntmps137 rfl (.seq (.region (.allocA (cs:=[_,_,_,_,_,_]) hS Xgv rfl ?_)));intro b2 w hS;refine .q 1 rfl (.nil (.seq (.seq (.region (.run 3 rfl ⟨Qu9,trivial⟩ (.nil ?_))))));refine .cond rfl (fun hb20=>?_) fun hb20=>?_
 ·have hc20:=hb20; simp only [Y6] at hc20;refine .seq (.region (.val (.build (cs:=[_,_,_,_,_,_]) X4 Xu rfl) rfl (.so hS (k:=0) rfl rfl rfl rfl X14 rfl (by simp) ?_)));intro w hS;try simp only [Yk,Ye,Y9,Y7,Yh,Ym,Yc] at hS
  refine .q 1 rfl (.nil (.ret (X1k (b:=_) (cs:=[_,_,_,_,_,_]) Xbo hS (k:=0) rfl X2s X14 rfl rfl rfl ?_)));exact ⟨_,rfl,by rw [pU,if_pos (by omega)]; rfl,(hS.y 0 1)⟩
 have hc20:=hb20; simp only [Y6] at hc20;refine .skip (.seq (.q 1 rfl (.seq (.q 1 rfl ?_))));refine .cutS (σ:=List UInt8×Nat) (fun ⟨sc0,k0⟩=>[(0,S s),(2,ptr b2 0),(4,I64 (k0:Nat)),(5,S sc0)]) (fun ⟨sc0,k0⟩ w=>(sc0=[]/\k0=0/\¬ low (s.take 7)=[104,116,116,112,58,47,47]\/sc0=Xl9/\k0=7/\low (s.take 7)=[104,116,116,112,58,47,47])/\Sat B w I (blk b2 [S [],S [],I64 0,S [],S [],.bool false] 213::As)) ?_ ?_
 ·refine .seq (.region (.run 4 rfl ⟨Qu9,trivial⟩ (.gm rfl rfl rfl rfl ?_)));refine .gval rfl rfl (fun hg1=>(.subTo (.gd hg1 rfl) (.of rfl) (by (try simp only [Y6] at hg1); omega) (by (try simp only [Y6] at hg1); omega) Qu9)) rfl ?_;refine .gcall (T:=fun w=>Sat B w I (blk b2 [S [],S [],I64 0,S [],S [],.bool false] 213::As)) rfl rfl rfl Xqu rfl (fun hg1=>(Xd (.gd hg1 rfl) X0)) rfl (fun hg1=>Xaz _ (by rw [Yr]; omega) B _ I _ hS) hS ?_;rintro w hS;refine .gval rfl rfl (fun hg1=>(.eqs (.gd hg1 rfl) (.of rfl))) rfl (.val (.pa rfl rfl rfl) rfl (.nil ?_));refine .cond rfl (fun hb30=>?_) fun hb30=>?_
  ·refine .seq (.q 1 rfl (.q 1 rfl ?_));exact ⟨(Xl9,7),⟨rfl,rfl,rfl,rfl,trivial⟩,.inr ⟨rfl,rfl,(Xje (n:=7) rfl).1 hb30⟩,hS⟩
  refine .skip ?_;exact ⟨([],0),⟨rfl,rfl,rfl,rfl,trivial⟩,.inl ⟨rfl,rfl,fun e=>by have:=(Xje (n:=7) (X:=[104,116,116,112,58,47,47]) rfl).2 e; exact absurd (this.symm.trans hb30) (by decide)⟩,hS⟩
 rintro ⟨sc0,k0⟩ w ⟨hs7,hS⟩;refine .cutS (σ:=List UInt8×Nat) (fun ⟨sch,k⟩=>[(0,S s),(2,ptr b2 0),(4,I64 (k:Nat)),(5,S sch)]) (fun ⟨sch,k⟩ w=>(k=0/\X1y s=none\/X1y s=some (sch,s.drop k)/\0<k/\k<=s.length/\sch.length<=5/\(sch=Xl9\/sch=X7a))/\Sat B w I (blk b2 [S [],S [],I64 0,S [],S [],.bool false] 213::As)) ?_ ?_
 ·refine .seq (.region (.run 4 rfl ⟨Qu9,trivial⟩ (.gm rfl rfl rfl rfl ?_)));refine .gval rfl rfl (fun hg1=>(.subTo (.gd hg1 rfl) (.of rfl) (by (try simp only [Y6] at hg1); omega) (by (try simp only [Y6] at hg1); omega) Qu9)) rfl ?_;refine .gcall (T:=fun w=>Sat B w I (blk b2 [S [],S [],I64 0,S [],S [],.bool false] 213::As)) rfl rfl rfl Xqu rfl (fun hg1=>(Xd (.gd hg1 rfl) X0)) rfl (fun hg1=>Xaz _ (by rw [Yr]; omega) B _ I _ hS) hS ?_;rintro w hS;refine .gval rfl rfl (fun hg1=>(.eqs (.gd hg1 rfl) (.of rfl))) rfl (.val (.pa rfl rfl rfl) rfl (.nil ?_));refine .cond rfl (fun hb39=>?_) fun hb39=>?_
  ·refine .seq (.q 1 rfl (.q 1 rfl ?_));have h8:low (s.take 8)=[104,116,116,112,115,58,47,47]:=(Xje (n:=8) rfl).1 hb39;rcases hs7 with ⟨_,_,h7⟩ | ⟨_,_,h7⟩
   ·refine ⟨(X7a,8),⟨rfl,rfl,rfl,rfl,trivial⟩,.inr ⟨?_,by decide,?_,by decide,.inr rfl⟩,hS⟩
    ·rw [X1y,if_neg h7,if_pos h8]
    ·have:=congrArg List.length h8
     rw [X2b,Yr] at this; simp at this; (try dsimp only); omega
   ·exact (Xt8 h7 h8).elim
  refine .skip ?_;have h8:¬ low (s.take 8)=[104,116,116,112,115,58,47,47]:=fun e=>by have:=(Xje (n:=8) (X:=[104,116,116,112,115,58,47,47]) rfl).2 e; exact absurd (this.symm.trans hb39) (by decide)
  rcases hs7 with ⟨rfl,rfl,h7⟩ | ⟨rfl,rfl,h7⟩
  ·refine ⟨([],0),⟨rfl,rfl,rfl,rfl,trivial⟩,.inl ⟨rfl,?_⟩,hS⟩;rw [X1y,if_neg h7,if_neg h8]
  ·refine ⟨(Xl9,7),⟨rfl,rfl,rfl,rfl,trivial⟩,.inr ⟨?_,by decide,?_,by decide,.inl rfl⟩,hS⟩
   ·rw [X1y,if_pos h7]
   ·have:=congrArg List.length h7
    rw [X2b,Yr] at this; simp at this; (try dsimp only); omega
 rintro ⟨sch,k⟩ w ⟨hst,hS⟩;refine .seq (.seq (.q 2 rfl ?_));refine .cond rfl (fun hb41=>?_) fun hb41=>?_
 ·have hc41:=hb41; simp only [Y6] at hc41;refine .seq (.region (.val (.build (cs:=[_,_,_,_,_,_]) X4 Xu rfl) rfl (.so hS (k:=0) rfl rfl rfl rfl X14 rfl (by simp) ?_)));intro w hS;try simp only [Yk,Ye,Y9,Y7,Yh,Ym,Yc] at hS
  refine .q 1 rfl (.nil (.ret (X1k (b:=_) (cs:=[_,_,_,_,_,_]) Xbo hS (k:=0) rfl X2s X14 rfl rfl rfl ?_)));refine ⟨_,rfl,?_,(hS.y 0 1)⟩;have hnone:X1y s=none:=by
   rcases hst with h | h
   ·exact h.2
   ·exact absurd hc41 (by omega)
  rw [pU,if_neg (by omega),hnone]; rfl
 have hc41:=hb41; simp only [Y6] at hc41;refine .skip (.seq ?_);obtain ⟨hsome,hk1,hkl,hsl5,hsch⟩:X1y s=some (sch,s.drop k)/\0<k/\k<=s.length/\sch.length<=5/\(sch=Xl9\/sch=X7a):=by
  rcases hst with h | h
  ·exact absurd (by rw [h.1]; rfl) hc41
  ·exact h
 have hul:=X12 [47,63,35,58] (s.drop k);rw [Yg] at hul;have hlow:=X2b (upto [47,63,35,58] (s.drop k));refine .t 2 rfl (.call Xqv rfl (ec9 rfl (ec9 rfl (ec9 rfl X0))) rfl (Xd9 s [47,63,35,58] k hkl (by omega) (by decide) B _ I _ hS) ?_);rintro _ w ⟨rfl,hS⟩;refine .q 1 rfl (.nil (.seq (.t 3 rfl (.val (.sub3 (.of rfl) (.of rfl) (.of rfl) (by omega) (by omega) (by omega) Qu9) rfl ?_))));simp only [Yf]
 have hup:(s.drop k).take (k+(upto [47,63,35,58] (s.drop k)).length - k)=(upto [47,63,35,58] (s.drop k)):=by rw [Y3n,Xb9]
 refine .call Xqu rfl (ec9 rfl X0) rfl (Xaz _ (by rw [hup]; omega) B _ I _ hS) ?_;rintro _ w ⟨rfl,hS⟩;rw [hup];refine .q 1 rfl (.nil (.seq (.seq (.t 4 rfl (.gm rfl rfl rfl rfl (.gm rfl rfl rfl rfl (.gval rfl rfl (fun hg1=>(.sub (.gd hg1 rfl) (.gd hg1 rfl) ⟨by omega,by omega⟩)) rfl (.gval rfl rfl (fun hg1=>(.gtr (.gd hg1 rfl) (.of rfl))) rfl (.val (.po rfl rfl rfl) rfl (.nil ?_))))))))));refine .cond rfl (fun hb59=>?_) fun hb59=>?_
 ·have hc59:=hb59; simp only [Y6] at hc59;refine .seq (.region (.val (.build (cs:=[_,_,_,_,_,_]) X4 Xu rfl) rfl (.so hS (k:=0) rfl rfl rfl rfl X14 rfl (by simp) ?_)));intro w hS;try simp only [Yk,Ye,Y9,Y7,Yh,Ym,Yc] at hS
  refine .q 1 rfl (.nil (.ret (X1k (b:=_) (cs:=[_,_,_,_,_,_]) Xbo hS (k:=0) rfl X2s X14 rfl rfl rfl ?_)));refine ⟨_,rfl,?_,(hS.y 0 1)⟩;rw [pU,if_neg (by omega),hsome];simp only
  rw [X39,if_neg]
  ·rfl
  ·rw [X4t];rcases Y28.1 hb59 with h | h
   ·simp only [beq_iff_eq] at h
    have:(low (upto [47,63,35,58] (s.drop k)))=[]:=Yj (by rw [hlow]; omega)
    rw [this]; decide
   ·simp only [decide_eq_true_eq] at h
    rw [show decide (64<(low (upto [47,63,35,58] (s.drop k))).length)=true from decide_eq_true (by rw [hlow]; omega)]
    simp
 have hc59:=hb59; simp only [Y6] at hc59;refine .skip (.seq (.seq (.q 1 rfl (.block (.loop (σ:=Nat) (fun i=>[(0,S s),(2,ptr b2 0),(4,I64 (k:Nat)),(5,S sch),(6,I64 ((k+(upto [47,63,35,58] (s.drop k)).length:Nat):Int)),(7,S (low (upto [47,63,35,58] (s.drop k)))),(8,I64 (i:Nat))]) (fun i w=>i<=(low (upto [47,63,35,58] (s.drop k))).length/\(∀ j,j<i->j<(low (upto [47,63,35,58] (s.drop k))).length->Xdc (at_ (low (upto [47,63,35,58] (s.drop k))) (j:Int))=true)/\Sat B w I (blk b2 [S [],S [],I64 0,S [],S [],.bool false] 213::As)) (fun i=>(low (upto [47,63,35,58] (s.drop k))).length - i) 0 ⟨rfl,rfl,rfl,rfl,rfl,rfl,rfl,trivial⟩ ⟨Yo _,fun _ h=>absurd h (by omega),hS⟩ ?_)))));rintro i w ⟨hi,hok,hS⟩;refine .seq (.seq (.region (.run 4 rfl ⟨Qu9,trivial⟩ (.nil ?_))));refine .cond rfl (fun hb64=>?_) fun hb64=>?_
 ·have hc64:=hb64; simp only [Y6] at hc64;refine .skip (.seq (.block (.seq (.region (.run 4 rfl ⟨⟨⟨by omega,by omega⟩,Qu9⟩,trivial⟩ (.nil (.seq (.t 3 rfl (.gm rfl rfl rfl rfl (.gval rfl rfl (fun hg1=>(.gtr (.gd hg1 rfl) (.of rfl))) rfl (.val (.po rfl rfl rfl) rfl (.q 1 rfl (.gm rfl rfl rfl rfl (.gval rfl rfl (fun hg1=>(.lss (.gd hg1 rfl) (.of rfl))) rfl (.gval rfl rfl (fun hg1=>(.move (.gd hg1 rfl))) rfl (.gval2 rfl rfl rfl (fun hg1 hg2=>(.mo rfl)) rfl (.gval2 rfl rfl rfl (fun hg1 hg2=>(.gtr (.gd2 hg1 hg2 rfl) (.of rfl))) rfl (.gval rfl rfl (fun hg1=>(.por (.gd hg1 rfl) (.of rfl) (.gd hg1 rfl))) rfl (.val (.pa rfl rfl rfl) rfl (.q 1 rfl (.gm rfl rfl rfl rfl (.gval rfl rfl (fun hg1=>(.neq (.gd hg1 rfl) (.of rfl))) rfl (.val (.pa rfl rfl rfl) rfl (.q 1 rfl (.gm rfl rfl rfl rfl (.gval rfl rfl (fun hg1=>(.neq (.gd hg1 rfl) (.of rfl))) rfl (.val (.pa rfl rfl rfl) rfl (.nil ?_))))))))))))))))))))))))))));refine .cond rfl (fun hb91=>?_) fun hb91=>?_
  ·have hc91:=hb91; simp only [Y6] at hc91;refine .seq (.region (.val (.build (cs:=[_,_,_,_,_,_]) X4 Xu rfl) rfl (.so hS (k:=0) rfl rfl rfl rfl X14 rfl (by simp) ?_)));intro w hS;try simp only [Yk,Ye,Y9,Y7,Yh,Ym,Yc] at hS
   refine .q 1 rfl (.nil (.ret (X1k (b:=_) (cs:=[_,_,_,_,_,_]) Xbo hS (k:=0) rfl X2s X14 rfl rfl rfl ?_)));refine ⟨_,rfl,?_,(hS.y 0 1)⟩;rw [pU,if_neg (by omega),hsome];simp only
   rw [X39,if_neg]
   ·rfl
   ·rw [Xnk _ _ (by omega),Xfi] at hb91;rw [X4t,X5a (p:=Xdc) (i:=i) (by omega) (by rw [Xnk _ _ (by omega)]; simpa using hb91),Y43]; decide
  have hc91:=hb91; simp only [Y6] at hc91;refine .skip (.region (.run 3 rfl ⟨⟨by omega,by omega⟩,trivial⟩ (.nil ?_)));refine ⟨i+1,⟨rfl,rfl,rfl,rfl,rfl,rfl,rfl,trivial⟩,⟨by omega,fun j hj hjl=>?_,hS⟩,by omega⟩;rcases Yp j i with h1 | h1
  ·exact hok j h1 hjl
  ·have e:j=i:=by omega
   subst e;rw [Xnk _ _ (by omega)] at hb91 ⊢;rw [Xfi] at hb91;simpa using hb91
 have hc64:=hb64; simp only [Y6] at hc64;refine .exit (.seq (.t 2 rfl (.val (.build (cs:=[_,_,_,_,_,_]) (pc9 rfl (pc9 rfl X4)) Xu rfl) rfl (.allocA (cs:=[_,_,_,_,_,_]) hS Xgv rfl ?_))));intro b10 w hS;refine .so hS (k:=0) rfl rfl rfl rfl X14 rfl (by simp) ?_;intro w hS;try simp only [Yk,Ye,Y9,Y7,Yh,Ym,Yc] at hS
 refine .nil (.cutS (σ:=Nat×Nat) (fun ⟨port,te⟩=>[(0,S s),(2,ptr b2 0),(6,I64 (te:Nat)),(10,ptr b10 0)]) (fun ⟨port,te⟩ w=>pU s=X6s sch (low (upto [47,63,35,58] (s.drop k))) port (s.drop te)/\te<=s.length/\port<=65535/\Sat B w I (blk b10 [S sch,S (low (upto [47,63,35,58] (s.drop k))),I64 (port:Nat),S [],S [],.bool false] 213::blk b2 [S [],S [],I64 0,S [],S [],.bool false] 213::As)) ?_ ?_)
 ·refine .seq ?_;have hhost:X4t (low (upto [47,63,35,58] (s.drop k)))=true:=by
   rw [X4t,X69 hok (by omega),Bool.and_true];rw [show decide (64<(low (upto [47,63,35,58] (s.drop k))).length)=false from decide_eq_false (by omega)];cases hh:(low (upto [47,63,35,58] (s.drop k))) with
   | nil=>have:=congrArg List.length hh; rw [hlow,List.length_nil] at this; omega
   | cons a b=>rfl
  have hfd:s.drop (k+(upto [47,63,35,58] (s.drop k)).length)=(X6 [47,63,35,58] (s.drop k)):=by rw [<- X78 [47,63,35,58] (s.drop k),Y1i]
  refine .region (.run 5 rfl ⟨Qu9,trivial⟩ (.gm rfl rfl rfl rfl (.gm rfl rfl rfl rfl ?_)));refine .gval rfl rfl (fun hg1=>.index (.gd hg1 rfl) (.gd hg1 rfl) (by omega) (by have hg1x:=of_decide_eq_true hg1; omega) Qu9) rfl ?_;refine .gval rfl rfl (fun hg1=>(.eql (.gd hg1 rfl) (.of rfl))) rfl (.val (.pa rfl rfl rfl) rfl (.nil ?_));refine .cond rfl (fun hb105=>?_) fun hb105=>?_
  ·have hc105:=hb105; simp only [Y6] at hc105;refine .seq ?_;have htk:(X6 [47,63,35,58] (s.drop k)).take 1=[58]:=by
    have h:=hb105;simp only [Yn,beq_iff_eq,decide_eq_true_eq] at h
    rw [<- hfd,Xe s (show k+(upto [47,63,35,58] (s.drop k)).length<s.length by omega)];show [at_ s ((k+(upto [47,63,35,58] (s.drop k)).length:Nat):Int)]=[58]
    congr 1
    exact Y18.1 (by show (at_ s _).toNat=58; omega)
   have hlt:k+(upto [47,63,35,58] (s.drop k)).length<s.length:=by
    have h:=hb105;simp only [Yn,beq_iff_eq,decide_eq_true_eq] at h
    omega
   have hfd1:s.drop (k+(upto [47,63,35,58] (s.drop k)).length+1)=(X6 [47,63,35,58] (s.drop k)).drop 1:=by rw [<- hfd,Y1i]
   have hdl:=X12 [47,63,35] ((X6 [47,63,35,58] (s.drop k)).drop 1);have hr1l:((X6 [47,63,35,58] (s.drop k)).drop 1).length=s.length - (k+(upto [47,63,35,58] (s.drop k)).length+1):=by rw [<- hfd1,Yg]
   rw [hr1l] at hdl;refine .t 2 rfl (.val (.add (.of rfl) (.of rfl) ⟨by omega,by omega⟩) rfl ?_);rw [show (((k+(upto [47,63,35,58] (s.drop k)).length:Nat):Int)+1)=((k+(upto [47,63,35,58] (s.drop k)).length+1:Nat):Int) by omega];refine .call Xqv rfl (ec9 rfl (ec9 rfl (ec9 rfl X0))) rfl (Xd9 s [47,63,35] (k+(upto [47,63,35,58] (s.drop k)).length+1) (by omega) (by omega) (by decide) B _ I _ hS) ?_;rintro _ w ⟨rfl,hS⟩;rw [hfd1];refine .q 1 rfl (.nil (.seq (.t 2 rfl (.val (.add (.of rfl) (.of rfl) ⟨by omega,by omega⟩) rfl ?_))));rw [show (((k+(upto [47,63,35,58] (s.drop k)).length:Nat):Int)+1)=((k+(upto [47,63,35,58] (s.drop k)).length+1:Nat):Int) by omega];refine .q 1 rfl (.val (.sub3 (.of rfl) (.of rfl) (.of rfl) (by omega) (by omega) (by omega) Qu9) rfl ?_);simp only [Yf]
   rw [show (s.drop (k+(upto [47,63,35,58] (s.drop k)).length+1)).take (k+(upto [47,63,35,58] (s.drop k)).length+1+(upto [47,63,35] ((X6 [47,63,35,58] (s.drop k)).drop 1)).length - (k+(upto [47,63,35,58] (s.drop k)).length+1))=(upto [47,63,35] ((X6 [47,63,35,58] (s.drop k)).drop 1)) by rw [Y3n,hfd1,Xb9]];refine .q 1 rfl (.nil (.seq (.q 1 rfl (.seq (.seq (.q 1 rfl (.block (.loop (σ:=Nat) (fun i=>[(0,S s),(2,ptr b2 0),(5,S sch),(10,ptr b10 0),(11,I64 ((k+(upto [47,63,35,58] (s.drop k)).length+1+(upto [47,63,35] ((X6 [47,63,35,58] (s.drop k)).drop 1)).length:Nat):Int)),(12,S (upto [47,63,35] ((X6 [47,63,35,58] (s.drop k)).drop 1))),(13,I64 (val ((upto [47,63,35] ((X6 [47,63,35,58] (s.drop k)).drop 1)).take i):Nat)),(14,I64 (i:Nat))]) (fun i w=>i<=(upto [47,63,35] ((X6 [47,63,35,58] (s.drop k)).drop 1)).length/\(∀ j,j<i->j<(upto [47,63,35] ((X6 [47,63,35,58] (s.drop k)).drop 1)).length->X7w (at_ (upto [47,63,35] ((X6 [47,63,35,58] (s.drop k)).drop 1)) (j:Int))=true)/\val ((upto [47,63,35] ((X6 [47,63,35,58] (s.drop k)).drop 1)).take i)<=655359/\Sat B w I (blk b10 [S sch,S (low (upto [47,63,35,58] (s.drop k))),I64 0,S [],S [],.bool false] 213::blk b2 [S [],S [],I64 0,S [],S [],.bool false] 213::As)) (fun i=>(upto [47,63,35] ((X6 [47,63,35,58] (s.drop k)).drop 1)).length - i) 0 ⟨rfl,rfl,rfl,rfl,rfl,rfl,rfl,rfl,trivial⟩ ⟨Yo _,fun _ h=>absurd h (by omega),by simp [val],hS⟩ ?_))))))));rintro i w ⟨hi,hok2,hvl,hS⟩;refine .seq (.seq (.region (.run 4 rfl ⟨Qu9,trivial⟩ (.nil ?_))));refine .cond rfl (fun hb118=>?_) fun hb118=>?_
   ·have hc118:=hb118; simp only [Y6] at hc118;refine .skip (.seq (.block (.seq (.seq (.region (.run 5 rfl ⟨⟨⟨by omega,by omega⟩,Qu9⟩,trivial⟩ (.gm rfl rfl rfl rfl (.gm rfl rfl rfl rfl ?_))))))));refine .gval rfl rfl (fun hg1=>(.index (.gd hg1 rfl) (.gd hg1 rfl) (by (try simp only [Y6] at hg1); omega) (by (try simp only [Y6] at hg1); omega) Qu9)) rfl ?_;refine .gval rfl rfl (fun hg1=>(.gtr (.gd hg1 rfl) (.of rfl))) rfl (.val (.po rfl rfl rfl) rfl (.q 1 rfl (.gm rfl rfl rfl rfl (.gval rfl rfl (fun hg1=>(.gtr (.gd hg1 rfl) (.of rfl))) rfl (.val (.po rfl rfl rfl) rfl (.nil ?_))))));refine .cond rfl (fun hb134=>?_) fun hb134=>?_
    ·have hc134:=hb134; simp only [Y6] at hc134;refine .seq (.region (.val (.build (cs:=[_,_,_,_,_,_]) X4 Xu rfl) rfl (.so hS (k:=1) rfl rfl rfl rfl X14 rfl (by simp) ?_)));intro w hS;try simp only [Yk,Ye,Y9,Y7,Yh,Ym,Yc] at hS
     refine .q 1 rfl (.nil (.ret (X1k (b:=_) (cs:=[_,_,_,_,_,_]) Xbo hS (k:=1) rfl X2s X14 rfl rfl rfl ?_)));refine ⟨_,rfl,?_,(hS.y 0 2)⟩;rw [pU,if_neg (by omega),hsome];simp only
     rw [X39,if_pos hhost,behind,if_pos htk,if_neg]
     ·rfl
     ·rw [Y2q];unfold X1h;rcases Y28.1 hb134 with h | h
      ·rw [X9h] at h;rw [X5a (p:=X7w) (i:=i) (by omega) (by simpa using h)]; rfl
      ·simp only [decide_eq_true_eq] at h
       have hm:=Xk1 (upto [47,63,35] ((X6 [47,63,35,58] (s.drop k)).drop 1)) i (upto [47,63,35] ((X6 [47,63,35,58] (s.drop k)).drop 1)).length (by omega);rw [Y15] at hm;rw [decide_eq_false (show ¬ val (upto [47,63,35] ((X6 [47,63,35,58] (s.drop k)).drop 1))<=65535 by omega)]; simp
    have hc134:=hb134; simp only [Y6] at hc134;refine .skip ?_;have hdig:X7w (at_ (upto [47,63,35] ((X6 [47,63,35,58] (s.drop k)).drop 1)) (i:Int))=true:=by
     cases hd:X7w (at_ (upto [47,63,35] ((X6 [47,63,35,58] (s.drop k)).drop 1)) (i:Int)) with
     | true=>rfl
     | false =>
      have h:=X9h (at_ (upto [47,63,35] ((X6 [47,63,35,58] (s.drop k)).drop 1)) (i:Int));rw [hd] at h;rw [h] at hb134;exact absurd hb134 (by simp)
    have hrg:=Xkw hdig;have hv65:val ((upto [47,63,35] ((X6 [47,63,35,58] (s.drop k)).drop 1)).take i)<=65535:=by have:=hc134.2; omega
    refine .region (.run 5 rfl ⟨⟨by omega,by omega⟩,⟨⟨by omega,by omega⟩,Qu9⟩,trivial⟩ ?_);refine .val (.subx (.of rfl) (.of rfl) (by rw [IntKind.wrap_u8]; omega)) rfl (.val (.cvi (.of rfl) Qu5 Qu3 (by rw [IntKind.wrap_i64]; omega)) rfl (.run 2 rfl ⟨⟨by omega,by omega⟩,trivial⟩ (.nil (.region (.run 3 rfl ⟨⟨by omega,by omega⟩,trivial⟩ (.nil ?_))))));refine ⟨i+1,⟨rfl,rfl,rfl,rfl,rfl,rfl,?_,rfl,trivial⟩,⟨by omega,fun j hj hjl=>?_,?_,hS⟩,by omega⟩
    ·rw [X4r _ i (by omega)];show some (I64 _)=some (I64 _)
     congr 2
     omega
    ·rcases Yp j i with h1 | h1
     ·exact hok2 j h1 hjl
     ·have e:j=i:=by omega
      rw [e]; exact hdig
    ·rw [X4r _ i (by omega)]; omega
   have hc118:=hb118; simp only [Y6] at hc118;refine .exit (.seq (.seq (.t 3 rfl (.gm rfl rfl rfl rfl (.gval rfl rfl (fun hg1=>(.gtr (.gd hg1 rfl) (.of rfl))) rfl (.val (.po rfl rfl rfl) rfl (.q 1 rfl (.gm rfl rfl rfl rfl ?_))))))));refine .gval rfl rfl (fun hg1=>.index (.gd hg1 rfl) (.of rfl) (by omega) (by rcases Y1v ((upto [47,63,35] ((X6 [47,63,35,58] (s.drop k)).drop 1))).length with h0 | h0; (have hnil:=Yj h0; rw [hnil] at hg1; simp [val] at hg1); omega) Qu9) rfl ?_;refine .gval rfl rfl (fun hg1=>(.eql (.gd hg1 rfl) (.of rfl))) rfl (.val (.po rfl rfl rfl) rfl (.nil ?_));refine .cond rfl (fun hb154=>?_) fun hb154=>?_
   ·have hc154:=hb154; simp only [Y6] at hc154;refine .seq (.region (.val (.build (cs:=[_,_,_,_,_,_]) X4 Xu rfl) rfl (.so hS (k:=1) rfl rfl rfl rfl X14 rfl (by simp) ?_)));intro w hS;try simp only [Yk,Ye,Y9,Y7,Yh,Ym,Yc] at hS
    refine .q 1 rfl (.nil (.ret (X1k (b:=_) (cs:=[_,_,_,_,_,_]) Xbo hS (k:=1) rfl X2s X14 rfl rfl rfl ?_)));refine ⟨_,rfl,?_,(hS.y 0 2)⟩;have hdlen:(upto [47,63,35] ((X6 [47,63,35,58] (s.drop k)).drop 1)).length=i:=by omega
    have hb154':=hb154;rw [<- hdlen,Y15] at hb154';rw [pU,if_neg (by omega),hsome];simp only
    rw [X39,if_pos hhost,behind,if_pos htk,if_neg]
    ·rfl
    ·rw [Y2q];unfold X1h;rcases Y28.1 hb154' with h | h
     ·rcases Y28.1 h with h | h
      ·simp only [decide_eq_true_eq] at h
       rw [decide_eq_false (show ¬ 1<=val (upto [47,63,35] ((X6 [47,63,35,58] (s.drop k)).drop 1)) by omega)]; simp
      ·simp only [decide_eq_true_eq] at h
       rw [decide_eq_false (show ¬ val (upto [47,63,35] ((X6 [47,63,35,58] (s.drop k)).drop 1))<=65535 by omega)]; simp
     ·simp only [beq_iff_eq] at h
      have:(upto [47,63,35] ((X6 [47,63,35,58] (s.drop k)).drop 1)).headD 0=48:=by
       have h2:(at_ (upto [47,63,35] ((X6 [47,63,35,58] (s.drop k)).drop 1)) 0).toNat=48:=by omega
       have h3:at_ (upto [47,63,35] ((X6 [47,63,35,58] (s.drop k)).drop 1)) 0=48:=Y18.1 h2;cases hh:(upto [47,63,35] ((X6 [47,63,35,58] (s.drop k)).drop 1)) with
       | nil=>rw [hh] at h3; simp [at_] at h3
       | cons a b=>rw [hh] at h3; exact h3
      rw [this]; simp
   have hc154:=hb154; simp only [Y6] at hc154;refine .skip (.seq (.seq (.t 3 rfl (.gm rfl rfl rfl rfl (.gval rfl rfl (fun hg1=>(.eql (.gd hg1 rfl) (.of rfl))) rfl (.val (.pa rfl rfl rfl) rfl (.q 1 rfl (.gm rfl rfl rfl rfl (.gval rfl rfl (fun hg1=>(.eqs (.gd hg1 rfl) (.of rfl))) rfl (.gval rfl rfl (fun hg1=>(.move (.gd hg1 rfl))) rfl (.gval2 rfl rfl rfl (fun hg1 hg2=>(.mo rfl)) rfl (.gval2 rfl rfl rfl (fun hg1 hg2=>(.eql (.gd2 hg1 hg2 rfl) (.of rfl))) rfl (.gval rfl rfl (fun hg1=>(.pand (.gd hg1 rfl) (.gd hg1 rfl) (.of rfl))) rfl (.val (.po rfl rfl rfl) rfl (.q 1 rfl (.nil ?_))))))))))))))));refine .cond rfl (fun hb170=>?_) fun hb170=>?_
   ·have hc170:=hb170; simp only [Y6] at hc170;refine .t 1 rfl (.val (.fo 2 rfl X26 rfl rfl Qs3 rfl) rfl (.s1 hS (k:=0) rfl rfl rfl rfl Qs3 (by simp) ?_));intro w hS;refine .nil (.q 2 rfl ?_);have hdlen:(upto [47,63,35] ((X6 [47,63,35,58] (s.drop k)).drop 1)).length=i:=by omega
    have hb154':=hb154;rw [<- hdlen,Y15] at hb154';obtain ⟨h12,h3⟩:=Y10.1 hb154';obtain ⟨h1,h2⟩:=Y10.1 h12;simp only [decide_eq_false_iff_not] at h1 h2
    have hne:(upto [47,63,35] ((X6 [47,63,35,58] (s.drop k)).drop 1))≠[]:=fun e=>by rw [e] at h1; simp [val] at h1
    have hgood:X1h (upto [47,63,35] ((X6 [47,63,35,58] (s.drop k)).drop 1))=true:=by
     unfold X1h;have e:(upto [47,63,35] ((X6 [47,63,35,58] (s.drop k)).drop 1)).headD 0=at_ (upto [47,63,35] ((X6 [47,63,35,58] (s.drop k)).drop 1)) 0:=by cases hh:(upto [47,63,35] ((X6 [47,63,35,58] (s.drop k)).drop 1)) with | nil=>exact absurd hh hne | cons a b=>rfl
     rw [X69 hok2 (by omega),decide_eq_true (show 1<=val (upto [47,63,35] ((X6 [47,63,35,58] (s.drop k)).drop 1)) by omega),decide_eq_true (show val (upto [47,63,35] ((X6 [47,63,35,58] (s.drop k)).drop 1))<=65535 by omega),e];simp only [beq_eq_false_iff_ne] at h3
     have:at_ (upto [47,63,35] ((X6 [47,63,35,58] (s.drop k)).drop 1)) 0≠48:=fun e=>h3 (by rw [e]; rfl)
     rw [beq_eq_false_iff_ne.2 this]; rfl
    have hfe:s.drop (k+(upto [47,63,35,58] (s.drop k)).length+1+(upto [47,63,35] ((X6 [47,63,35,58] (s.drop k)).drop 1)).length)=(X6 [47,63,35] ((X6 [47,63,35,58] (s.drop k)).drop 1)):=by rw [<- X78 [47,63,35] ((X6 [47,63,35,58] (s.drop k)).drop 1),<- hfd1,Y1i]
    have hc170':=hc170;rw [<- hdlen,Y15] at hc170';have hpv:X6q (upto [47,63,35] ((X6 [47,63,35,58] (s.drop k)).drop 1)) sch=val (upto [47,63,35] ((X6 [47,63,35,58] (s.drop k)).drop 1)):=by
     unfold X6q Xwx;rw [if_neg];intro e;rcases hsch with e1 | e1
     ·rw [e1,if_neg (by decide)] at e;rcases hc170'.1 with h | h
      ·exact h e1
      ·omega
     ·rw [e1,if_pos (by decide)] at e;rcases hc170'.2 with h | h
      ·exact h e1
      ·omega
    refine ⟨(val (upto [47,63,35] ((X6 [47,63,35,58] (s.drop k)).drop 1)),_),⟨rfl,rfl,rfl,rfl,trivial⟩,?_,by (try dsimp only); omega,by (try dsimp only); omega,by rw [<- hdlen,Y15] at hS; exact hS⟩
    ·rw [pU,if_neg (by omega),hsome];simp only
     rw [X39,if_pos hhost,behind,if_pos htk,if_pos hgood,hpv,hfe]
   have hc170:=hb170; simp only [Y6] at hc170;refine .skip (.q 2 rfl ?_);have hdlen:(upto [47,63,35] ((X6 [47,63,35,58] (s.drop k)).drop 1)).length=i:=by omega
   have hb154':=hb154;rw [<- hdlen,Y15] at hb154';obtain ⟨h12,h3⟩:=Y10.1 hb154';obtain ⟨h1,h2⟩:=Y10.1 h12;simp only [decide_eq_false_iff_not] at h1 h2
   have hne:(upto [47,63,35] ((X6 [47,63,35,58] (s.drop k)).drop 1))≠[]:=fun e=>by rw [e] at h1; simp [val] at h1
   have hgood:X1h (upto [47,63,35] ((X6 [47,63,35,58] (s.drop k)).drop 1))=true:=by
    unfold X1h;have e:(upto [47,63,35] ((X6 [47,63,35,58] (s.drop k)).drop 1)).headD 0=at_ (upto [47,63,35] ((X6 [47,63,35,58] (s.drop k)).drop 1)) 0:=by cases hh:(upto [47,63,35] ((X6 [47,63,35,58] (s.drop k)).drop 1)) with | nil=>exact absurd hh hne | cons a b=>rfl
    rw [X69 hok2 (by omega),decide_eq_true (show 1<=val (upto [47,63,35] ((X6 [47,63,35,58] (s.drop k)).drop 1)) by omega),decide_eq_true (show val (upto [47,63,35] ((X6 [47,63,35,58] (s.drop k)).drop 1))<=65535 by omega),e];simp only [beq_eq_false_iff_ne] at h3
    have:at_ (upto [47,63,35] ((X6 [47,63,35,58] (s.drop k)).drop 1)) 0≠48:=fun e=>h3 (by rw [e]; rfl)
    rw [beq_eq_false_iff_ne.2 this]; rfl
   have hfe:s.drop (k+(upto [47,63,35,58] (s.drop k)).length+1+(upto [47,63,35] ((X6 [47,63,35,58] (s.drop k)).drop 1)).length)=(X6 [47,63,35] ((X6 [47,63,35,58] (s.drop k)).drop 1)):=by rw [<- X78 [47,63,35] ((X6 [47,63,35,58] (s.drop k)).drop 1),<- hfd1,Y1i]
   have hc170':=hc170;rw [<- hdlen,Y15] at hc170';have hpv:X6q (upto [47,63,35] ((X6 [47,63,35,58] (s.drop k)).drop 1)) sch=0:=by
    unfold X6q Xwx;rw [if_pos];rcases hc170' with ⟨e1,e2⟩ | ⟨e1,e2⟩
    ·rw [e1,if_neg (by decide)]; omega
    ·rw [e1,if_pos (by decide)]; omega
   refine ⟨(0,_),⟨rfl,rfl,rfl,rfl,trivial⟩,?_,by (try dsimp only); omega,by (try dsimp only); omega,hS⟩
   ·rw [pU,if_neg (by omega),hsome];simp only
    rw [X39,if_pos hhost,behind,if_pos htk,if_pos hgood,hpv,hfe]
  have hc105:=hb105; simp only [Y6] at hc105;refine .skip ?_;have htk:¬ (X6 [47,63,35,58] (s.drop k)).take 1=[58]:=fun e=>by
   have hlt:k+(upto [47,63,35,58] (s.drop k)).length<s.length:=by
    rcases Yp (k+(upto [47,63,35,58] (s.drop k)).length) s.length with h | h
    ·exact h
    ·rw [<- hfd,Y11 h] at e; cases e
   rw [<- hfd,Xe s hlt] at e;have e1:at_ s ((k+(upto [47,63,35,58] (s.drop k)).length:Nat):Int)=58:=by injection e
   rw [e1,decide_eq_true (by omega)] at hb105;exact absurd hb105 (by decide)
  refine ⟨(0,_),⟨rfl,rfl,rfl,rfl,trivial⟩,?_,by (try dsimp only); omega,by decide,hS⟩
  ·rw [pU,if_neg (by omega),hsome];simp only
   rw [X39,if_pos hhost,behind,if_neg htk,hfd]
 rintro ⟨port,te⟩ w ⟨hpu,htl,hport,hS⟩;refine .seq (.t 2 rfl (.call Xqv rfl (ec9 rfl (ec9 rfl (ec9 rfl X0))) rfl (Xd9 s [63] te htl (by omega) (by decide) B _ I _ hS) ?_));rintro _ w ⟨rfl,hS⟩;refine .q 1 rfl (.nil (.seq (.t 3 rfl ?_)));refine .val (.sub3 (.of rfl) (.of rfl) (.of rfl) (by omega) (by omega) (by have:=Xb8 [63] (s.drop te); rw [Yg] at this; omega) Qu9) rfl ?_;simp only [Yf]
 rw [show (s.drop te).take (te+(upto [63] (s.drop te)).length - te)=(upto [63] (s.drop te)) by rw [Y3n,Xb9]];refine .call Tryz.func181 rfl (ec9 rfl X0) rfl (Xjm (upto [63] (s.drop te)) (by have:=Xb8 [63] (s.drop te); rw [Yg] at this; omega) B _ I _ hS) ?_;rintro _ w ⟨p1,b1,rfl,hp1,hp1l,hS⟩;refine .q 5 rfl (.nil (.seq (.seq ?_)));have hml:=X12 [63] (s.drop te);rw [Yg] at hml;refine .q 2 rfl (.cond rfl (fun hb186=>?_) fun hb186=>?_)
 ·have hc186:=hb186; simp only [Y6] at hc186;refine .seq (.region (.val (.build (cs:=[_,_,_,_,_,_]) X4 Xu rfl) rfl (.so hS (k:=1) rfl rfl rfl rfl X14 rfl (by simp) ?_)));intro w hS;try simp only [Yk,Ye,Y9,Y7,Yh,Ym,Yc] at hS
  refine .q 1 rfl (.nil (.ret (X1k (b:=_) (cs:=[_,_,_,_,_,_]) Xbo hS (k:=1) rfl X2s X14 rfl rfl rfl ?_)));refine ⟨_,rfl,?_,(hS.y 0 2)⟩;rw [hpu,X6s];cases hp:X22 (upto [63] (s.drop te)) with
  | none=>rfl
  | some t=>rw [hp] at hp1; rw [hp1.2] at hc186; cases hc186
 have hc186:=hb186; simp only [Y6] at hc186;refine .skip (.cutS (σ:=List UInt8×Bool) (fun ⟨q,ask⟩=>[(2,ptr b2 0),(10,ptr b10 0),(16,S p1)]) (fun ⟨q,ask⟩ w=>X6s sch (low (upto [47,63,35,58] (s.drop k))) port (s.drop te)=(⟨sch,(low (upto [47,63,35,58] (s.drop k))),port,if p1=[] then [47] else X9c p1,q,ask⟩,0)/\Sat B w I (blk b10 [S sch,S (low (upto [47,63,35,58] (s.drop k))),I64 (port:Nat),S [],S q,.bool ask] 213::blk b2 [S [],S [],I64 0,S [],S [],.bool false] 213::As)) ?_ ?_)
 ·refine .seq ?_;have hpp:X22 (upto [63] (s.drop te))=some p1:=by
   cases hp:X22 (upto [63] (s.drop te)) with
   | none=>rw [hp] at hp1; rw [hp1] at hc186; cases hc186
   | some t=>rw [hp] at hp1; rw [hp1.1]
  refine .region (.run 4 rfl ⟨Qu9,trivial⟩ (.nil ?_));refine .cond rfl (fun hb191=>?_) fun hb191=>?_
  ·have hc191:=hb191; simp only [Y6] at hc191;refine .seq (.region (.val (.fo 5 rfl X26 rfl rfl Qs4 rfl) rfl (.s1 hS (k:=0) rfl rfl rfl rfl Qs4 (by simp) ?_)));intro w hS;refine .nil (.seq (.t 2 rfl (.val (.add (.of rfl) (.of rfl) ⟨by omega,by omega⟩) rfl ?_)));rw [show (((te+(upto [63] (s.drop te)).length:Nat):Int)+1)=((te+(upto [63] (s.drop te)).length+1:Nat):Int) by omega];refine .val (.subFrom (.of rfl) (.of rfl) (by omega) (by omega) Qu9) rfl ?_;simp only [Yf]
   refine .call Tryz.func181 rfl (ec9 rfl X0) rfl (Xjm _ (by rw [Yg]; omega) B _ I _ hS) ?_;rintro _ w ⟨q1,b2x,rfl,hq1,hq1l,hS⟩;have hfm:s.drop (te+(upto [63] (s.drop te)).length+1)=((X6 [63] (s.drop te)).drop 1):=by rw [<- X78 [63] (s.drop te),Y1i,Y1i,Y3z]
   refine .q 3 rfl (.val (.fo 4 rfl X26 rfl rfl Qs9 rfl) rfl (.s1 hS (k:=0) rfl rfl rfl rfl Qs9 (by simp) ?_));intro w hS;refine .q 1 rfl (.nil (.seq (.q 2 rfl ?_)));refine .cond rfl (fun hb203=>?_) fun hb203=>?_
   ·have hc203:=hb203; simp only [Y6] at hc203;refine .seq (.region (.val (.build (cs:=[_,_,_,_,_,_]) X4 Xu rfl) rfl (.so hS (k:=1) rfl rfl rfl rfl X14 rfl (by simp) ?_)));intro w hS;try simp only [Yk,Ye,Y9,Y7,Yh,Ym,Yc] at hS
    refine .q 1 rfl (.nil (.ret (X1k (b:=_) (cs:=[_,_,_,_,_,_]) Xbo hS (k:=1) rfl X2s X14 rfl rfl rfl ?_)));refine ⟨_,rfl,?_,(hS.y 0 2)⟩;rw [hfm] at hq1;rw [hpu,X6s,hpp];simp only
    cases hq:X22 ((X6 [63] (s.drop te)).drop 1) with
    | none=>rfl
    | some t=>rw [hq] at hq1; rw [hq1.2] at hc203; cases hc203
   have hc203:=hb203; simp only [Y6] at hc203;refine .skip (⟨(q1,true),⟨rfl,rfl,rfl,trivial⟩,?_,hS⟩);rw [hfm] at hq1
   have:(X6 [63] (s.drop te)).isEmpty=false:=by
    cases hh:X6 [63] (s.drop te) with
    | nil=>have:=congrArg List.length hh; rw [List.length_nil] at this; omega
    | cons a b=>rfl
   rw [X6s,hpp];simp only
   cases hq:X22 ((X6 [63] (s.drop te)).drop 1) with
   | none=>rw [hq] at hq1; rw [hq1] at hc203; cases hc203
   | some q=>rw [hq] at hq1; obtain ⟨rfl,_⟩:=hq1; simp only; rw [this]; rfl
  have hc191:=hb191; simp only [Y6] at hc191;refine .skip (⟨([],false),⟨rfl,rfl,rfl,trivial⟩,?_,hS⟩)
  have:X6 [63] (s.drop te)=[]:=Yj (by omega)
  rw [X6s,hpp,this];rfl
 rintro ⟨q,ask⟩ w ⟨htu,hS⟩;refine .seq (.t 1 rfl ?_);refine .call Tryz.func182 rfl (ec9 rfl X0) rfl (Xhu p1 (by have:=Xb8 [63] (s.drop te); rw [Yg] at this; omega) B _ I _ hS) ?_;rintro _ w ⟨rfl,hS⟩;refine .val (.fo 3 rfl X26 rfl rfl Qs9 rfl) rfl (.s1 hS (k:=0) rfl rfl rfl rfl Qs9 (by simp) ?_);intro w hS;refine .nil (.seq (.seq (.q 2 rfl ?_)));refine .cond rfl (fun hb209=>?_) fun hb209=>?_
 ·have hc209:=hb209; simp only [Y6] at hc209;refine .region (.val (.fo 3 rfl X26 rfl rfl Qs9 rfl) rfl (.s1 hS (k:=0) rfl rfl rfl rfl Qs9 (by simp) ?_));intro w hS;refine .nil (.seq (.region (.val (.ldsW (cs:=[_,_,_,_,_,_]) (.of rfl) hS (k:=0) rfl X2s X14 rfl) rfl (.so hS (k:=1) rfl rfl rfl rfl X14 rfl (by simp) ?_))));intro w hS;try simp only [Yk,Ye,Y9,Y7,Yh,Ym,Yc] at hS
  refine .q 1 rfl (.nil (.ret (X1k (b:=_) (cs:=[_,_,_,_,_,_]) Xbo hS (k:=1) rfl X2s X14 rfl rfl rfl ?_)));refine ⟨_,rfl,?_,(hS.y 0 2)⟩;rw [hpu,htu,if_pos hc209];rfl
 have hc209:=hb209; simp only [Y6] at hc209;refine .skip (.seq (.region (.val (.ldsW (cs:=[_,_,_,_,_,_]) (.of rfl) hS (k:=0) rfl X2s X14 rfl) rfl (.so hS (k:=1) rfl rfl rfl rfl X14 rfl (by simp) ?_))));intro w hS;try simp only [Yk,Ye,Y9,Y7,Yh,Ym,Yc] at hS
 refine .q 1 rfl (.nil (.ret (X1k (b:=_) (cs:=[_,_,_,_,_,_]) Xbo hS (k:=1) rfl X2s X14 rfl rfl rfl ?_)));refine ⟨_,rfl,?_,(hS.y 0 2)⟩;rw [hpu,htu,if_neg hc209];rfl
theorem Xbw (s:List UInt8) (hl:s.length<=1000000) (B w:World) (I:Im) (As:List X7) (hS:Sat B w I As) :
  Cz 93 [S s] w fun v w'=>v=.tuple #[S (nU s).1,I64 ((nU s).2:Nat)]/\Sat B w' I As:=by
 refine calls Tryz.func93 rfl Tryz.ntmps93 rfl (.seq (.q 2 rfl (.seq (.t 1 rfl (.call Tryz.func137 rfl (ec9 rfl X0) rfl (Xfz s hl B _ I _ hS) ?_)))));rintro _ w ⟨rfl,hS⟩;refine .q 3 rfl (.allocA (cs:=[_,_,_,_,_,_]) hS Xgv rfl ?_);intro b4 w hS;refine .so hS (k:=0) rfl rfl rfl rfl X14 rfl (by simp) ?_;intro w hS;try simp only [Yk,Ye,Y9,Y7,Yh,Ym,Yc] at hS
 refine .q 1 rfl (.nil (.seq (.seq (.q 2 rfl ?_))));refine .cond rfl (fun hb12=>?_) fun hb12=>?_
 ·have hc12:=hb12; simp only [Y6] at hc12;refine .seq (.q 3 rfl (.ret (X1t Tryz.results93 rfl rfl ?_)));refine ⟨_,rfl,?_,hS.y 0 1⟩;rw [nU,if_neg (by omega)];rfl
 have hc12:=hb12; simp only [Y6] at hc12;refine .skip (.seq (.region (.val (.ldsW (cs:=[_,_,_,_,_,_]) (.of rfl) hS (k:=0) rfl X2s X14 rfl) rfl (.call Tryz.func138 rfl (ec9 rfl X0) rfl (Xdp (pU s).1 (Xju s) B _ I _ hS) ?_))));rintro _ w ⟨rfl,hS⟩;refine .q 2 rfl (.nil (.ret (X1t Tryz.results93 rfl rfl ?_)));refine ⟨_,rfl,?_,hS.y 0 1⟩;rw [nU,if_pos (by omega)];rfl
end Go.Proofs.YtbciobiiejpdgaaGreatDoor
namespace Rk
open Flt
def Xop (b:Nat):Nat:=if 9223372036854775808<=b then 18446744073709551615 - b else b+9223372036854775808
theorem Xu4 {b:Nat} (h:b<18446744073709551616):b &&& 9223372036854775808=if 9223372036854775808<=b then 9223372036854775808 else 0:=by
 apply Nat.eq_of_testBit_eq
 intro i;have e63:b.testBit 63=decide (9223372036854775808<=b):=by
  rw [Nat.testBit_eq_decide_div_mod_eq,show (2:Nat) ^ 63=9223372036854775808 by decide];exact decide_eq_decide.2 (by omega)
 rw [Nat.testBit_and,show 9223372036854775808=2 ^ 63 by decide,Y53];rw [show 9223372036854775808=2 ^ 63 by decide] at e63
 by_cases hi:63=i
 ·subst hi;rw [e63]
  by_cases hb:2 ^ 63<=b
  ·rw [if_pos hb,Y53]; simp [hb]
  ·rw [if_neg hb]; simp [hb]
 ·by_cases hb:2 ^ 63<=b
  ·rw [if_pos hb,Y53]; simp [hi]
  ·rw [if_neg hb]; simp [hi]
theorem or_hi {b:Nat} (h:b<9223372036854775808):b ||| 9223372036854775808=b+9223372036854775808:=by
 have e:=Y54 (i:=63) (b:=b) (by rw [show (2:Nat) ^ 63=9223372036854775808 by decide]; exact h) 1;rw [show (2:Nat) ^ 63*1=9223372036854775808 by decide,Nat.or_comm] at e;rw [<- e]; omega
def sl:Nat->Nat->List Int
 | 0,_=>[]
 | k+1,b=>((b / 2 ^ k % 2:Nat):Int)::sl k b
theorem Xpt:∀ k b,(sl k b).length=k
 | 0,_=>rfl
 | k+1,b=>by rw [sl,List.length_cons,Xpt k b]
theorem Xps:∀ {k b i:Nat},i<k->(sl k b).getD i 0=((b / 2 ^ (k - 1 - i) % 2:Nat):Int)
 | 0,_,_,h=>by omega
 | k+1,b,0,_=>by simp [sl]
 | k+1,b,i+1,h=>by
  rw [sl,List.getD_cons_succ,Xps (by omega:i<k),show k - 1 - i=k+1 - 1 - (i+1) by omega]
def bt (b i:Nat):Nat:=if 9223372036854775808<=b then 1 - b / 2 ^ (63 - i) % 2 else if i=0 then 1 else b / 2 ^ (63 - i) % 2
theorem bt_le (b i:Nat):bt b i<=1:=by
 unfold bt;split
 ·omega
 ·split
  ·omega
  ·have:=Y2p (b / 2 ^ (63 - i)) (show 0<2 by decide); omega
def kf (b:Nat):Nat->Nat
 | 0=>0
 | i+1=>2*kf b i+bt b i
theorem kf_lt (b:Nat):∀ i,kf b i<2 ^ i
 | 0=>by simp [kf]
 | i+1=>by
  have h1:=kf_lt b i;have h2:=bt_le b i;rw [kf,Y22]; omega
theorem Xso (b:Nat) {i:Nat} (h:i<64):kf b i<9223372036854775808:=by
 refine Y2f (kf_lt b i) ?_;rw [show 9223372036854775808=2 ^ 63 by decide];exact Y1w (by decide) (by omega)
theorem Xix (b:Nat) {i:Nat} (h:i<64):b / 2 ^ (63 - i)=2*(b / 2 ^ (64 - i))+b / 2 ^ (63 - i) % 2:=by
 have e:b / 2 ^ (64 - i)=b / 2 ^ (63 - i) / 2:=by
  rw [Y3r,<- Y22,show (63 - i).succ=64 - i by omega]
 rw [e]; omega
theorem kf_hi {b:Nat} (h:9223372036854775808<=b) (hb:b<18446744073709551616):∀ i,i<=64->kf b i+b / 2 ^ (64 - i)+1=2 ^ i
 | 0,_=>by
  have:b / 2 ^ 64=0:=Y37 (by rw [show (2:Nat) ^ 64=18446744073709551616 by decide]; exact hb)
  simp [kf,this]
 | i+1,hi=>by
  have ih:=kf_hi h hb i (by omega);have d:=Xix b (show i<64 by omega);have m:=Y2p (b / 2 ^ (63 - i)) (show 0<2 by decide);rw [kf,bt,if_pos h,Y22,show 64 - (i+1)=63 - i by omega];omega
theorem kf_lo {b:Nat} (h:b<9223372036854775808):∀ i,i<64->kf b (i+1)=2 ^ i+b / 2 ^ (63 - i)
 | 0,_=>by
  have:b / 2 ^ 63=0:=Y37 (by rw [show (2:Nat) ^ 63=9223372036854775808 by decide]; exact h)
  simp only [kf,bt]
  rw [if_neg (by omega),if_pos trivial,show 63 - 0=63 from rfl,this]
 | i+1,hi=>by
  have ih:=kf_lo h i (by omega);have d:=Xix b (show i+1<64 by omega);rw [kf,bt,if_neg (by omega),if_neg (by omega),ih,Y22];rw [show 64 - (i+1)=63 - i by omega] at d;omega
theorem kf_key {b:Nat} (h:b<18446744073709551616):kf b 64=Xop b:=by
 unfold Xop;split
 ·rename_i hb
  have:=kf_hi hb h 64 (by omega)
  rw [show (2:Nat) ^ 64=18446744073709551616 by decide] at this;simp at this
  omega
 ·rename_i hb
  have:=kf_lo (b:=b) (by omega) 63 (by omega)
  rw [show (2:Nat) ^ 63=9223372036854775808 by decide] at this;simp at this
  omega
def W (x y:Nat):Nat->Option Nat
 | 0=>nf x
 | k+1=>(W x y k).bind fun v=>Ieee.double.mul v y
theorem W_step {x y k r r':Nat} (h:nf r=W x y k) (h':nf r'=Ieee.double.mul r y):nf r'=W x y (k+1):=by
 rw [W,<- h,h'];unfold nf;cases hn:nan r
 ·rfl
 ·simp [Xt3 (.inl hn)]
def Xie (n:Int):Nat:=(max 0 (min n 64)).toNat
def Xq8 (x y:Nat) (k:Nat) (z:Nat):Nat:=if lt 0 z then match W x y k with | none=>z | some v=>if lt z v then z else if lt 0 v then v else 0 else 0
def waitV (x y:Nat) (n:Int) (z:Nat):Nat:=Xq8 x y (Xie n) z
theorem Xtw {x y k z:Nat} (h:lt 0 z=false):Xq8 x y k z=0:=by unfold Xq8; rw [h]; rfl
theorem Xe4 {x y k z r:Nat} (h:lt 0 z=true) (hr:nf r=W x y k):Xq8 x y k z=if nan r || lt z r then z else if lt 0 r then r else 0:=by
 unfold Xq8;rw [h,if_pos rfl,<- hr];unfold nf;cases nan r <;> simp
theorem Xt5:nan 0=false:=by decide
theorem Xxi:sv 0=0:=by decide
theorem lt0 (v:Nat):lt 0 v=(!nan v && decide (0<sv v)):=by unfold lt; rw [Xt5,Xxi]; simp
theorem Xsb (v:Nat):(!feq v v)=nan v:=by unfold feq; cases nan v <;> simp
def top (most:Int):Int:=max 0 (min most 1099511627776)
def cei (x:Nat):Int:=((Ieee.double.read (Xez x)).toInt .zero).getD 0
def cnt (x:Nat) (most:Int):Int:=if nan x || lt (ofI (top most)) x then top most else if lt 0 x then cei x else 0
theorem Xgb (most:Int):0<=top most/\top most<=1099511627776:=by unfold top; omega
theorem Xuq {x:Nat} {most:Int} (h:nan x=false):lt (ofI (top most)) x=decide (top most*(one:Int)<sv x):=by
 obtain ⟨h1,h2⟩:=Xta (Xgb most).1 (Xgb most).2;unfold lt; rw [h1,h,h2]; simp
theorem Xiv {x:Nat} {most:Int} (h:(nan x || lt (ofI (top most)) x)=false) (h0:lt 0 x=true) :
  (Ieee.double.read (Xez x)).toInt .zero=some (cei x)/\0<=cei x/\cei x<=top most/\sv x<=cei x*one/\(cei x - 1)*one<sv x:=by
 simp only [Y10] at h
 obtain ⟨hn,hl⟩:=h;rw [Xuq hn] at hl;simp only [decide_eq_false_iff_not] at hl
 rw [lt0,hn] at h0;simp at h0
 have ho:(0:Int)<(one:Int):=Y3v.2 Xhn;have ht:=(Xgb most).2;have hmul:top most*(one:Int)<=1099511627776*(one:Int):=Y4n ht (by omega);obtain ⟨c,hc,h1,h2,h3⟩:=Xnw hn h0 (by omega);have e:cei x=c:=by unfold cei; rw [hc]; rfl
 rw [e];refine ⟨hc,by omega,?_,h2,h3⟩
 have:((c:Int) - 1)*one<top most*one:=by omega
 have:=Y40 this (Y5p ho)
 omega
theorem cnt_laws (x:Nat) (most:Int):0<=cnt x most/\cnt x most<=top most/\(nan x=false->cnt x most<top most->sv x<=cnt x most*one)/\(0<cnt x most->nan x=false->(cnt x most - 1)*one<sv x):=by
 have ho:(0:Int)<(one:Int):=Y3v.2 Xhn;have ht:=Xgb most;unfold cnt;cases hh:(nan x || lt (ofI (top most)) x)
 ·simp only [Y1p,if_false]
  cases hp:lt 0 x
  ·simp only [Y1p,if_false]
   refine ⟨by omega,ht.1,fun hn _=>?_,by omega⟩;rw [lt0,hn] at hp;simp at hp
   omega
  ·simp only [if_true]
   obtain ⟨_,g1,g2,g3,g4⟩:=Xiv hh hp;exact ⟨g1,g2,fun _ _=>g3,fun _ _=>g4⟩
 ·simp only [if_true]
  refine ⟨ht.1,Y3u _,fun _ h=>by omega,fun h hn=>?_⟩;rw [hn,Xuq hn] at hh;simp at hh
  have:(top most - 1)*(one:Int)<=top most*one:=Y4n (by omega) (by omega)
  omega
end Rk
namespace Go.Proofs.YtbciobiiejpdgaaGreatDoor
open Gk Rk Flt
theorem Xef (a:Nat) (w:World) :
  Cz 101 [F64 a] w fun v w'=>v=.bool (Flt.nan a)/\w=w':=by
 refine calls Tryz.func101 rfl Tryz.ntmps101 rfl (.seq (.q 1 rfl (.seq (.t 2 rfl (.val (.fneq (.of rfl) (.of rfl)) rfl (.q 1 rfl (.nil (.ret (Xc Tryz.results101 rfl ?_)))))))));exact ⟨_,rfl,by rw [Xsb],rfl⟩
theorem Xmg (b:Nat) (hb:b<18446744073709551616) (w:World) :
  Cz 165 [F64 b] w fun v w'=>v=U64 (Xop b:Nat)/\w=w':=by
 refine calls Tryz.func165 rfl Tryz.ntmps165 rfl (.seq (.q 1 rfl (.seq (.t 1 rfl (.val (.extern Tryz.func213 (by kernel_rfl) (by kernel_rfl) (by kernel_rfl) (e:=Extern.MathFloatBits.float64bits) (by kernel_rfl) (ec9 rfl X0) rfl) rfl (.q 1 rfl (.nil (.seq (.seq (.t 1 rfl (.val (.andHi hb (.of rfl) (.of rfl)) rfl (.q 1 rfl (.nil ?_)))))))))))));refine .cond rfl (fun hb8=>?_) fun hb8=>?_
 ·have hc8:=hb8; simp only [Y6] at hc8;refine .seq (.t 1 rfl (.val (.not64 (by omega) (.of rfl)) rfl (.q 1 rfl (.nil (.ret (Xc Tryz.results165 rfl ?_))))));have e:9223372036854775808<=b:=by
   rw [Xu4 hb] at hc8;split at hc8
   ·assumption
   ·simp at hc8
  exact ⟨_,rfl,by rw [Xop,if_pos e],rfl⟩
 have hc8:=hb8; simp only [Y6] at hc8;refine .skip (.seq (.t 1 rfl (.val (.orHi hb (.of rfl) (.of rfl)) rfl (.q 1 rfl (.nil (.ret (Xc Tryz.results165 rfl ?_)))))));have e:¬ 9223372036854775808<=b:=by
  rw [Xu4 hb] at hc8;split at hc8
  ·simp at hc8
  ·assumption
 exact ⟨_,rfl,by rw [Xop,if_neg e,or_hi (by omega)],rfl⟩
theorem Xht (b:Nat) (hb:b<18446744073709551616) (B w:World) (I:Im) (As:List X7) (hS:Sat B w I As) :
  Cz 226 [F64 b] w fun v w'=>∃ q,v=.slice (some (ad q 0)) 64 64/\Sat B w' I (blk q ((sl 64 b).map I64 ++ []) 3::As):=by
 refine calls Tryz.func226 rfl Tryz.ntmps226 rfl (.seq (.q 1 rfl (.seq (.t 1 rfl (.val (.extern Tryz.func213 (by kernel_rfl) (by kernel_rfl) (by kernel_rfl) (e:=Extern.MathFloatBits.float64bits) (by kernel_rfl) (ec9 rfl X0) rfl) rfl (.q 1 rfl (.nil (.seq (.region ?_)))))))));refine .make (l:=64) hS (.of rfl) (.of rfl) Xf X1g rfl (by simp [Tryz.t3] <;> omega) (by omega) rfl rfl rfl ?_;intro b8 w hS;refine .q 1 rfl (.nil (.seq (.seq (.q 1 rfl (.block (.loop (σ:=Nat×Int×Nat) (fun ⟨k,i,m⟩=>[(3,U64 (m:Nat)),(4,.slice (some (ad b8 0)) 64 64),(5,I64 i)]) (fun ⟨k,i,m⟩ w=>(k:Int)+i=63/\-1<=i/\m=b / 2 ^ k/\Sat B w I (blk b8 ((List.replicate (i+1).toNat 0 ++ sl k b).map I64 ++ []) 3::As)) (fun ⟨k,i,m⟩=>(i+1).toNat) (0,63,b) ⟨rfl,rfl,rfl,trivial⟩ ⟨rfl,by decide,by simp,by simpa [sl] using hS⟩ ?_))))));rintro ⟨k,i,m⟩ w ⟨hki,hi,hm,hS⟩;have hb2:b / 2 ^ k<18446744073709551616:=Y4d (Nat.div_le_self _ _) hb;refine .seq (.seq (.q 2 rfl ?_));refine .cond rfl (fun hb10=>?_) fun hb10=>?_
 ·have hc10:=hb10; simp only [Y6] at hc10;refine .skip (.seq (.block (.seq (.t 3 rfl (.val (.rem (.of rfl) (.of rfl) (by omega) (by omega)) rfl ?_)))));refine .val (.cvi (.of rfl) Xn3 Qu3 (by rw [IntKind.wrap_i64]; omega)) rfl (.val (.io rfl rfl (by omega) (by omega) Xf Qs3) rfl (.stE I64 (List.replicate (i+1).toNat 0 ++ sl k b) [] (i:=i) (u:=((m:Int) % 2)) hS (k:=0) rfl (.of rfl) (.of rfl) rfl rfl Qs3 (by omega) (by rw [Y0,Y25]; omega) ?_));intro w hS; dsimp only [List.set] at hS;refine .nil (.t 1 rfl ?_);refine .val (.quo (.of rfl) (.of rfl) (by omega) (by omega) (by rw [IntKind.wrap_u64]; omega)) rfl (.q 1 rfl (.nil (.region (.run 3 rfl ⟨⟨by omega,by omega⟩,trivial⟩ (.nil ?_)))));refine ⟨(k+1,i - 1,m / 2),⟨rfl,rfl,rfl,trivial⟩,⟨by (try dsimp only); omega,by (try dsimp only); omega,by (try dsimp only); rw [hm,Y22,Y3r],?_⟩,by (try dsimp only); omega⟩;have e:(List.replicate (i+1).toNat 0 ++ sl k b).set i.toNat ((m:Int) % 2)=List.replicate (i - 1+1).toNat 0 ++ sl (k+1) b:=by
   rw [show (i+1).toNat=i.toNat+1 by omega,show (i - 1+1).toNat=i.toNat by omega,List.replicate_succ',Yd,Y2c _ _ (by simp),Y25,Y3k,hm];rfl
  rw [<- e]; exact hS
 have hc10:=hb10; simp only [Y6] at hc10;refine .exit (.seq (.q 2 rfl (.ret (Xc Tryz.results226 rfl ?_))))
 have:i=-1:=by omega
 subst this
 have:k=64:=by omega
 subst this;exact ⟨_,rfl,_,rfl,by simpa using hS⟩
theorem Xcc (b:Nat) (hb:b<18446744073709551616) (B w:World) (I:Im) (As:List X7) (hS:Sat B w I As) :
  Cz 184 [F64 b] w fun v w'=>v=U64 (Xop b:Nat)/\Sat B w' I As:=by
 refine calls Tryz.func184 rfl Tryz.ntmps184 rfl (.seq (.q 1 rfl (.seq (.t 1 rfl (.call Tryz.func226 rfl (ec9 rfl X0) rfl (Xht _ hb _ _ _ _ hS) ?_)))));rintro _ w ⟨q,rfl,hS⟩;refine .q 1 rfl (.nil (.seq (.q 1 rfl (.seq (.seq (.q 1 rfl (.block (.loop (σ:=Nat) (fun j=>[(3,.slice (some (ad q 0)) 64 64),(4,U64 (kf b j:Nat)),(5,I64 (j:Nat))]) (fun j w=>j<=64/\Sat B w I (blk q ((sl 64 b).map I64 ++ []) 3::As)) (fun j=>64 - j) 0 ⟨rfl,rfl,rfl,trivial⟩ ⟨by decide,hS⟩ ?_))))))));rintro j w ⟨hj,hS⟩;have kl:=Xso b (i:=j);refine .seq (.seq (.q 2 rfl ?_));refine .cond rfl (fun hb10=>?_) fun hb10=>?_
 ·have hc10:=hb10; simp only [Y6] at hc10;refine .skip (.seq (.block (.seq (.t 2 rfl (.val (.io rfl rfl (by omega) (by omega) Xf Qs3) rfl ?_)))));refine .val (.ldE I64 (sl 64 b) 0 [] (i:=((j:Nat):Int)) (.of rfl) hS (k:=0) rfl rfl Qg3 (by omega) (by rw [Xpt]; omega)) rfl ?_;have hv0:=Xps (k:=64) (b:=b) (i:=(((j:Nat):Int):Int).toNat) (by omega);have hm0:=Y2p (b / 2 ^ (64 - 1 - (((j:Nat):Int):Int).toNat)) (show 0<2 by decide);refine .q 1 rfl (.nil (.seq (.seq (.t 1 rfl (.val (.io rfl rfl (by omega) (by omega) Xf Qs3) rfl ?_)))));refine .val (.ldE I64 (sl 64 b) 0 [] (i:=0) (.of rfl) hS (k:=0) rfl rfl Qg3 (by omega) (by rw [Xpt]; omega)) rfl ?_;have hv1:=Xps (k:=64) (b:=b) (i:=(0:Int).toNat) (by omega);have hm1:=Y2p (b / 2 ^ (64 - 1 - (0:Int).toNat)) (show 0<2 by decide);refine .q 1 rfl (.nil ?_);refine .cond rfl (fun hb20=>?_) fun hb20=>?_
  ·have hc20:=hb20; simp only [Y6] at hc20;refine .region (.run 3 rfl ⟨⟨by omega,by omega⟩,trivial⟩ (.nil (.t 1 rfl ?_)));refine .val (.mulx (.of rfl) (.of rfl) (by rw [IntKind.wrap_u64]; omega)) rfl (.q 1 rfl (.val (.cvi (.of rfl) Qu3 Xn3 (by rw [IntKind.wrap_u64]; omega)) rfl (.val (.addx (.of rfl) (.of rfl) (by rw [IntKind.wrap_u64]; omega)) rfl (.q 1 rfl (.nil (.region (.run 3 rfl ⟨⟨by omega,by omega⟩,trivial⟩ (.nil ?_))))))));have HI:9223372036854775808<=b:=by
    have e63:b / 2 ^ 63=b / 9223372036854775808:=by rw [show (2:Nat) ^ 63=9223372036854775808 by decide]
    simp only [Y44,show 64 - 1 - 0=63 from rfl,e63] at hv1 hm1
    simp only [Y44] at hc20
    omega
   have e:bt b j=1 - b / 2 ^ (63 - j) % 2:=by rw [bt,if_pos HI]
   have m2:=Y2p (b / 2 ^ (63 - j)) (show 0<2 by decide);refine ⟨j+1,⟨rfl,?_,rfl,trivial⟩,⟨by omega,hS⟩,by omega⟩;show some (U64 _)=some (U64 _)
   congr 2
   rw [kf,e];simp only [Yf] at hv0 hm0 ⊢
   rw [show 64 - 1 - j=63 - j from rfl] at hv0 hm0;omega
  have hc20:=hb20; simp only [Y6] at hc20;refine .seq (.q 2 rfl ?_);refine .cond rfl (fun hb24=>?_) fun hb24=>?_
  ·have hc24:=hb24; simp only [Y6] at hc24;refine .q 1 rfl (.t 1 rfl ?_);refine .val (.mulx (.of rfl) (.of rfl) (by rw [IntKind.wrap_u64]; omega)) rfl (.q 1 rfl (.val (.cvi (.of rfl) Qu3 Xn3 (by rw [IntKind.wrap_u64]; omega)) rfl (.val (.addx (.of rfl) (.of rfl) (by rw [IntKind.wrap_u64]; omega)) rfl (.q 1 rfl (.nil (.region (.run 3 rfl ⟨⟨by omega,by omega⟩,trivial⟩ (.nil ?_))))))));have HI:¬ 9223372036854775808<=b:=by
    have e63:b / 2 ^ 63=b / 9223372036854775808:=by rw [show (2:Nat) ^ 63=9223372036854775808 by decide]
    simp only [Y44,show 64 - 1 - 0=63 from rfl,e63] at hv1 hm1
    simp only [Y44] at hc20
    omega
   have e:bt b j=1:=by rw [bt,if_neg HI,if_pos (by omega)]
   have m2:=Y2p (b / 2 ^ (63 - j)) (show 0<2 by decide);refine ⟨j+1,⟨rfl,?_,rfl,trivial⟩,⟨by omega,hS⟩,by omega⟩;show some (U64 _)=some (U64 _)
   congr 2
   rw [kf,e];simp only [Yf] at hv0 hm0 ⊢
   rw [show 64 - 1 - j=63 - j from rfl] at hv0 hm0;omega
  have hc24:=hb24; simp only [Y6] at hc24;refine .skip (.t 1 rfl ?_);refine .val (.mulx (.of rfl) (.of rfl) (by rw [IntKind.wrap_u64]; omega)) rfl (.q 1 rfl (.val (.cvi (.of rfl) Qu3 Xn3 (by rw [IntKind.wrap_u64]; omega)) rfl (.val (.addx (.of rfl) (.of rfl) (by rw [IntKind.wrap_u64]; omega)) rfl (.q 1 rfl (.nil (.region (.run 3 rfl ⟨⟨by omega,by omega⟩,trivial⟩ (.nil ?_))))))));have HI:¬ 9223372036854775808<=b:=by
   have e63:b / 2 ^ 63=b / 9223372036854775808:=by rw [show (2:Nat) ^ 63=9223372036854775808 by decide]
   simp only [Y44,show 64 - 1 - 0=63 from rfl,e63] at hv1 hm1
   simp only [Y44] at hc20
   omega
  have e:bt b j=b / 2 ^ (63 - j) % 2:=by rw [bt,if_neg HI,if_neg (by omega)]
  have m2:=Y2p (b / 2 ^ (63 - j)) (show 0<2 by decide);refine ⟨j+1,⟨rfl,?_,rfl,trivial⟩,⟨by omega,hS⟩,by omega⟩;show some (U64 _)=some (U64 _)
  congr 2
  rw [kf,e];simp only [Yf] at hv0 hm0 ⊢
  rw [show 64 - 1 - j=63 - j from rfl] at hv0 hm0;omega
 have hc10:=hb10; simp only [Y6] at hc10;refine .exit (.seq (.q 2 rfl (.ret (Xc Tryz.results184 rfl ?_))));exact ⟨_,rfl,by rw [<- kf_key hb,show 64=j by omega],hS.y 0 1⟩
theorem X8x (a:Int) (w:World) :
  Cz 212 [U64 a] w fun v w'=>v=.bool false/\w=w':=by
 refine calls Tryz.func212 rfl Tryz.ntmps212 rfl (.seq (.q 1 rfl (.seq (.q 4 rfl (.ret (Xc Tryz.results212 rfl ?_))))));exact ⟨_,rfl,by simp,rfl⟩
theorem Xgg (a b:Int) (w:World) :
  Cz 164 [U64 a,U64 b] w fun v w'=>v=I64 (if a<b then -1 else if b<a then 1 else 0)/\w=w':=by
 refine calls Tryz.func164 rfl Tryz.ntmps164 rfl (.seq (.q 1 rfl (.seq (.t 1 rfl (.call Tryz.func212 rfl (ec9 rfl X0) rfl (X8x _ _) ?_)))));rintro _ _ ⟨rfl,rfl⟩;refine .q 1 rfl (.nil (.seq (.t 1 rfl (.call Tryz.func212 rfl (ec9 rfl X0) rfl (X8x _ _) ?_))));rintro _ _ ⟨rfl,rfl⟩;refine .q 1 rfl (.nil (.seq (.seq (.q 1 rfl (.condF (rfl) (.skip (.seq (.seq (.q 1 rfl (.condF (rfl) (.skip (.seq (.seq (.q 3 rfl ?_))))))))))))));refine .cond rfl (fun hb16=>?_) fun hb16=>?_
 ·have hc16:=hb16; simp only [Y6] at hc16;refine .seq (.q 1 rfl (.ret (Xc Xv4 rfl ?_)));exact ⟨_,rfl,by rw [if_pos hc16],rfl⟩
 have hc16:=hb16; simp only [Y6] at hc16;refine .skip (.seq (.seq (.q 3 rfl ?_)));refine .cond rfl (fun hb19=>?_) fun hb19=>?_
 ·have hc19:=hb19; simp only [Y6] at hc19;refine .seq (.q 1 rfl (.ret (Xc Xv4 rfl ?_)));exact ⟨_,rfl,by rw [if_neg (by omega),if_pos hc19],rfl⟩
 have hc19:=hb19; simp only [Y6] at hc19;refine .skip (.seq (.q 1 rfl (.ret (Xc Xv4 rfl ?_))));exact ⟨_,rfl,by rw [if_neg (by omega),if_neg (by omega)],rfl⟩
end Go.Proofs.YtbciobiiejpdgaaGreatDoor
namespace Srt
variable {k:Int->Nat}
def bef (k:Int->Nat) (x y:Int):Prop:=k x<k y\/(k x=k y/\x<y)
theorem X1q {x y z:Int} (h:bef k x y) (h2:bef k y z):bef k x z:=by unfold bef at *; omega
theorem Xkn {x:Int}:¬ bef k x x:=by unfold bef; omega
theorem bef_later {x y:Int} (h:x<y):bef k y x ↔ k y<k x:=by unfold bef; omega
theorem not_bef_later {x y:Int} (h:x<y) (h2:¬ k y<k x):bef k x y:=by unfold bef; omega
def cmpv (k:Int->Nat) (x y:Int):Int:=if k x<k y then -1 else if k y<k x then 1 else 0
theorem cmpv_neg {x y:Int}:cmpv k x y<0 ↔ k x<k y:=by unfold cmpv; split <;> (try split) <;> omega
abbrev So (k:Int->Nat) (l:List Int):Prop:=l.Pairwise (bef k)
def cross (A T:List Int):Prop:=∀ a∈A,∀ t∈T,a<t
def swp (D:List Int) (i j:Nat):List Int:=(D.set i (D.getD j 0)).set j (D.getD i 0)
theorem swp_comm {D:List Int} {i j:Nat} (h:i≠j):swp D i j=swp D j i:=by
 unfold swp; rw [List.set_comm _ _ h]
theorem at_app (A B:List Int) (x:Int):(A ++ x::B).getD A.length 0=x:=by simp [Y8]
theorem swp_eq (A M C:List Int) (p q:Int):swp (A ++ p::(M ++ q::C)) A.length (A.length+1+M.length)=A ++ q::(M ++ p::C):=by
 have h1:=at_app A (M ++ q::C) p;have h2:(A ++ p::(M ++ q::C)).getD (A.length+1+M.length) 0=q:=by
  have:=at_app (A ++ p::M) C q
  rw [Y0,List.length_cons,show A.length+(M.length+1)=A.length+1+M.length by omega] at this;simpa using this
 unfold swp;rw [h1,h2];have e1:(A ++ p::(M ++ q::C)).set A.length q=A ++ q::(M ++ q::C):=by
  rw [Y2c _ _ (Yq _),Y3k]; rfl
 rw [e1,Y2c _ _ (by omega),show A.length+1+M.length - A.length=M.length+1 by omega,Y4c,Y2c _ _ (Yq _),Y3k];rfl
theorem swp_adj (A C:List Int) (p q:Int):swp (A ++ p::q::C) A.length (A.length+1)=A ++ q::p::C:=by
 have:=swp_eq A [] C p q
 simpa using this
theorem so_insert {U1 U2:List Int} {x:Int} (h:So k (U1 ++ U2)) (h1:∀ u∈U1,bef k u x) (h2:∀ u∈U2,bef k x u):So k (U1 ++ x::U2):=by
 obtain ⟨a,b,c⟩:=Y1t.1 h;refine Y1t.2 ⟨a,Y3d.2 ⟨h2,b⟩,fun u hu v hv=>?_⟩;rcases Y17.1 hv with rfl | hv
 ·exact h1 u hu
 ·exact c u hu v hv
theorem so_last {U:List Int} {p x:Int} (h:So k (U ++ [p])) (hp:bef k p x):∀ u∈U ++ [p],bef k u x:=by
 intro u hu;rcases Y12.1 hu with hu | hu
 ·exact X1q ((Y1t.1 h).2.2 u hu p (by simp)) hp
 ·simp at hu; subst hu; exact hp
theorem Xb0 {V:List Int} (h:So k V) {p q:Nat} (hpq:p<q) (hq:q<V.length):bef k (V.getD p 0) (V.getD q 0):=by
 have:=Y3e.1 h p q (by omega) hq hpq
 simpa [Y8,hq,(show p<V.length by omega)] using this
theorem getD_mem {V:List Int} {p:Nat} (h:p<V.length):V.getD p 0∈V:=by
 rw [Y8,Y4 h]; exact Y36 h
theorem Xoy {V:List Int} {v:Int} (h:v∈V):∃ p,p<V.length/\V.getD p 0=v:=by
 obtain ⟨p,hp,e⟩:=Y4s.1 h;exact ⟨p,hp,by rw [Y8,Y4 hp,<- e]; rfl⟩
theorem X5v {V:List Int} {n:Nat} {v:Int} (h:v∈V.take n):∃ p,p<n/\p<V.length/\V.getD p 0=v:=by
 obtain ⟨p,hp,e⟩:=Xoy h;rw [Yr] at hp;refine ⟨p,by omega,by omega,?_⟩;rw [<- e];simp [Y8,Y1r,show p<n by omega]
theorem X5u {V:List Int} {n:Nat} {v:Int} (h:v∈V.drop n):∃ p,n<=p/\p<V.length/\V.getD p 0=v:=by
 obtain ⟨p,hp,e⟩:=Xoy h;rw [Yg] at hp;refine ⟨n+p,by omega,by omega,?_⟩;rw [<- e];simp [Y8,Y1d]
theorem get_app1 {A B:List Int} {i:Nat} (h:i<A.length):(A ++ B).getD i 0=A.getD i 0:=by
 simp [Y8,Y2o,h]
theorem get_app2 {A B:List Int} {i:Nat} (h:A.length<=i):(A ++ B).getD i 0=B.getD (i - A.length) 0:=by
 simp [Y8,Y2o,Nat.not_lt.2 h]
theorem get_mid {F G E:List Int} {i:Nat} (h1:F.length<=i) (h2:i<F.length+G.length):(F ++ (G ++ E)).getD i 0∈G:=by
 rw [get_app2 h1,get_app1 (by omega)];exact getD_mem (by omega)
theorem concat_of {U:List Int} (h:0<U.length):∃ V q,U=V ++ [q]:=by
 have hne:U≠[]:=fun e=>by rw [e] at h; simp at h
 exact ⟨U.dropLast,U.getLast hne,(Y4u hne).symm⟩
theorem cons_of {U:List Int} (h:0<U.length):∃ q V,U=q::V:=by
 cases U with
 | nil=>simp at h
 | cons q V=>exact ⟨q,V,rfl⟩
theorem Xjv {V:List Int} (h:So k V) {p q:Nat} (hpq:p<=q) (hq:q<V.length):k (V.getD p 0)<=k (V.getD q 0):=by
 rcases Yp p q with h1 | h1
 ·have:=Xb0 h h1 hq
  unfold bef at this; omega
 ·rw [show p=q by omega]; exact Yq _
theorem so_left {V:List Int} {x:Int} {i:Nat} (h:So k V) (hx:∀ v∈V,x<v) (hi:i<=V.length) (h1:i=0\/k (V.getD (i - 1) 0)<k x) (h2:i=V.length\/¬ k (V.getD i 0)<k x):So k (V.take i ++ x::V.drop i):=by
 refine so_insert (by rw [Yv]; exact h) (fun u hu=>?_) (fun u hu=>?_)
 ·obtain ⟨p,p1,p2,rfl⟩:=X5v hu;rcases h1 with h1 | h1
  ·omega
  ·have:=Xjv h (show p<=i - 1 by omega) (by omega)
   exact .inl (by omega)
 ·obtain ⟨p,p1,p2,rfl⟩:=X5u hu;rcases h2 with h2 | h2
  ·omega
  ·have:=Xjv h p1 p2
   exact not_bef_later (hx _ (getD_mem p2)) (by omega)
theorem so_right {V:List Int} {x:Int} {i:Nat} (h:So k V) (hx:∀ v∈V,v<x) (hi:i<=V.length) (h1:i=0\/¬ k x<k (V.getD (i - 1) 0)) (h2:i=V.length\/k x<k (V.getD i 0)):So k (V.take i ++ x::V.drop i):=by
 refine so_insert (by rw [Yv]; exact h) (fun u hu=>?_) (fun u hu=>?_)
 ·obtain ⟨p,p1,p2,rfl⟩:=X5v hu;rcases h1 with h1 | h1
  ·omega
  ·have:=Xjv h (show p<=i - 1 by omega) (by omega)
   exact not_bef_later (hx _ (getD_mem p2)) (by omega)
 ·obtain ⟨p,p1,p2,rfl⟩:=X5u hu;rcases h2 with h2 | h2
  ·omega
  ·have:=Xjv h p1 p2
   exact .inl (by omega)
theorem so_app {X Y:List Int} (hx:So k X) (hy:So k Y) (h:∀ x∈X,∀ y∈Y,bef k x y):So k (X ++ Y):=Y1t.2 ⟨hx,hy,h⟩
theorem cross_sub {A T A' T':List Int} (h:cross A T) (ha:∀ x∈A',x∈A) (ht:∀ x∈T',x∈T):cross A' T':=fun a h1 t h2=>h a (ha a h1) t (ht t h2)
theorem split_lt {U V:List Int} (hU:So k U) (hV:So k V) (hc:cross U V) {s e:Nat} (hs:s<=U.length) (he:e<=V.length)
  (h1:s=0\/e=V.length\/bef k (U.getD (s - 1) 0) (V.getD e 0)) (h2:e=0\/s=U.length\/bef k (V.getD (e - 1) 0) (U.getD s 0)) :
  (∀ x∈U.take s ++ V.take e,∀ y∈U.drop s ++ V.drop e,bef k x y):=by
 intro x hx y hy;rcases Y12.1 hx with hx | hx <;> rcases Y12.1 hy with hy | hy
 ·obtain ⟨p,p1,p2,rfl⟩:=X5v hx;obtain ⟨q,q1,q2,rfl⟩:=X5u hy;exact Xb0 hU (by omega) q2
 ·obtain ⟨p,p1,p2,rfl⟩:=X5v hx;obtain ⟨q,q1,q2,rfl⟩:=X5u hy;have hb:bef k (U.getD (s - 1) 0) (V.getD e 0):=by
   rcases h1 with h | h | h
   ·omega
   ·omega
   ·exact h
  have e1:U.getD p 0=U.getD (s - 1) 0\/bef k (U.getD p 0) (U.getD (s - 1) 0):=by
   rcases Yp p (s - 1) with h | h
   ·exact .inr (Xb0 hU h (by omega))
   ·exact .inl (by rw [show p=s - 1 by omega])
  have e2:V.getD e 0=V.getD q 0\/bef k (V.getD e 0) (V.getD q 0):=by
   rcases Yp e q with h | h
   ·exact .inr (Xb0 hV h q2)
   ·exact .inl (by rw [show e=q by omega])
  rcases e1 with e1 | e1 <;> rcases e2 with e2 | e2
  ·rw [e1,<- e2]; exact hb
  ·rw [e1]; exact X1q hb e2
  ·rw [<- e2]; exact X1q e1 hb
  ·exact X1q e1 (X1q hb e2)
 ·obtain ⟨p,p1,p2,rfl⟩:=X5v hx;obtain ⟨q,q1,q2,rfl⟩:=X5u hy;have hb:bef k (V.getD (e - 1) 0) (U.getD s 0):=by
   rcases h2 with h | h | h
   ·omega
   ·omega
   ·exact h
  have e1:V.getD p 0=V.getD (e - 1) 0\/bef k (V.getD p 0) (V.getD (e - 1) 0):=by
   rcases Yp p (e - 1) with h | h
   ·exact .inr (Xb0 hV h (by omega))
   ·exact .inl (by rw [show p=e - 1 by omega])
  have e2:U.getD s 0=U.getD q 0\/bef k (U.getD s 0) (U.getD q 0):=by
   rcases Yp s q with h | h
   ·exact .inr (Xb0 hU h q2)
   ·exact .inl (by rw [show s=q by omega])
  rcases e1 with e1 | e1 <;> rcases e2 with e2 | e2
  ·rw [e1,<- e2]; exact hb
  ·rw [e1]; exact X1q hb e2
  ·rw [<- e2]; exact X1q e1 hb
  ·exact X1q e1 (X1q hb e2)
 ·obtain ⟨p,p1,p2,rfl⟩:=X5v hx;obtain ⟨q,q1,q2,rfl⟩:=X5u hy;exact Xb0 hV (by omega) q2
theorem Xg8:∀ {X Y:List Int},So k X->So k Y->X.Perm Y->X=Y
 | [],Y,_,_,h=>(List.nil_perm.1 h).symm
 | x::X,[],_,_,h=>by have:=h.length_eq; simp at this
 | x::X,y::Y,hx,hy,h=>by
  obtain ⟨hx1,hx2⟩:=Y3d.1 hx;obtain ⟨hy1,hy2⟩:=Y3d.1 hy;have e:x=y:=by
   apply Classical.byContradiction
   intro hne;have m1:x∈Y:=by
    rcases Y17.1 (h.mem_iff.1 (Y3c:x∈x::X)) with h | h
    ·exact absurd h hne
    ·exact h
   have m2:y∈X:=by
    rcases Y17.1 (h.mem_iff.2 (Y3c:y∈y::Y)) with h | h
    ·exact absurd h.symm hne
    ·exact h
   exact Xkn (X1q (hx1 y m2) (hy1 x m1))
  subst e;rw [Xg8 hx2 hy2 (List.Perm.cons_inv h)]
inductive Full (k:Int->Nat) (s:Nat):List Int->Prop
 | nil:Full k s []
 | cons {U T:List Int}:U.length=s->So k U->cross U T->Full k s T->Full k s (U ++ T)
theorem Full.append {s:Nat} {A B:List Int} (ha:Full k s A) (hb:Full k s B) (hc:cross A B):Full k s (A ++ B):=by
 induction ha with
 | nil=>simpa using hb
 | cons h1 h2 h3 h4 ih =>
  rename_i U T
  rw [Yd];refine .cons h1 h2 (fun a ha t ht=>?_) (ih (cross_sub hc (fun x hx=>Y1y _ hx) (fun x hx=>hx)));rcases Y12.1 ht with ht | ht
  ·exact h3 a ha t ht
  ·exact hc a (Y1s _ ha) t ht
theorem Full.one {s:Nat} {U:List Int} (h:U.length=s) (hs:So k U):Full k s U:=by
 have:=Full.cons (T:=[]) h hs (fun _ _ _ h=>by cases h) .nil
 simpa using this
def Runs (k:Int->Nat) (s:Nat) (D:List Int):Prop:=∃ A U,D=A ++ U/\Full k s A/\U.length<s/\So k U/\cross A U
theorem Runs.sorted {s:Nat} {D:List Int} (h:Runs k s D) (hl:D.length<=s) (h0:0<s):So k D:=by
 obtain ⟨A,U,rfl,hA,hU,hs,hc⟩:=h;cases hA with
 | nil=>simpa using hs
 | cons h1 h2 h3 h4 =>
  rename_i V T
  simp only [Y0] at hl
  have hU0:U=[]:=Yj (by omega);have hT0:T=[]:=Yj (by omega);subst hU0; subst hT0;simpa using h2
theorem Full.two {s:Nat} {A:List Int} (h:Full k s A) (hl:s<A.length):∃ U V T,A=U ++ (V ++ T)/\U.length=s/\V.length=s/\So k U/\So k V/\cross U V/\cross U T/\cross V T/\Full k s T:=by
 cases h with
 | nil=>simp at hl
 | cons h1 h2 h3 h4 =>
  rename_i U T
  cases h4 with
  | nil=>simp at hl; omega
  | cons g1 g2 g3 g4 =>
   rename_i V T
   exact ⟨U,V,T,rfl,h1,g1,h2,g2,cross_sub h3 (fun _ h=>h) (fun _ h=>Y1s _ h),cross_sub h3 (fun _ h=>h) (fun _ h=>Y1y _ h),g3,g4⟩
theorem Full.few {s:Nat} {A:List Int} (h:Full k s A) (hl:A.length<2*s):A=[]\/(A.length=s/\So k A):=by
 cases h with
 | nil=>exact .inl rfl
 | cons h1 h2 h3 h4 =>
  rename_i U T
  cases h4 with
  | nil=>exact .inr ⟨by simpa using h1,by simpa using h2⟩
  | cons g1 g2 g3 g4=>simp only [Y0] at hl; omega
theorem cross_perm {A T M:List Int} (h:cross A T) (hp:M.Perm A):cross M T:=fun a ha=>h a (hp.mem_iff.1 ha)
theorem cross_permr {A T M:List Int} (h:cross A T) (hp:M.Perm T):cross A M:=fun a ha t ht=>h a ha t (hp.mem_iff.1 ht)
theorem cross_app {A B T:List Int} (h:cross A T) (h2:cross B T):cross (A ++ B) T:=fun a ha t ht=>by
 rcases Y12.1 ha with ha | ha
 ·exact h a ha t ht
 ·exact h2 a ha t ht
theorem cross_appr {A B T:List Int} (h:cross A B) (h2:cross A T):cross A (B ++ T):=fun a ha t ht=>by
 rcases Y12.1 ht with ht | ht
 ·exact h a ha t ht
 ·exact h2 a ha t ht
def upto:Nat->List Int
 | 0=>[]
 | n+1=>upto n ++ [(n:Int)]
theorem upto_len:∀ n,(upto n).length=n
 | 0=>rfl
 | n+1=>by rw [upto,Y0,upto_len n]; rfl
theorem upto_mem:∀ {n:Nat} {x:Int},x∈upto n ↔ 0<=x/\x<n
 | 0,x=>by simp [upto] <;> omega
 | n+1,x=>by
  rw [upto,Y12,upto_mem]
  simp
  omega
theorem upto_lt:∀ n,(upto n).Pairwise (·<·)
 | 0=>.nil
 | n+1=>by
  rw [upto];refine Y1t.2 ⟨upto_lt n,by simp,fun a ha b hb=>?_⟩;simp at hb
  have:=upto_mem.1 ha
  omega
def Ord (k:Int->Nat) (n:Nat) (D:List Int):Prop:=So k D/\D.Perm (upto n)
theorem Ord.unique {n:Nat} {D D':List Int} (h:Ord k n D) (h':Ord k n D'):D=D':=Xg8 h.1 h'.1 (h.2.trans h'.2.symm)
theorem Ord.len {n:Nat} {D:List Int} (h:Ord k n D):D.length=n:=by rw [h.2.length_eq,upto_len]
instance (k:Int->Nat) (x y:Int):Decidable (bef k x y):=by unfold bef; infer_instance
structure Sel (k:Int->Nat) (n:Nat) (us:List Bool) (Os T:List Int):Prop where
 len:us.length=n
 perm:(Os ++ T).Perm (upto n)
 so:So k Os
 before:∀ o∈Os,∀ t∈T,bef k o t
 used:∀ o∈Os,us.getD o.toNat false=true
 free:∀ t∈T,us.getD t.toNat false=false
def Best (k:Int->Nat) (T:List Int) (i:Nat) (b:Int):Prop:=(b=-1/\∀ t∈T,(i:Int)<=t)\/(b∈T/\b<i/\∀ t∈T,t<i->t=b\/bef k b t)
theorem Sel.start (k:Int->Nat) (n:Nat):Sel k n (List.replicate n false) [] (upto n) :=
 ⟨by simp,.refl _,.nil,(fun _ h=>by cases h),(fun _ h=>by cases h),fun t ht=>by
  have:=upto_mem.1 ht
  simp [Y8,Y5j,show t.toNat<n by omega]⟩
theorem Sel.mem {n:Nat} {us:List Bool} {Os T:List Int} (h:Sel k n us Os T) {t:Int} (ht:t∈T):0<=t/\t<n:=upto_mem.1 (h.perm.mem_iff.1 (Y1y _ ht))
theorem Sel.lens {n:Nat} {us:List Bool} {Os T:List Int} (h:Sel k n us Os T):Os.length+T.length=n:=by
 have:=h.perm.length_eq
 rw [Y0,upto_len] at this;exact this
theorem Best.lt {T:List Int} {i:Nat} {b:Int} (h:Best k T i b):b<i:=by
 rcases h with ⟨h,_⟩ | ⟨_,h,_⟩ <;> omega
theorem Best.is {T:List Int} {i:Nat} {b:Int} (h:Best k T i b) (h0:¬ b<0):b∈T:=by
 rcases h with ⟨h,_⟩ | ⟨h,_⟩
 ·omega
 ·exact h
theorem Best.take {n:Nat} {us:List Bool} {Os T:List Int} (h:Sel k n us Os T) {i:Nat} {b:Int} (hb:Best k T i b) (hi:i<n) (hu:us.getD i false=false) (hc:b<0\/k i<k b):Best k T (i+1) i:=by
 have hiT:(i:Int)∈T:=by
  rcases Y12.1 (h.perm.mem_iff.2 (upto_mem.2 ⟨by omega,by omega⟩:(i:Int)∈upto n)) with h1 | h1
  ·have:=h.used _ h1
   rw [Yf,hu] at this; cases this
  ·exact h1
 refine .inr ⟨hiT,by omega,fun t ht hti=>?_⟩;rcases Y5q t i with h1 | h1
 ·right
  rcases hb with ⟨_,h2⟩ | ⟨h2,h3,h4⟩
  ·have:=h2 t ht; omega
  ·have hk:k i<k b:=by
    rcases hc with hc | hc
    ·have:=h.mem h2; omega
    ·exact hc
   rcases h4 t ht h1 with rfl | h5
   ·exact .inl hk
   ·exact X1q (.inl hk) h5
 ·left; omega
theorem Best.keep {n:Nat} {us:List Bool} {Os T:List Int} (h:Sel k n us Os T) {i:Nat} {b:Int} (hb:Best k T i b) (hc:us.getD i false=true\/(¬ b<0/\¬ k i<k b)):Best k T (i+1) b:=by
 rcases hb with ⟨h1,h2⟩ | ⟨h2,h3,h4⟩
 ·refine .inl ⟨h1,fun t ht=>?_⟩;have h5:=h2 t ht;rcases Y5q i t with h6 | h6
  ·omega
  ·have e:t=i:=by omega
   rcases hc with hc | hc
   ·have:=h.free t ht
    rw [e,Yf,hc] at this; cases this
   ·omega
 ·refine .inr ⟨h2,by omega,fun t ht hti=>?_⟩;rcases Y5q t i with h6 | h6
  ·exact h4 t ht h6
  ·have e:t=i:=by omega
   rcases hc with hc | hc
   ·have:=h.free t ht
    rw [e,Yf,hc] at this; cases this
   ·right
    subst e;unfold bef; omega
theorem Sel.step {n:Nat} {us:List Bool} {Os T:List Int} (h:Sel k n us Os T) {b:Int} (hb:Best k T n b) (hT:0<T.length):0<=b/\b<n/\Sel k n (us.set b.toNat true) (Os ++ [b]) (T.erase b):=by
 obtain ⟨t0,ht0⟩:∃ t,t∈T:=by cases T with | nil=>simp at hT | cons t T=>exact ⟨t,Y3c⟩
 have h0:=h.mem ht0;obtain ⟨h2,h3,h4⟩:b∈T/\b<n/\∀ t∈T,t<n->t=b\/bef k b t:=by
  rcases hb with ⟨_,h2⟩ | h2
  ·have:=h2 t0 ht0; omega
  ·exact h2
 have hb0:=h.mem h2;have hp:T.Perm (b::T.erase b):=List.perm_cons_erase h2;have hPn:(Os ++ (b::T.erase b)).Perm (upto n):=(List.Perm.append_left Os hp.symm).trans h.perm;have hnd:(Os ++ (b::T.erase b)).Nodup:=hPn.nodup_iff.2 ((upto_lt n).imp fun h=>by omega);have hd2:=(Y5i.1 hnd).2.1;have hnb:b ∉ T.erase b:=(Y3j.1 hd2).1;have hnO:b ∉ Os:=fun ho=>(Y5i.1 hnd).2.2 b ho b Y3c rfl
 have sub:∀ t,t∈T.erase b->t∈T:=fun t ht=>List.mem_of_mem_erase ht
 refine ⟨hb0.1,h3,by simpa using h.len,by simpa using hPn,?_,?_,?_,?_⟩
 ·refine Y1t.2 ⟨h.so,by simp,fun o ho x hx=>?_⟩;simp at hx; subst hx
  exact h.before o ho _ h2
 ·intro o ho t ht;rcases Y12.1 ho with ho | ho
  ·exact h.before o ho t (sub t ht)
  ·simp at ho; subst ho
   have hm:=h.mem (sub t ht);rcases h4 t (sub t ht) (by omega) with e | e
   ·subst e; exact absurd ht hnb
   ·exact e
 ·intro o ho;rcases Y12.1 ho with ho | ho
  ·have:=h.used o ho
   have hne:¬ b.toNat=o.toNat:=fun e=>by
    have hm:0<=o:=(upto_mem.1 (h.perm.mem_iff.1 (Y1s _ ho))).1
    have:b=o:=by omega
    subst this; exact hnO ho
   simpa [Y8,Y23,hne] using this
  ·simp at ho; subst ho
   have hl:o.toNat<us.length:=by rw [h.len]; omega
   simp [Y8,Y23,hl]
 ·intro t ht
  have:=h.free t (sub t ht)
  have hne:¬ b.toNat=t.toNat:=fun e=>by
   have hm:=h.mem (sub t ht)
   have:b=t:=by omega
   subst this; exact hnb ht
  simpa [Y8,Y23,hne] using this
theorem Sel.done {n:Nat} {us:List Bool} {Os T:List Int} (h:Sel k n us Os T) (hl:n<=Os.length):Ord k n Os:=by
 have:=h.lens
 have hT:T=[]:=Yj (by omega);subst hT;exact ⟨h.so,by simpa using h.perm⟩
end Srt
namespace Go.Proofs.YtbciobiiejpdgaaGreatDoor
open Gk Rk
structure Cx (I:Im) (l:List Nat) (p:Addr):Prop where
 ex:∃ a c,At I p [.slice a l.length c]/\RS I a 1 l.length (l.map F64)
 small:∀ v∈l,v<18446744073709551616
def kx (l:List Nat) (x:Int):Nat:=Xop (l.getD x.toNat 0)
theorem Cx.mono {I J:Im} {l:List Nat} {p:Addr} (h:Cx I l p) (hl:Le I J):Cx J l p:=by
 obtain ⟨⟨a,c,h1,h2⟩,h3⟩:=h;exact ⟨⟨a,c,h1.mono hl,h2.mono hl⟩,h3⟩
theorem X7r {l:List Nat} (h:∀ v∈l,v<18446744073709551616) (i:Nat):l.getD i 0<18446744073709551616:=by
 by_cases hi:i<l.length
 ·refine h _ ?_;rw [Y8,Y4 hi];exact Y36 hi
 ·rw [Y8,Y1g (by omega)]; decide
abbrev CF (p:Addr):Value:=.func (.func 163) #[] [.pointer (some p)].toArray
theorem Xd3 {l:List Nat} {p:Addr} {I:Im} (h:Cx I l p) (x y:Int) (h0:0<=x) (h1:x<(l.length:Int)) (g0:0<=y) (g1:y<(l.length:Int)) (B w:World) (As:List X7) (hS:Sat B w I As) :
  Cz 163 [I64 x,I64 y,.pointer (some p)] w fun v w'=>v=I64 (Srt.cmpv (kx l) x y)/\Sat B w' I As:=by
 obtain ⟨sa,sc,hp,hr⟩:=h.ex;obtain ⟨pa,rfl,ha⟩:=hr.2 (by omega);refine calls Xmo rfl Tryz.ntmps163 rfl (.seq (.q 1 rfl (.seq (.qt hS (.val (fun w hS=>.ldI (.of rfl) hS hp Tryz.isAgg185 rfl) rfl (.val (fun w hS=>(.mo rfl)) rfl (.val (fun w hS=>(.ii rfl rfl (by omega) (by omega) X63 Xgf)) rfl (.val (fun w hS=>.ldEI F64 l 0 (i:=x) (.of rfl) hS ha rfl Xm5 h0 h1) rfl (.call Tryz.func165 rfl (ec9 rfl X0) rfl (fun w hS=>X4m (Xmg _ (X7r h.small (x).toNat) w) hS) (.val (fun w hS=>.ldI (.of rfl) hS hp Tryz.isAgg185 rfl) rfl (.val (fun w hS=>(.mo rfl)) rfl (.val (fun w hS=>(.ii rfl rfl (by omega) (by omega) X63 Xgf)) rfl (.val (fun w hS=>.ldEI F64 l 0 (i:=y) (.of rfl) hS ha rfl Xm5 g0 g1) rfl (.call Tryz.func165 rfl (ec9 rfl X0) rfl (fun w hS=>X4m (Xmg _ (X7r h.small (y).toNat) w) hS) (.call Tryz.func164 rfl (ec9 rfl (ec9 rfl X0)) rfl (fun w hS=>X4m (Xgg _ _ w) hS) (.val (fun w hS=>(.ao rfl)) rfl (.nil ?_)))))))))))))))));intro w hS;refine .ret (Xc Tryz.results163 rfl ?_);refine ⟨_,rfl,?_,hS⟩;unfold Srt.cmpv kx;simp only [Y3v]
theorem Xdx (U X M Y C:List Int) (hl:X.length=Y.length) (cv:Value) (b0 n c:Nat) (r:List Value) (hn:((U.length+(X.length+(M.length+Y.length)):Nat):Int)<=n) (hb:(U.length+(X.length+(M.length+(Y.length+C.length))))<=1000000) (B w:World) (I:Im) (As:List X7) (hS:Sat B w I (blk b0 ((U ++ (X ++ (M ++ (Y ++ C)))).map I64 ++ r) 3::As)) :
  Cz 287 [.slice (some (ad b0 0)) n c,I64 (U.length:Nat),I64 (U.length+Y.length+M.length:Nat),I64 (Y.length:Nat),cv] w fun v w'=>v=.tuple #[]/\Sat B w' I (blk b0 ((U ++ (Y ++ (M ++ (X ++ C)))).map I64 ++ r) 3::As):=by
 refine calls Xqx rfl Tryz.ntmps287 rfl (.seq (.q 1 rfl (.block (.loop (σ:=Int×List Int×List Int×List Int×List Int) (fun ⟨i,X1,X2,Y1,Y2⟩=>[(0,.slice (some (ad b0 0)) n c),(1,I64 (U.length:Nat)),(2,I64 (U.length+Y.length+M.length:Nat)),(3,I64 (Y.length:Nat)),(10,I64 i)]) (fun ⟨i,X1,X2,Y1,Y2⟩ w=>i=(X1.length:Int)/\X1.length=Y1.length/\X1 ++ X2=X/\Y1 ++ Y2=Y/\Sat B w I (blk b0 ((U ++ (Y1 ++ (X2 ++ (M ++ (X1 ++ (Y2 ++ C)))))).map I64 ++ r) 3::As)) (fun ⟨i,X1,X2,Y1,Y2⟩=>Y2.length) (0,[],X,[],Y) ⟨rfl,rfl,rfl,rfl,rfl,trivial⟩ ⟨rfl,rfl,rfl,rfl,hS⟩ ?_))));rintro ⟨i,X1,X2,Y1,Y2⟩ w ⟨hi,hxy,hX,hY,hS⟩;have hXl:X1.length+X2.length=X.length:=by rw [<- hX,Y0]
 have hYl:Y1.length+Y2.length=Y.length:=by rw [<- hY,Y0]
 obtain ⟨D,hD⟩:∃ D,D=U ++ (Y1 ++ (X2 ++ (M ++ (X1 ++ (Y2 ++ C))))):=⟨_,rfl⟩
 rw [<- hD] at hS;have hDl:D.length=U.length+(X.length+(M.length+(Y.length+C.length))):=by rw [hD]; simp only [Y0]; omega
 refine .seq (.seq (.q 3 rfl ?_));refine .cond rfl (fun hb13=>?_) fun hb13=>?_
 ·have hc13:=hb13; simp only [Y6] at hc13;refine .skip (.seq (.block (.dw (fun w=>∃ R,Sat B w I (blk b0 ((D).map I64 ++ r) 3::R)) (fun j=>!([21,23].contains j)) ?_)));replace hS:=hS.drew; generalize w.drew=w at hS ⊢;have hH:=(hS.x [0])
  refine .tp 0 rfl (fun w=>(.mo rfl)) (.tp 1 rfl (fun w=>(.mo rfl)) (.tp 2 rfl (fun w=>(.mo rfl)) (.tp 3 rfl (fun w=>(.add (.of rfl) (.of rfl) ⟨by omega,by omega⟩)) (.tp 4 rfl (fun w=>(.mo rfl)) (.tp 5 rfl (fun w=>(.mo rfl)) (.tp 6 rfl (fun w=>(.mo rfl)) (.tp 7 rfl (fun w=>(.add (.of rfl) (.of rfl) ⟨by omega,by omega⟩)) (.tp 8 rfl (fun w=>(.mo rfl)) (.tp 9 rfl (fun w=>(.mo rfl)) (.tp 10 rfl (fun w=>(.mo rfl)) (.tp 11 rfl (fun w=>(.add (.of rfl) (.of rfl) ⟨by omega,by omega⟩)) (.tp 12 rfl (fun w=>(.io rfl rfl (by omega) (by omega) Xf Qs3)) (.tk 13 rfl ⟨_,hH⟩ (fun w ⟨R,hS⟩=>.ldE I64 D 0 r (i:=((U.length+Y.length+M.length:Nat):Int)+i) (.of rfl) hS (k:=0) rfl rfl Qg3 (by omega) (by omega)) (.tp 14 rfl (fun w=>(.mo rfl)) (.tp 15 rfl (fun w=>(.mo rfl)) (.tp 16 rfl (fun w=>(.mo rfl)) (.tp 17 rfl (fun w=>(.add (.of rfl) (.of rfl) ⟨by omega,by omega⟩)) (.tp 18 rfl (fun w=>(.io rfl rfl (by omega) (by omega) Xf Qs3)) (.tk 19 rfl ⟨_,hH⟩ (fun w ⟨R,hS⟩=>.ldE I64 D 0 r (i:=((U.length:Nat):Int)+i) (.of rfl) hS (k:=0) rfl rfl Qg3 (by omega) (by omega)) (.tp 20 rfl (fun w=>(.io rfl rfl (by omega) (by omega) Xf Qs3)) ?_))))))))))))))))))));refine .b1 21 rfl (.stE I64 _ r hS (k:=0) rfl (.of rfl) (.of rfl) rfl rfl Qs3 (by omega) (by (try rw [Y2a]); omega) ?_);intro w hS; dsimp only [List.set] at hS;refine .nil ?_;refine And.intro (by intro h; cases h) ?_;refine .tp 22 rfl (fun w=>(.io rfl rfl (by omega) (by omega) Xf Qs3)) (.b1 23 rfl (.stE I64 _ r hS (k:=0) rfl (.of rfl) (.of rfl) rfl rfl Qs3 (by omega) (by (try rw [Y2a]); omega) ?_));intro w hS; dsimp only [List.set] at hS;refine .nil ?_;refine And.intro (by intro h; cases h) ?_;refine .dn (.region (.run 3 rfl ⟨⟨by omega,by omega⟩,trivial⟩ (.nil ?_)));obtain ⟨p,X3,rfl⟩:∃ p X3,X2=p::X3:=by cases X2 with | nil=>simp at hXl; omega | cons p X3=>exact ⟨p,X3,rfl⟩
  obtain ⟨q,Y3,rfl⟩:∃ q Y3,Y2=q::Y3:=by cases Y2 with | nil=>simp at hYl; omega | cons q Y3=>exact ⟨q,Y3,rfl⟩
  have e:=Srt.swp_eq (U ++ Y1) (X3 ++ (M ++ X1)) (Y3 ++ C) p q;have e1:D=(U ++ Y1) ++ p::((X3 ++ (M ++ X1)) ++ q::(Y3 ++ C)):=by rw [hD]; simp only [Yd,Ys]
  simp only [List.length_cons] at hXl hYl
  rw [<- e1,show (U ++ Y1).length=(((U.length:Nat):Int)+i).toNat by rw [Y0]; omega,show (((U.length:Nat):Int)+i).toNat+1+(X3 ++ (M ++ X1)).length=(((U.length+Y.length+M.length:Nat):Int)+i).toNat by simp only [Y0]; omega] at e;unfold Srt.swp at e;rw [e] at hS;refine ⟨(i+1,X1 ++ [p],X3,Y1 ++ [q],Y3),⟨rfl,rfl,rfl,rfl,rfl,trivial⟩,⟨by simp only [Y0,List.length_cons,List.length_nil]; omega,by simp only [Y0,List.length_cons,List.length_nil]; omega,by rw [<- hX]; simp,by rw [<- hY]; simp,?_⟩,by simp⟩;have e2:(U ++ Y1) ++ q::((X3 ++ (M ++ X1)) ++ p::(Y3 ++ C))=U ++ ((Y1 ++ [q]) ++ (X3 ++ (M ++ ((X1 ++ [p]) ++ (Y3 ++ C))))):=by simp only [Yd,Ys,Ye]
  rw [<- e2]; exact hS
 have hc13:=hb13; simp only [Y6] at hc13;refine .exit (X9d Tryz.results287 ?_);have hY2:Y2=[]:=Yj (by omega);have hX2:X2=[]:=Yj (by omega);subst hY2; subst hX2;rw [Y9] at hX hY;rw [hX,hY] at hD;rw [hD] at hS;exact ⟨_,rfl,rfl,hS⟩
theorem X5g (U X M Y C:List Int) (hl:X.length=Y.length) (cv:Value) (b0 n c:Nat) (r:List Value) (ia ib ic:Int) (ha:ia=U.length) (hib:ib=U.length+Y.length+M.length) (hic:ic=Y.length) (hn:((U.length+(X.length+(M.length+Y.length)):Nat):Int)<=n) (hb:(U.length+(X.length+(M.length+(Y.length+C.length))))<=1000000) (B w:World) (I:Im) (As:List X7) (hS:Sat B w I (blk b0 ((U ++ (X ++ (M ++ (Y ++ C)))).map I64 ++ r) 3::As)) :
  Cz 287 [.slice (some (ad b0 0)) n c,I64 ia,I64 ib,I64 ic,cv] w fun v w'=>v=.tuple #[]/\Sat B w' I (blk b0 ((U ++ (Y ++ (M ++ (X ++ C)))).map I64 ++ r) 3::As):=by
 subst ha; subst hic;obtain rfl:ib=((U.length+Y.length+M.length:Nat):Int):=by omega
 exact Xdx U X M Y C hl cv b0 n c r hn hb B w I As hS
end Go.Proofs.YtbciobiiejpdgaaGreatDoor
namespace Go.Proofs.YtbciobiiejpdgaaGreatDoor
open Gk Rk
set_option maxHeartbeats 400000 in
theorem Xwg {l:List Nat} {p:Addr} {I:Im} (hx:Cx I l p) (F R C:List Int) (hR:R.Pairwise (·<·)) (hin:∀ x∈R,0<=x/\x<(l.length:Int)) (b0 n c:Nat) (r:List Value) (ib:Int) (hib:ib=F.length+R.length) (hn:ib<=n) (hbb:F.length+R.length+C.length<=1000000) (B w:World) (As:List X7) (hS:Sat B w I (blk b0 ((F ++ (R ++ C)).map I64 ++ r) 3::As)) :
  Cz 249 [.slice (some (ad b0 0)) n c,I64 (F.length:Nat),I64 ib,CF p] w fun v w'=>v=.tuple #[]/\∃ M,M.Perm R/\Srt.So (kx l) M/\Sat B w' I (blk b0 ((F ++ (M ++ C)).map I64 ++ r) 3::As):=by
 refine calls Xmq rfl Tryz.ntmps249 rfl (.seq (.region (.run 3 rfl ⟨⟨by omega,by omega⟩,trivial⟩ (.nil (.block ?_)))));have hst:(F.length:Int)+1=max ((F.length:Int)+(R.take 1).length) (F.length+1)/\(R.take 1=[]->R.drop 1=[])/\Srt.So (kx l) (R.take 1)/\Srt.cross (R.take 1) (R.drop 1)/\(R.drop 1).Pairwise (·<·)/\(R.take 1 ++ R.drop 1).Perm R/\Sat B w I (blk b0 ((F ++ (R.take 1 ++ (R.drop 1 ++ C))).map I64 ++ r) 3::As):=by
  refine ⟨?_,?_,?_,?_,?_,by rw [Yv],?_⟩
  ·cases R <;> simp <;> omega
  ·intro h; cases R with
   | nil=>rfl
   | cons a R=>simp at h
  ·cases R with
   | nil=>exact .nil
   | cons a R=>simp
  ·cases R with
   | nil=>intro _ h; simp at h
   | cons a R=>intro u hu t ht; simp at hu ht; subst hu; exact (Y3d.1 hR).1 t ht
  ·exact hR.sublist (List.drop_sublist 1 R)
  ·have e:F ++ (R.take 1 ++ (R.drop 1 ++ C))=F ++ (R ++ C):=by rw [<- Yd (R.take 1),Yv]
   rw [e]; exact hS
 refine .loop (σ:=Int×List Int×List Int) (fun ⟨i,M,T⟩=>[(0,.slice (some (ad b0 0)) n c),(1,I64 (F.length:Nat)),(2,I64 ib),(3,CF p),(8,I64 i)]) (fun ⟨i,M,T⟩ w=>i=max ((F.length:Int)+M.length) (F.length+1)/\(M=[]->T=[])/\Srt.So (kx l) M/\Srt.cross M T/\T.Pairwise (·<·)/\(M ++ T).Perm R/\Sat B w I (blk b0 ((F ++ (M ++ (T ++ C))).map I64 ++ r) 3::As)) (fun ⟨i,M,T⟩=>T.length) ((F.length:Int)+1,R.take 1,R.drop 1) ⟨rfl,rfl,rfl,rfl,rfl,trivial⟩ hst ?_;rintro ⟨i,M,T⟩ w ⟨hi,hMT,hM,hc,hT,hP,hS⟩;have hPl:=hP.length_eq;rw [Y0] at hPl;refine .seq (.seq (.q 3 rfl ?_));refine .cond rfl (fun hb14=>?_) fun hb14=>?_
 ·have hc14:=hb14; simp only [Y6] at hc14;refine .skip (.seq (.block (.seq ?_)));have hMn:0<M.length:=by
   rcases Y1v M.length with h | h
   ·have h2:=hMT (Yj h); rw [h2] at hPl; simp at hPl; omega
   ·exact h
  obtain ⟨x,T,rfl⟩:=Srt.cons_of (U:=T) (by omega);simp only [List.length_cons] at hPl
  refine .q 2 rfl (.block ?_);refine .loop (σ:=Int×List Int×List Int) (fun ⟨j,U1,U2⟩=>[(0,.slice (some (ad b0 0)) n c),(1,I64 (F.length:Nat)),(2,I64 ib),(3,CF p),(8,I64 i),(9,I64 j)]) (fun ⟨j,U1,U2⟩ w=>j=(F.length:Int)+U1.length/\Srt.So (kx l) (U1 ++ U2)/\(∀ u∈U2,Srt.bef (kx l) x u)/\(U1 ++ U2).Perm M/\Sat B w I (blk b0 ((F ++ (U1 ++ x::(U2 ++ (T ++ C)))).map I64 ++ r) 3::As)) (fun ⟨j,U1,U2⟩=>U1.length) (i,M,[]) ⟨rfl,rfl,rfl,rfl,rfl,rfl,trivial⟩ ⟨by (try dsimp only); omega,by rw [Y9]; exact hM,(fun _ h=>by cases h),by rw [Y9],hS⟩ ?_;rintro ⟨j,U1,U2⟩ w ⟨hj,hs,hb2,hp2,hS⟩;obtain ⟨D,hD⟩:∃ D,D=F ++ (U1 ++ x::(U2 ++ (T ++ C))):=⟨_,rfl⟩
  rw [<- hD] at hS;have hp3:=hp2.length_eq;rw [Y0] at hp3;have hDl:D.length=F.length+(U1.length+1+U2.length+(T.length+C.length)):=by rw [hD]; simp only [Y0,List.length_cons]; omega
  have hinR:∀ v∈U1 ++ x::U2,0<=v/\v<(l.length:Int):=fun v hv=>by
   refine hin v (hP.mem_iff.1 ?_);rcases Y12.1 hv with h | h
   ·exact Y1s _ (hp2.mem_iff.1 (Y1s _ h))
   ·rcases Y17.1 h with rfl | h
    ·exact Y1y _ Y3c
    ·exact Y1s _ (hp2.mem_iff.1 (Y1y _ h))
  have hin2:∀ q:Nat,F.length<=q->q<F.length+(U1.length+1+U2.length)->0<=D.getD q 0/\D.getD q 0<(l.length:Int):=fun q h1 h2=>by
   refine hinR _ ?_;have e:D=F ++ ((U1 ++ x::U2) ++ (T ++ C)):=by rw [hD]; simp only [Yd,Ys]
   rw [e];exact Srt.get_mid h1 (by simp only [Y0,List.length_cons]; omega)
  have hx1:D.getD j.toNat 0=x:=by
   have:=Srt.at_app (F ++ U1) (U2 ++ (T ++ C)) x
   rw [show (F ++ U1).length=j.toNat by rw [Y0]; omega] at this;rw [hD,<- Yd];exact this
  have hlt:∀ u∈U1 ++ U2,u<x:=fun u hu=>hc u (hp2.mem_iff.1 hu) x Y3c
  refine .seq (.seq (.qt hS (.val (fun w hS=>(.mo rfl)) rfl (.val (fun w hS=>(.mo rfl)) rfl (.val (fun w hS=>(.gtr (.of rfl) (.of rfl))) rfl (.val (fun w hS=>(.mo rfl)) rfl (.gval rfl rfl rfl (fun hg1 w hS=>(.mo rfl)) rfl (.gval rfl rfl rfl (fun hg1 w hS=>(.mo rfl)) rfl (.gval rfl rfl rfl (fun hg1 w hS=>(.mo rfl)) rfl ?_)))))))));refine .gval rfl rfl rfl (fun hg1 w hS=>(.indexAddr (.gd hg1 rfl) (.gd hg1 rfl) (by (try simp only [Y6] at hg1); omega) (by (try simp only [Y6] at hg1); omega) Xf Qs3)) rfl ?_;refine .gval rfl rfl rfl (fun hg1 w hS=>.ldE I64 D 0 r (i:=j) (.gd hg1 rfl) hS (k:=0) rfl rfl Qg3 (by (try simp only [Y6] at hg1); omega) (by (try simp only [Y6] at hg1); omega)) rfl ?_;refine .gval rfl rfl rfl (fun hg1 w hS=>(.mo rfl)) rfl (.gval rfl rfl rfl (fun hg1 w hS=>(.mo rfl)) rfl (.gval rfl rfl rfl (fun hg1 w hS=>(.sub (.gd hg1 rfl) (.of rfl) ⟨by omega,by omega⟩)) rfl ?_));refine .gval rfl rfl rfl (fun hg1 w hS=>(.indexAddr (.gd hg1 rfl) (.gd hg1 rfl) (by (try simp only [Y6] at hg1); omega) (by (try simp only [Y6] at hg1); omega) Xf Qs3)) rfl ?_;refine .gval rfl rfl rfl (fun hg1 w hS=>.ldE I64 D 0 r (i:=j - 1) (.gd hg1 rfl) hS (k:=0) rfl rfl Qg3 (by (try simp only [Y6] at hg1); omega) (by (try simp only [Y6] at hg1); omega)) rfl ?_;refine .gvcall rfl rfl rfl Xmo rfl (fun hg1=>.gd hg1 rfl) (fun hg1=>Xd (.gd hg1 rfl) (Xd (.gd hg1 rfl) X0)) rfl (fun hg1 w hS=>by have hj1:=hin2 j.toNat (by (try simp only [Y6] at hg1); omega) (by (try simp only [Y6] at hg1); omega); have hj2:=hin2 (j - 1).toNat (by (try simp only [Y6] at hg1); omega) (by (try simp only [Y6] at hg1); omega); exact Xd3 hx _ _ hj1.1 hj1.2 hj2.1 hj2.2 B w _ hS) ?_;refine .gval rfl rfl rfl (fun hg1 w hS=>(.lss (.gd hg1 rfl) (.of rfl))) rfl (.val (fun w hS=>(.pa rfl rfl rfl)) rfl (.nil ?_));intro w hS;refine .cond rfl (fun hb34=>?_) fun hb34=>?_
  ·have hc34:=hb34; simp only [Y6] at hc34;refine .skip (.seq (.block (.dw (fun w=>∃ R,Sat B w I (blk b0 ((D).map I64 ++ r) 3::R)) (fun j=>!([15,17].contains j)) ?_)));replace hS:=hS.drew; generalize w.drew=w at hS ⊢;have hH:=(hS.x [0])
   refine .tp 0 rfl (fun w=>(.mo rfl)) (.tp 1 rfl (fun w=>(.mo rfl)) (.tp 2 rfl (fun w=>(.mo rfl)) (.tp 3 rfl (fun w=>(.mo rfl)) (.tp 4 rfl (fun w=>(.sub (.of rfl) (.of rfl) ⟨by omega,by omega⟩)) (.tp 5 rfl (fun w=>(.mo rfl)) (.tp 6 rfl (fun w=>(.mo rfl)) (.tp 7 rfl (fun w=>(.sub (.of rfl) (.of rfl) ⟨by omega,by omega⟩)) (.tp 8 rfl (fun w=>(.io rfl rfl (by omega) (by omega) Xf Qs3)) (.tk 9 rfl ⟨_,hH⟩ (fun w ⟨R,hS⟩=>.ldE I64 D 0 r (i:=j - 1) (.of rfl) hS (k:=0) rfl rfl Qg3 (by omega) (by omega)) (.tp 10 rfl (fun w=>(.mo rfl)) (.tp 11 rfl (fun w=>(.mo rfl)) (.tp 12 rfl (fun w=>(.io rfl rfl (by omega) (by omega) Xf Qs3)) (.tk 13 rfl ⟨_,hH⟩ (fun w ⟨R,hS⟩=>.ldE I64 D 0 r (i:=j) (.of rfl) hS (k:=0) rfl rfl Qg3 (by omega) (by omega)) (.tp 14 rfl (fun w=>(.io rfl rfl (by omega) (by omega) Xf Qs3)) ?_))))))))))))));refine .b1 15 rfl (.stE I64 _ r hS (k:=0) rfl (.of rfl) (.of rfl) rfl rfl Qs3 (by omega) (by (try rw [Y2a]); omega) ?_);intro w hS; dsimp only [List.set] at hS;refine .nil ?_;refine And.intro (by intro h; cases h) ?_;refine .tp 16 rfl (fun w=>(.io rfl rfl (by omega) (by omega) Xf Qs3)) (.b1 17 rfl (.stE I64 _ r hS (k:=0) rfl (.of rfl) (.of rfl) rfl rfl Qs3 (by omega) (by (try rw [Y2a]); omega) ?_));intro w hS; dsimp only [List.set] at hS;refine .nil ?_;refine And.intro (by intro h; cases h) ?_;refine .dn (.region (.run 3 rfl ⟨⟨by omega,by omega⟩,trivial⟩ (.nil ?_)));obtain ⟨U3,q,rfl⟩:=Srt.concat_of (U:=U1) (by omega);have e1:D=(F ++ U3) ++ q::x::(U2 ++ (T ++ C)):=by rw [hD]; simp only [Yd,Ys,Ye]
   have hq:D.getD (j - 1).toNat 0=q:=by
    have:=Srt.at_app (F ++ U3) (x::(U2 ++ (T ++ C))) q
    rw [show (F ++ U3).length=(j - 1).toNat by rw [Y0]; simp only [Y0,List.length_cons,List.length_nil] at hj; omega] at this;rw [e1]; exact this
   have hbq:Srt.bef (kx l) x q:=by
    have h:=Srt.cmpv_neg.1 hc34.2;rw [hx1,hq] at h;exact (Srt.bef_later (hlt q (by simp))).2 h
   have e:=Srt.swp_adj (F ++ U3) (U2 ++ (T ++ C)) q x;rw [<- e1,show (F ++ U3).length=(j - 1).toNat by rw [Y0]; simp only [Y0,List.length_cons,List.length_nil] at hj; omega,show (j - 1).toNat+1=j.toNat by omega,Srt.swp_comm (by omega)] at e;unfold Srt.swp at e;rw [e] at hS;refine ⟨(j - 1,U3,q::U2),⟨rfl,rfl,rfl,rfl,rfl,rfl,trivial⟩,⟨by simp only [Y0,List.length_cons,List.length_nil] at hj; (try dsimp only); omega,by simpa using hs,?_,by simpa using hp2,?_⟩,by simp⟩
   ·intro u hu;rcases Y17.1 hu with rfl | hu
    ·exact hbq
    ·exact hb2 u hu
   ·rw [Yd] at hS; exact hS
  have hc34:=hb34; simp only [Y6] at hc34;refine .exit (.region (.run 3 rfl ⟨⟨by omega,by omega⟩,trivial⟩ (.nil ?_)));have hLQ:∀ u∈U1,Srt.bef (kx l) u x:=by
   intro u hu;obtain ⟨U3,q,rfl⟩:=Srt.concat_of (U:=U1) (Y5n hu);have e1:D=(F ++ U3) ++ q::x::(U2 ++ (T ++ C)):=by rw [hD]; simp only [Yd,Ys,Ye]
   have hq:D.getD (j - 1).toNat 0=q:=by
    have:=Srt.at_app (F ++ U3) (x::(U2 ++ (T ++ C))) q
    rw [show (F ++ U3).length=(j - 1).toNat by rw [Y0]; simp only [Y0,List.length_cons,List.length_nil] at hj; omega] at this;rw [e1]; exact this
   simp only [Y0,List.length_cons,List.length_nil] at hj
   have h34:¬ (Srt.cmpv (kx l) (D.getD j.toNat 0) (D.getD (j - 1).toNat 0)<0):=by
    rcases hc34 with h | h
    ·omega
    ·omega
   rw [Srt.cmpv_neg,hx1,hq] at h34;exact Srt.so_last (Y1t.1 hs).1 (Srt.not_bef_later (hlt q (by simp)) h34) u hu
  have hU:Srt.So (kx l) (U1 ++ x::U2):=Srt.so_insert hs (hLQ) hb2;refine ⟨(i+1,U1 ++ x::U2,T),⟨rfl,rfl,rfl,rfl,rfl,trivial⟩,⟨by simp only [Y0,List.length_cons]; have:=hp2.length_eq; rw [Y0] at this; omega,fun h=>by simp at h,hU,?_,(Y3d.1 hT).2,?_,?_⟩,by simp⟩
  ·intro u hu t ht;have h1:u∈U1 ++ U2\/u=x:=by
    rcases Y12.1 hu with h | h
    ·exact .inl (Y1s _ h)
    ·rcases Y17.1 h with h | h
     ·exact .inr h
     ·exact .inl (Y1y _ h)
   rcases h1 with h1 | rfl
   ·exact hc u (hp2.mem_iff.1 h1) t (Y30 _ ht)
   ·exact (Y3d.1 hT).1 t ht
  ·refine List.Perm.trans ?_ hP;refine List.Perm.trans (List.Perm.append_right T Y5m) ?_;rw [Ys];refine List.Perm.trans (List.Perm.cons x (hp2.append_right T)) ?_;exact Y5m.symm
  ·rw [hD] at hS;have e:F ++ (U1 ++ x::(U2 ++ (T ++ C)))=F ++ ((U1 ++ x::U2) ++ (T ++ C)):=by simp only [Yd,Ys]
   rw [e] at hS; exact hS
 have hc14:=hb14; simp only [Y6] at hc14;refine .exit (X9d Tryz.results249 ?_);have hT0:T=[]:=by
  refine Yj ?_;rcases Y1v M.length with h | h
  ·have:=hMT (Yj h); rw [this]; rfl
  ·omega
 subst hT0;rw [Y9] at hP;exact ⟨_,rfl,rfl,M,hP,hM,by simpa using hS⟩
theorem Xua {l:List Nat} {p:Addr} {I:Im} (hx:Cx I l p) (F R C:List Int) (hR:R.Pairwise (·<·)) (hin:∀ x∈R,0<=x/\x<(l.length:Int)) (b0 n c:Nat) (r:List Value) (ia ib:Int) (hia:ia=F.length) (hib:ib=F.length+R.length) (hn:ib<=n) (hbb:F.length+R.length+C.length<=1000000) (B w:World) (As:List X7) (hS:Sat B w I (blk b0 ((F ++ (R ++ C)).map I64 ++ r) 3::As)) :
  Cz 249 [.slice (some (ad b0 0)) n c,I64 ia,I64 ib,CF p] w fun v w'=>v=.tuple #[]/\∃ M,M.Perm R/\Srt.So (kx l) M/\Sat B w' I (blk b0 ((F ++ (M ++ C)).map I64 ++ r) 3::As):=by
 subst hia;exact Xwg hx F R C hR hin b0 n c r ib hib hn hbb B w As hS
end Go.Proofs.YtbciobiiejpdgaaGreatDoor
