/- Part 2 of what the proof stands on: SxF, SxG, SxH, SxI, SxJ, SxK, SxL, SxM, SxN, SxO, SxP, SxQ, SxR, SxS, SxU. -/
import Derived.Test.YtokmddjcdfailaaGreatDoorM26A
import Derived.Scope
import Derived.Lib.Index
set_option linter.unusedVariables false
set_option linter.unusedSimpArgs false
namespace Sx
open Go Gk
def byV (c:Nat):AV:=.v (.int .u8 ((c % 256:Nat):Int))
def srcA (X:Cx) (H:X3) (sz:Nat):AV→Option (List AV×Nat)
 | .s b o m z=>bif Nat.beq m 0 then some ([],0) else bif Nat.beq z sz then match X1d X H b with
   | some cs=>match sub cs (o*z) (m*z) with
    | some xs=>some (xs,m)
    | none=>none
   | none=>none
  else none
 | .c b o m _=>match X1d X H b with
  | some cs=>match sub cs o (m*sz) with
   | some xs=>some (xs,m)
   | none=>none
  | none=>none
 | .v (.slice none 0 0)=>some ([],0)
 | .st l=>bif Nat.beq sz 1 then some (l.map byV,len l) else none
 | _=>none
section
variable {X:Cx} {B w:World} {I:Im} {ρ:Ren} {H:X3} {F:List Xe} {P:Program}
theorem X75 (ρ:Ren):∀ l:List Nat,X5 ρ (l.map byV)=some (bcs (byt l))
 | []=>rfl
 | c::l=>concL_cons.2 ⟨_,_,rfl,X75 ρ l,by simp [bcs,byt,byV,Y1u]⟩
theorem Xef {sz:Nat} {α:AV} {xs:List AV} {m:Nat} {v:Value} (h:WR X B I ρ H F w) (hs:srcA X H sz α=some (xs,m)) (hv:Xb ρ α=some v) :
  ∃ vs,X5 ρ xs=some vs∧vs.length=m*sz∧Builtin.lenOf v=pure m∧(∀ w',w'.heap=w.heap→(Builtin.firstCells sz m v).run P w'=.ok vs.toArray w')∧(∀ b o m' z,α=.s b o m' z→m'=m):=by
 have cellw:∀ {w':World} (hw:w'.heap=w.heap) (p:Addr),w'.cell? p=w.cell? p:=fun hw p=>by simp [World.cell?,hw]
 unfold srcA at hs
 split at hs
 ·rename_i b o m' z
  cases hm0:Nat.beq m' 0 with
  | true =>
   rw [hm0] at hs; cases hs
   have:=Y4 hm0
   subst this
   obtain ⟨ad,ba,cap,_,rfl⟩:=X2v hv
   exact ⟨[],rfl,by simp,rfl,fun w' _=>run_firstCells_some (P:=P) w' sz 0 _ _ _ [] (by simp) (fun j v hj=>by simp at hj),fun _ _ _ _ e=>by cases e; rfl⟩
  | false =>
  rw [hm0,cond_false] at hs
  cases hb:Nat.beq z sz with
  | false=>rw [hb] at hs; cases hs
  | true =>
   rw [hb,cond_true] at hs
   have e:=Y4 hb
   subst e
   split at hs
   ·rename_i cs hc
    split at hs
    ·rename_i xs' hx
     cases hs
     obtain ⟨ad,ba,cap,vs,h1,h2,h3,h4⟩:=h.part hc hx
     rw [Xb,h1] at hv
     cases hv
     refine ⟨vs,h2,h3,rfl,fun w' hw=>?_,fun _ _ _ _ e=>by cases e; rfl⟩
     exact run_firstCells_some (P:=P) w' z m _ _ _ vs h3 (fun j v hj=>by rw [Xo,cellw hw]; exact h4 j v hj)
    ·cases hs
   ·cases hs
 ·rename_i b o m' k
  split at hs
  ·rename_i cs hc
   split at hs
   ·rename_i xs' hx
    cases hs
    obtain ⟨ad,ba,cap,vs,h1,h2,h3,h4⟩:=h.part hc hx
    rw [Xb,h1] at hv
    cases hv
    refine ⟨vs,h2,h3,rfl,fun w' hw=>?_,fun _ _ _ _ e=>by cases e⟩
    exact run_firstCells_some (P:=P) w' sz m _ _ _ vs h3 (fun j v hj=>by rw [Xo,cellw hw]; exact h4 j v hj)
   ·cases hs
  ·cases hs
 ·cases hs; cases hv
  exact ⟨[],rfl,by simp,rfl,fun w' _=>run_firstCells_none w' sz 0 0 0,fun _ _ _ _ e=>by cases e⟩
 ·rename_i l
  cases hb:Nat.beq sz 1 with
  | false=>rw [hb] at hs; cases hs
  | true =>
   rw [hb] at hs
   have e:=Y4 hb
   subst e
   cases hs
   cases hv
   have hl:(byt l).length=len l:=by rw [Xg,byt,Yo]
   refine ⟨bcs (byt l),X75 ρ l,by rw [bcs,Yo,hl,Y1x],?_,fun w' _=>?_,fun _ _ _ _ e=>by cases e⟩
   ·show pure ((byt l).length)=_; rw [hl]
   ·have:=Go.Lib.run_firstCells_string (P:=P) w' 1 ⟨(byt l).toArray⟩
    rw [X1t] at this
    rw [← hl]; exact this
 ·cases hs
theorem X8t {t u ty e:TypeId} {i:TypeInfo} (ht:P.underlying t=some (.slice e)) (hu:P.underlying u=some .string∨∃ e',P.underlying u=some (.slice e')) (hi:P.info? e=some i) {b off sLen sCap m:Nat} {y:Value} {news:List Value} (hl:Builtin.lenOf y=pure m)
  (hf:(Builtin.firstCells i.size m y).run P w=.ok news.toArray w) (h1:∀ v∈news,v.oneCell'=true) (hroom:sLen+m≤sCap) (hc:∀ j,j<news.length→(w.cell? ⟨b,off+sLen*i.size+j,none⟩).isSome=true) (hz:∀ j,j<news.length→w.frozen? ⟨b,off+sLen*i.size+j,none⟩=false) :
  (Builtin.append_ #[t,u] ty #[.slice (some ⟨b,off,none⟩) sLen sCap,y]).run P w=.ok (.slice (some ⟨b,off,none⟩) (sLen+m) sCap) (w.setCells b (off+sLen*i.size) news):=by
 have hst:=run_storeCells_cells (P:=P) b (off+sLen*i.size) news 0 w (by simpa using hc) (by simpa using hz) h1
 simp only [Yt] at hst
 rcases hu with hu | ⟨e',hu⟩ <;> simp [Builtin.append_,run_underlying ht,run_underlying hu,Go.sizeOf,typeInfo,hi,hl,hroom,hf,Addr.add_lit,hst]
theorem X8s {t u ty e:TypeId} {i:TypeInfo} {z:Value} (ht:P.underlying t=some (.slice e)) (hu:P.underlying u=some .string∨∃ e',P.underlying u=some (.slice e')) (hi:P.info? e=some i) (hz:i.zero=some z) {a:Option Addr} {sLen sCap m:Nat} {y:Value} {olds news:List Value} (hl:Builtin.lenOf y=pure m)
  (hf:(Builtin.firstCells i.size m y).run P w.drew=.ok news.toArray w.drew) (hfo:(Builtin.firstCells i.size sLen (.slice a sLen sCap)).run P w.drew=.ok olds.toArray w.drew) (hg:sCap<sLen+m) (h63:((sLen+m:Nat):Int)≤9223372036854775807) (hb:(sLen+m)*i.bytes≤140737488355328) :
  (Builtin.append_ #[t,u] ty #[.slice a sLen sCap,y]).run P w =
   .ok (.slice (some ⟨w.heap.size,0,none⟩) (sLen+m) (grownCap w (sLen+m) sCap e)) (w.drew.alloc (.cells (olds.toArray ++ news.toArray ++ Builtin.zeroCells z.cells (grownCap w (sLen+m) sCap e - (sLen+m))) e)):=by
 have hn:¬ (sLen+m≤sCap):=by omega
 have h63':¬ (9223372036854775807<((sLen:Int)+(m:Int))):=by omega
 have hfit:=growslice_fits hg hb
 have h48':¬ (281474976710656<Builtin.nextslicecap (sLen+m) sCap*i.bytes):=by omega
 rcases hu with hu | ⟨e',hu⟩
 ·simp [Builtin.append_,run_underlying ht,run_underlying hu,Go.sizeOf,typeInfo,zeroValue,hi,hz,hl,hn,h63',h48',Question.forced,hf,hfo,newRow,grownCap]
  try (congr 2; apply Array.ext'; simp [Y7])
 ·simp [Builtin.append_,run_underlying ht,run_underlying hu,Go.sizeOf,typeInfo,zeroValue,hi,hz,hl,hn,h63',h48',Question.forced,hf,hfo,newRow,grownCap]
  try (congr 2; apply Array.ext'; simp [Y7])
end
def ExtOK (X : Cx) : Prop := X.ex.All fun f g => ∃ fn e, X.P.funcs[f]? = some fn ∧ (fn.name == "runtime.NumGoroutine") = false ∧ fn.body.isNone = true ∧ Extern.findNext fn = none ∧ Extern.find fn = some e ∧
 ∀ (αs:List AV) (γ:AV) (ρ:Ren) (vs:List Value) (w:World),g αs=some γ→X5 ρ αs=some vs→∃ v,Xb ρ γ=some v∧(e vs.toArray).run X.P w=.ok v w
structure X66 (X:Cx):Prop where
 ty:Xf1 X
 ls:∀ p∈X.ls,liesAt X.P X.P.depth p.1 (p.2.1 / X.P.cellsOf p.1) 0 p.2.2 1=true
 c1:∀ e∈X.c1,X.P.cellsOf e=1
 ex:ExtOK X
def mem3:List (Nat×Nat×Nat)→Nat→Nat→Nat→Bool
 | [],_,_,_=>false
 | (a,b,c)::l,i,j,k=>bif Nat.beq a i && Nat.beq b j && Nat.beq c k then true else mem3 l i j k
theorem Xdq:∀ {l:List (Nat×Nat×Nat)} {i j k:Nat},mem3 l i j k=true→(i,j,k)∈l
 | [],_,_,_,h=>by cases h
 | (a,b,c)::l,i,j,k,h=>by
  unfold mem3 at h
  cases hb:(Nat.beq a i && Nat.beq b j && Nat.beq c k) with
  | true =>
   simp only [Y5] at hb
   have e1:=Y4 hb.1.1
   have e2:=Y4 hb.1.2
   have e3:=Y4 hb.2
   subst e1; subst e2; subst e3
   exact Y1o
  | false=>rw [hb] at h; exact Y16 _ (Xdq h)
def mem1:List Nat→Nat→Bool
 | [],_=>false
 | a::l,i=>bif Nat.beq a i then true else mem1 l i
theorem Xdp:∀ {l:List Nat} {i:Nat},mem1 l i=true→i∈l
 | [],_,h=>by cases h
 | a::l,i,h=>by
  unfold mem1 at h
  cases hb:Nat.beq a i with
  | true=>have e1:=Y4 hb; subst e1; exact Y1o
  | false=>rw [hb] at h; exact Y16 _ (Xdp h)
def Xc7:Nat→List AV→List AV
 | 0,_=>[]
 | k+1,l=>l ++ Xc7 k l
def X6k:List AV→Option (List Nat)
 | []=>some []
 | .v (.int .u8 (.ofNat c))::l=>match X6k l with
  | some r=>bif Nat.blt c 256 then some (c::r) else none
  | none=>none
 | _=>none
def X5i:List (List Nat×AV)→List Nat→Option AV
 | [],_=>none
 | (k,x)::l,s=>bif Xf5 s k then some x else X5i l s
def X5g:List (Int×AV)→Int→Option AV
 | [],_=>none
 | (k,x)::l,s=>bif s == k then some x else X5g l s
def X2o:List AV→Bool
 | []=>true
 | x::l=>bif Xh3 x then X2o l else false
theorem X4t:∀ l:List AV,X2o l=l.all Xh3
 | []=>rfl
 | x::l=>by rw [X2o,Y3x,X4t l]; cases Xh3 x <;> rfl
def appM1 (X:Cx) (H:X3) (id e:Nat) (te:TI) (α:AV) (news:List AV) (m:Nat):Option (AV×X3) :=
 match α with
 | .v (.slice none 0 0)=>bif Nat.beq m 0 then some (.v (.slice none 0 0),H)
  else bif Nat.ble (m*te.bytes) 140737488355328 && Nat.ble m 4611686018427387904 then some (.s id 0 m te.size,(id,.row e te.size false news)::H) else none
 | .s b o n z=>bif Nat.beq z te.size && Nat.ble ((n+m)*te.bytes) 140737488355328 && Nat.ble (n+m) 4611686018427387904 then
   match Xp H b with
   | some (.row E z' q cs)=>bif Nat.beq z' z && Nat.ble ((o+n)*z) (len cs) then
     bif Nat.ble ((o+n+m)*z) (len cs) then some (.s b o (n+m) z,X1l H b (.row E z' q (cs.take ((o+n)*z) ++ news ++ cs.drop ((o+n)*z+len news))))
     else bif Nat.beq E e then some (.s id 0 (n+m) z,Xas H b id (.row e z false ((cs.take ((o+n)*z) ++ news).drop (o*z)))) else none
    else none
   | _=>none
  else none
 | .c b o n k=>bif Nat.blt k (n+m) && Nat.ble ((n+m)*te.bytes) 140737488355328 && Nat.ble (n+m) 4611686018427387904 then
   match X1d X H b with
   | some cs=>match sub cs o (n*te.size) with
    | some olds=>some (.s id 0 (n+m) te.size,(id,.row e te.size false (olds ++ news))::H)
    | none=>none
   | none=>none
  else bif Nat.beq m 0 && Nat.ble n k then some (.c b o n k,H) else none
 | _=>none
def strSl:Und→Bool
 | .str=>true
 | .slice _=>true
 | _=>false
def appM (X:Cx) (H:X3) (id:Nat) (t u:Nat) (α β:AV):Option (AV×X3) :=
 match (X.ty.get t).map TI.und,(X.ty.get u).map TI.und with
 | some (.slice e),some ud=>match X.ty.get e with
  | some te=>bif strSl ud then match srcA X H te.size β with
    | some (news,m)=>bif X2o news && Nat.blt 0 te.size then appM1 X H id e te α news m else none
    | none=>none
   else none
  | none=>none
 | _,_=>none
section
variable {X:Cx} {B w:World} {I:Im} {ρ:Ren} {n:Nat} {E:List AV} {H:X3} {F:List Xe}
theorem X2s {xs:List AV} {vs:List Value} (h:X2o xs=true) (hc:X5 ρ xs=some vs):∀ v∈vs,v.oneCell'=true:=Xac (by rw [← X4t]; exact h) hc
def Yv (X:Cx) (B:World) (I:Im) (F:List Xe) (ρ:Ren) (s:Sem Value) (w:World) (id:Nat) (α:AV) (H':X3):Prop :=
 ∃ v w' σ,s.run X.P w=.ok v w'∧Ext ρ σ id (id+1)∧Xb σ α=some v∧WR X B I σ H' F w'
theorem X3q {n:Nat} (h:n≤4611686018427387904):n≤maxLen:=by unfold maxLen; omega
theorem Xhr (hX:X66 X) {id t u ty:Nat} {α β γ:AV} {H':X3} {x y:Value} (h:WR X B I ρ H F w) (hid:ρ id=none) (hx:Xb ρ α=some x) (hy:Xb ρ β=some y) (ha:appM X H id t u α β=some (γ,H')) :
  Yv X B I F ρ (Builtin.append_ #[t,u] ty #[x,y]) w id γ H':=by
 unfold appM at ha
 split at ha
 ·rename_i e ud hte hue
  have ht:=X2 hX.ty hte
  have hu0:=X2 hX.ty hue
  split at ha
  ·rename_i te htt
   have hT:=Tr.all_get hX.ty htt
   obtain ⟨i,z,hi,his,hib,hiz,hzs⟩:=hT.info
   cases hsl:strSl ud with
   | false=>rw [hsl] at ha; cases ha
   | true =>
   rw [hsl,cond_true] at ha
   have hu:X.P.underlying u=some .string∨∃ e',X.P.underlying u=some (.slice e'):=by
    cases ud with
    | str=>exact .inl hu0
    | slice e'=>exact .inr ⟨e',hu0⟩
    | _=>cases hsl
   have ha':=ha
   clear ha
   split at ha'
   ·rename_i news m hs
    obtain ⟨vs,hv1,hv2,hv3,hv4,_⟩:=Xef (P:=X.P) h hs hy
    cases hb:(X2o news && Nat.blt 0 te.size) with
    | false=>rw [hb] at ha'; cases ha'
    | true =>
     rw [hb,cond_true] at ha'
     rw [Y5] at hb
     have hone:=X2s hb.1 hv1
     have hpos:0<te.size:=Y1 hb.2
     have hf0:=hv4 w rfl
     have hfd:=hv4 w.drew rfl
     rw [← his] at hf0 hfd
     have grown:∀ {a:Option Addr} {k c:Nat} {olds:List Value} {ocs:List AV},c<k+m→k+m≤4611686018427387904→(k+m)*te.bytes≤140737488355328→X5 ρ ocs=some olds→olds.length=k*te.size →
       (Builtin.firstCells i.size k (.slice a k c)).run X.P w.drew=.ok olds.toArray w.drew →
       Yv X B I F ρ (Builtin.append_ #[t,u] ty #[.slice a k c,y]) w id (.s id 0 (k+m) te.size) ((id,.row e te.size false (ocs ++ news))::H):=by
      intro a k c olds ocs h1 h2 h3 h4 h5 h6
      have hr:=X8s (P:=X.P) (ty:=ty) ht hu hi hiz hv3 hfd h6 h1 (by omega) (by rw [hib]; exact h3)
      have hge:=grownCap_ge w (k+m) c e
      have hn:=(h.drew).new (id:=id) (E:=e) (z:=te.size) (cap:=grownCap w (k+m) c e) (q:=false) (cs:=ocs ++ news) (vs:=olds ++ vs) (rest:=(Builtin.zeroCells z.cells (grownCap w (k+m) c e - (k+m))).toList) (fr:=(0,0)) hid (Xd h4 hv1) (by
       rw [Y2,h5,hv2,Y1g,size_zeroCells,hzs,← Y1p,← Y1p]
       congr 1; omega) (grownCap_le_maxLen w (k+m) c e (X3q h2)) (Thaw.zero _) (fun h=>by cases h)
      refine ⟨_,_,X7s ρ id (w.heap.size,0,grownCap w (k+m) c e),hr,X19 _ hid,?_,?_⟩
      ·rw [Xb,X17]; simp
      ·have e1:(olds.toArray ++ vs.toArray ++ Builtin.zeroCells z.cells (grownCap w (k+m) c e - (k+m)))=((olds ++ vs) ++ (Builtin.zeroCells z.cells (grownCap w (k+m) c e - (k+m))).toList).toArray:=by
        apply Array.ext'; simp
       rw [e1]; exact hn
     unfold appM1 at ha'
     split at ha'
     ·cases hx
      cases hm:Nat.beq m 0 with
      | true =>
       rw [hm] at ha'; cases ha'
       have e0:=Y4 hm
       subst e0
       have hvn:vs=[]:=Yc (by rw [hv2]; simp)
       subst hvn
       refine ⟨.slice none 0 0,w,ρ,?_,Ext.refl _ _ _,rfl,h⟩
       rcases hu with hu | ⟨e',hu⟩ <;> simp [Builtin.append_,run_underlying ht,run_underlying hu,Go.sizeOf,typeInfo,hi,hv3,hf0]
      | false =>
       rw [hm,cond_false] at ha'
       cases hc:(Nat.ble (m*te.bytes) 140737488355328 && Nat.ble m 4611686018427387904) with
       | false=>rw [hc] at ha'; cases ha'
       | true =>
        rw [hc] at ha'; cases ha'
        rw [Y5] at hc
        have hm0:m≠0:=fun e0=>by subst e0; cases hm
        have:=grown (a:=none) (k:=0) (c:=0) (olds:=[]) (ocs:=[]) (by omega) (by have:=Y1 hc.2; omega) (by rw [Yq]; exact Y1 hc.1) rfl (by simp) (run_firstCells_none _ _ _ _ _)
        simpa using this
     ·rename_i b o k z'
      cases hc:(Nat.beq z' te.size && Nat.ble ((k+m)*te.bytes) 140737488355328 && Nat.ble (k+m) 4611686018427387904) with
      | false=>rw [hc] at ha'; cases ha'
      | true =>
       rw [hc,cond_true] at ha'
       simp only [Y5] at hc
       have ez:=Y4 hc.1.1
       have hcb:=Y1 hc.1.2
       have hcl:=Y1 hc.2
       subst ez
       obtain ⟨ad',ba',cap',hρ,rfl⟩:=X2v hx
       split at ha'
       ·rename_i E z'' q cs hfd2
        cases hc2:(Nat.beq z'' te.size && Nat.ble ((o+k)*te.size) (len cs)) with
        | false=>rw [hc2] at ha'; cases ha'
        | true =>
         rw [hc2,cond_true] at ha'
         rw [Y5] at hc2
         have ez2:=Y4 hc2.1
         subst ez2
         have hle:=Y1 hc2.2
         obtain ⟨ad,ba,cap,ws,e1,e2,e3,e4,e5,e6,_,_,e7⟩:=h.h.row hfd2
         rw [hρ] at e1; cases e1
         have hwl:=X9 e2
         rw [Xg,← hwl] at hle
         have hnl:len news=vs.length:=by rw [Xg,X9 hv1]
         have room:k+m≤cap' - o→(o+k)*te.size+vs.length≤cap'*te.size→(Builtin.append_ #[t,u] ty #[.slice (some ⟨ad',ba'+o*te.size,none⟩) k (cap' - o),y]).run X.P w=.ok (.slice (some ⟨ad',ba'+o*te.size,none⟩) (k+m) (cap' - o)) (w.setCells ad' (ba'+(o+k)*te.size) vs):=by
          intro h1 h2
          have hq:ba'+o*te.size+k*te.size=ba'+(o+k)*te.size:=by rw [Y1p,Y10]
          have:=X8t (P:=X.P) (w:=w) (ty:=ty) ht hu hi (b:=ad') (off:=ba'+o*te.size) (sLen:=k) (sCap:=cap' - o) hv3 hf0 hone h1 (fun j hj=>by
           rw [his,hq,Y10]; exact (e6 _ (by omega)).1) (fun j hj=>by rw [his,hq,Y10]; exact (e6 _ (by omega)).2)
          rw [his,hq] at this
          exact this
         have hupd:(o+k)*te.size+vs.length≤cap'*te.size→WR X B I ρ (X1l H b (.row E te.size q (cs.take ((o+k)*te.size) ++ news ++ cs.drop ((o+k)*te.size+len news)))) F (w.setCells ad' (ba'+(o+k)*te.size) vs):=fun h2 =>
          ⟨h.z,e7 _ _ vs hle h2 (by rw [hnl]; exact Xd (Xd (X1c _ e2) hv1) (X14 _ e2))⟩
         cases hin:Nat.ble ((o+k+m)*te.size) (len cs) with
         | true =>
          rw [hin] at ha'; cases ha'
          have hin':=Y1 hin
          rw [Xg,← hwl,Y1p (o+k) m] at hin'
          have h2:(o+k)*te.size+vs.length≤cap'*te.size:=by rw [hv2]; omega
          have h1:k+m≤cap' - o:=by
           have:(o+k+m)*te.size≤cap'*te.size:=by rw [Y1p (o+k) m,← hv2]; exact h2
           have:=Y1y this hpos
           omega
          exact ⟨_,_,ρ,room h1 h2,Ext.refl _ _ _,by rw [Xb,hρ],hupd h2⟩
         | false =>
          rw [hin,cond_false] at ha'
          cases hE:Nat.beq E e with
          | false=>rw [hE] at ha'; cases ha'
          | true =>
           rw [hE] at ha'; cases ha'
           have eE:=Y4 hE
           subst eE
           have hout:len cs<(o+k+m)*te.size:=by
            apply Nat.lt_of_not_le
            intro h9; rw [Y1b h9] at hin; cases hin
           rw [Xg,← hwl,Y1p (o+k) m,← hv2] at hout
           have hok:o+k≤cap':=by
            have:(o+k)*te.size≤cap'*te.size:=by omega
            exact Y1y this hpos
           by_cases hroom:k+m≤cap' - o
           ·have h2:(o+k)*te.size+vs.length≤cap'*te.size:=by
             have:(o+k+m)*te.size≤cap'*te.size:=Y22 _ (by omega)
             rw [hv2]; rw [Y1p (o+k) m] at this; exact this
            have hW:=hupd h2
            have hdrop:cs.drop ((o+k)*te.size+len news)=[]:=Y26 (by rw [← hwl,hnl]; omega)
            rw [hdrop,Y1d] at hW
            have hfs:Xp (X1l H b (.row E te.size q (cs.take ((o+k)*te.size) ++ news))) b=some (.row E te.size q (cs.take ((o+k)*te.size) ++ news)):=X6q hfd2 _
            have hW2:=hW.ren (o:=o) hfs hid hρ (by
             rw [Y2,Yi,← hwl]
             have:o*te.size≤(o+k)*te.size:=Y22 _ (by omega)
             omega)
            rw [X8e hfd2] at hW2
            exact ⟨_,_,_,room hroom h2,X19 _ hid,by rw [Xb,X17]; simp,hW2⟩
           ·-- it grows
            have holds:((ws.drop (o*te.size)).take (k*te.size)).length=k*te.size:=by
             rw [Yi,Y6]; rw [Y1p] at hle; omega
            have hocs:X5 ρ ((cs.drop (o*te.size)).take (k*te.size))=some ((ws.drop (o*te.size)).take (k*te.size)):=X1c _ (X14 _ e2)
            have hfo:(Builtin.firstCells i.size k (.slice (some ⟨ad',ba'+o*te.size,none⟩) k (cap' - o))).run X.P w.drew=.ok ((ws.drop (o*te.size)).take (k*te.size)).toArray w.drew:=by
             rw [his]
             refine run_firstCells_some (P:=X.P) w.drew te.size k _ _ _ _ holds fun j v hj=>?_
             rw [Xo,Y10]
             rw [Y12] at hj
             split at hj
             ·rw [Yp] at hj; exact e5 _ _ hj
             ·cases hj
            obtain ⟨v,w',σ,g1,g2,g3,g4⟩:=grown (a:=some ⟨ad',ba'+o*te.size,none⟩) (k:=k) (c:=cap' - o) (by omega) hcl hcb hocs holds hfo
            refine ⟨v,w',σ,g1,g2,g3,?_⟩
            have hne:Nat.beq id b=false:=X7z (fun e=>by rw [e,hρ] at hid; cases hid)
            have g5:=g4.del (id:=b) (b:=.row E te.size q cs) (by rw [Xp,hne]; exact hfd2)
            rw [Xc6,hne,cond_false] at g5
            have g6:=g5.swap (H:=H) (i:=b) (j:=id) (b:=.row E te.size q cs) (b':=.row E te.size false ((cs.drop (o*te.size)).take (k*te.size) ++ news)) hfd2
            have ecs:(cs.take ((o+k)*te.size) ++ news).drop (o*te.size)=(cs.drop (o*te.size)).take (k*te.size) ++ news:=by
             rw [Y31 (by rw [Yi,← hwl]; have:o*te.size≤(o+k)*te.size:=Y22 _ (by omega); omega),List.drop_take,Y1p,Y1q]
            rw [ecs]; exact g6
       ·cases ha'
     ·rename_i b o k c
      cases hc:(Nat.blt c (k+m) && Nat.ble ((k+m)*te.bytes) 140737488355328 && Nat.ble (k+m) 4611686018427387904) with
      | false =>
       rw [hc,cond_false] at ha'
       cases hc2:(Nat.beq m 0 && Nat.ble k c) with
       | false=>rw [hc2] at ha'; cases ha'
       | true =>
        rw [hc2] at ha'; cases ha'
        rw [Y5] at hc2
        have e0:=Y4 hc2.1
        subst e0
        have hkc:=Y1 hc2.2
        have hvn:vs=[]:=Yc (by rw [hv2]; simp)
        subst hvn
        obtain ⟨ad',ba',cap',hρ,rfl⟩:=X36 hx
        refine ⟨_,w,ρ,?_,Ext.refl _ _ _,hx,h⟩
        rcases hu with hu | ⟨e',hu⟩ <;> simp [Builtin.append_,run_underlying ht,run_underlying hu,Go.sizeOf,typeInfo,hi,hv3,hf0,hkc,storeCells]
      | true =>
       rw [hc,cond_true] at ha'
       simp only [Y5] at hc
       have h1:=Y1 hc.1.1
       split at ha'
       ·rename_i cs hcs
        split at ha'
        ·rename_i olds hol
         cases ha'
         obtain ⟨ad',ba',cap',hρ,rfl⟩:=X36 hx
         obtain ⟨ad,ba,cap,ws,g1,g2,g3,g4⟩:=h.part hcs hol
         rw [hρ] at g1; cases g1
         exact grown (a:=some ⟨ad',ba'+o,none⟩) (k:=k) (c:=c) h1 (Y1 hc.2) (Y1 hc.1.2) g2 g3 (by
          rw [his]
          exact run_firstCells_some (P:=X.P) w.drew te.size k _ _ _ _ g3 (fun j v hj=>by rw [Xo]; exact g4 j v hj))
        ·cases ha'
       ·cases ha'
     ·cases ha'
   ·cases ha'
  ·cases ha
 ·cases ha
end
def X4f (X:Cx) (E:List AV) (H:X3) (id:Nat) (t:Nat) (x:Operand) (lo hi mx:Option Operand):Option (AV×X3) :=
 match av X E x,(X.ty.get t).map TI.und with
 | some (.s b o m z),some (.slice e)=>match X.ty.get e,Xp H b with
  | some te,some (.row _ z' _ cs)=>bif Nat.beq z te.size && Nat.beq z' z && Nat.blt 0 z then
    match lo,hi,mx with
    | none,some h,none=>match av X E h with
     | some (.v (.int .i64 (.ofNat j)))=>bif Nat.ble ((o+j)*z) (len cs) then some (.s b o j z,H) else none
     | _=>none
    | some l,none,none=>match av X E l with
     | some (.v (.int .i64 (.ofNat i)))=>bif Nat.ble ((o+m)*z) (len cs) && Nat.ble i m then
       bif Nat.blt i m then some (.s b (o+i) (m - i) z,H) else some (.s id 0 0 z,H)
      else none
     | _=>none
    | some l,some h,none=>match av X E l,av X E h with
     | some (.v (.int .i64 (.ofNat i))),some (.v (.int .i64 (.ofNat j)))=>bif Nat.ble ((o+j)*z) (len cs) && Nat.ble i j then
       bif Nat.blt i j then some (.s b (o+i) (j - i) z,H) else some (.s id 0 0 z,H)
      else none
     | _,_=>none
    | none,some h,some k=>match av X E h,av X E k with
     | some (.v (.int .i64 (.ofNat j))),some (.v (.int .i64 (.ofNat i)))=>bif Nat.ble ((o+i)*z) (len cs) && Nat.ble j i then some (.c b (o*z) j i,H) else none
     | _,_=>none
    | _,_,_=>none
   else none
  | _,_=>none
 | some (.c b o m k),some (.slice e)=>match X.ty.get e with
  | some te=>match lo,hi,mx with
   | none,some h,none=>match av X E h with
    | some (.v (.int .i64 (.ofNat j)))=>bif Nat.ble j k then some (.c b o j k,H) else none
    | _=>none
   | some l,none,none=>match av X E l with
    | some (.v (.int .i64 (.ofNat i)))=>bif Nat.ble i m && Nat.blt i k then some (.c b (o+i*te.size) (m - i) (k - i),H) else none
    | _=>none
   | some l,some h,none=>match av X E l,av X E h with
    | some (.v (.int .i64 (.ofNat i))),some (.v (.int .i64 (.ofNat j)))=>bif Nat.ble i j && Nat.ble j k && Nat.blt i k then some (.c b (o+i*te.size) (j - i) (k - i),H) else none
    | _,_=>none
   | _,_,_=>none
  | none=>none
 | some (.p b o),some (.arr n e)=>match X.ty.get e with
  | some te=>match lo,hi,mx with
   | none,none,none=>some (.c b o n n,H)
   | some l,some h,none=>match av X E l,av X E h with
    | some (.v (.int .i64 (.ofNat i))),some (.v (.int .i64 (.ofNat j)))=>bif Nat.ble i j && Nat.ble j n && Nat.blt i n then some (.c b (o+i*te.size) (j - i) (n - i),H) else none
    | _,_=>none
   | _,_,_=>none
  | none=>none
 | _,_=>none
section
variable {X:Cx} {B w:World} {I:Im} {ρ:Ren} {n:Nat} {E:List AV} {H:X3} {F:List Xe}
def Ym (X:Cx) (B:World) (I:Im) (F:List Xe) (ρ:Ren) (a:Act) (w:World) (op:Op) (id:Nat) (α:AV) (H':X3):Prop :=
 ∀ d ty pos af g,∃ v w' σ,(execOp a.eval ⟨d,op,ty,pos,af,g⟩).run X.P w=.ok (.value v) w'∧Ext ρ σ id (id+1)∧Xb σ α=some v∧WR X B I σ H' F w'
theorem Ym.of {a:Act} {op:Op} {id:Nat} {α:AV} {v:Value} (hd:Holds n (Lf a) a) (h:WR X B I ρ H F w) (hc:Xb ρ α=some v) (hx:∀ d ty pos af g,Ex X.P n (Lf a) w ⟨d,op,ty,pos,af,g⟩ v w):Ym X B I F ρ a w op id α H :=
 fun d ty pos af g=>⟨v,w,ρ,hx d ty pos af g a hd,Ext.refl _ _ _,hc,h⟩
theorem Ym.empty {a:Act} {op:Op} {id ad off cap z:Nat} (hd:Holds n (Lf a) a) (h:WR X B I ρ H F w) (hid:ρ id=none) (hx:∀ d ty pos af g,Ex X.P n (Lf a) w ⟨d,op,ty,pos,af,g⟩ (.slice (some ⟨ad,off,none⟩) 0 cap) w):Ym X B I F ρ a w op id (.s id 0 0 z) H :=
 fun d ty pos af g=>⟨_,w,X7s ρ id (ad,off,cap),hx d ty pos af g a hd,X19 _ hid,by rw [Xb,X17]; simp,h.mono (X19 _ hid).1⟩
def Pw (X:Cx) (ρ:Ren) (n:Nat) (a:Act) (w:World) (op:Op) (α:AV):Prop:=∃ v,Xb ρ α=some v∧∀ d ty pos af g,Ex X.P n (Lf a) w ⟨d,op,ty,pos,af,g⟩ v w
def Sl (X:Cx) (B:World) (I:Im) (F:List Xe) (ρ:Ren) (n:Nat) (a:Act) (w:World) (op:Op) (id:Nat) (α:AV) (H H':X3):Prop :=
 (H'=H∧Pw X ρ n a w op α)∨((∃ z,α=.s id 0 0 z)∧Ym X B I F ρ a w op id α H')
theorem Sl.of {a:Act} {op:Op} {id:Nat} {α:AV} {v:Value} (hd:Holds n (Lf a) a) (h:WR X B I ρ H F w) (hc:Xb ρ α=some v) (hx:∀ d ty pos af g,Ex X.P n (Lf a) w ⟨d,op,ty,pos,af,g⟩ v w):Sl X B I F ρ n a w op id α H H :=
 .inl ⟨rfl,v,hc,hx⟩
theorem Sl.empty {a:Act} {op:Op} {id ad off cap z:Nat} (hd:Holds n (Lf a) a) (h:WR X B I ρ H F w) (hid:ρ id=none) (hx:∀ d ty pos af g,Ex X.P n (Lf a) w ⟨d,op,ty,pos,af,g⟩ (.slice (some ⟨ad,off,none⟩) 0 cap) w):Sl X B I F ρ n a w op id (.s id 0 0 z) H H :=
 .inr ⟨⟨z,rfl⟩,Ym.empty hd h hid hx⟩
theorem X2g {ad off l h m s:Nat} (hm:l≠m):sliced (some ⟨ad,off,none⟩) l h m s=.slice (some ⟨ad,off+l*s,none⟩) (h - l) (m - l):=by
 unfold sliced
 rw [if_neg (Ne.symm hm),Y1a,Xo]
theorem Xbb {ad off l m s:Nat}:∃ o',sliced (some ⟨ad,off,none⟩) l l m s=.slice (some ⟨ad,o',none⟩) 0 (m - l):=by
 unfold sliced
 split
 ·exact ⟨off,by simp⟩
 ·exact ⟨off+l*s,by rw [Y1a,Xo]; simp⟩
theorem X2w {ad off h m s:Nat}:sliced (some ⟨ad,off,none⟩) 0 h m s=.slice (some ⟨ad,off,none⟩) h m:=by
 unfold sliced
 split
 ·simp
 ·rw [Y1a,Xo]; simp
theorem X61 (hX:X66 X) {a:Act} {id t:Nat} {x:Operand} {lo hi mx:Option Operand} {α:AV} {H':X3} (hd:Hd ρ n E a) (h:WR X B I ρ H F w) (hid:ρ id=none) (ho:X4f X E H id t x lo hi mx=some (α,H')) :
  Sl X B I F ρ n a w (.slice t x lo hi mx) id α H H':=by
 have hf:=hd.full
 unfold X4f at ho
 split at ho
 ·rename_i b o m z e hx hu
  obtain ⟨u,hu1,hu2⟩:=X4 hd h.z hx
  obtain ⟨ad,ba,cap,hρ,rfl⟩:=X2v hu1
  have ht:=X2 hX.ty hu
  split at ho
  ·rename_i te E' z' q cs hte hfd
   have hT:=Tr.all_get hX.ty hte
   cases hc:(Nat.beq z te.size && Nat.beq z' z && Nat.blt 0 z) with
   | false=>rw [hc] at ho; cases ho
   | true =>
    rw [hc,cond_true] at ho
    simp only [Y5] at hc
    have e1:=Y4 hc.1.1
    have e2:=Y4 hc.1.2
    have hpos:0<z:=Y1 hc.2
    subst e2
    obtain ⟨ad2,ba2,cap2,ws,g1,g2,g3,_⟩:=h.h.row hfd
    rw [hρ] at g1; cases g1
    have hwl:=X9 g2
    have fits:∀ j,Nat.ble ((o+j)*z') (len cs)=true→j≤cap - o:=fun j hj=>by
     have:=Y1 hj
     rw [Xg,← hwl] at this
     have:=Y1y (Y1z this g3) hpos
     omega
    have hts:∀ w,(Go.sizeOf e).run X.P w=.ok z' w:=by rw [e1]; exact hT.size
    split at ho
    ·rename_i hh
     split at ho
     ·rename_i j hj
      cases hb:Nat.ble ((o+j)*z') (len cs) with
      | false=>rw [hb] at ho; cases ho
      | true =>
       rw [hb,cond_true] at ho
       have hle:=fits j hb
       obtain ⟨v,hv1,hv2⟩:=X4 hd h.z hj
       cases hv1
       have hx:∀ d ty pos af g,Ex X.P n (Lf a) w ⟨d,.slice t x none (some hh) none,ty,pos,af,g⟩ (.slice (some ⟨ad,ba+o*z',none⟩) j (cap - o)) w:=fun d ty pos af g=>by
        have:=Ex.slcTo (P:=X.P) (w:=w) (d:=d) (ty:=ty) (pos:=pos) (af:=af) (g:=g) (hi:=Int.ofNat j) hu2 hv2 (Ys j) (by show (j:Int)≤_; omega) ht hts
        rw [X2w] at this
        exact this
       cases ho; exact Sl.of hf h (by rw [Xb,hρ]) hx
     ·cases ho
    ·rename_i l
     split at ho
     ·rename_i i hi
      cases hb:(Nat.ble ((o+m)*z') (len cs) && Nat.ble i m) with
      | false=>rw [hb] at ho; cases ho
      | true =>
       rw [hb,cond_true] at ho
       rw [Y5] at hb
       have hle:=fits m hb.1
       have him:=Y1 hb.2
       obtain ⟨v,hv1,hv2⟩:=X4 hd h.z hi
       cases hv1
       have hx:∀ d ty pos af g,Ex X.P n (Lf a) w ⟨d,.slice t x (some l) none none,ty,pos,af,g⟩ (sliced (some ⟨ad,ba+o*z',none⟩) i m (cap - o) z') w:=fun d ty pos af g =>
        Ex.slcFrom (P:=X.P) (w:=w) (d:=d) (ty:=ty) (pos:=pos) (af:=af) (g:=g) (lo:=Int.ofNat i) hu2 hv2 (Ys i) (by show (i:Int)≤(m:Int); omega) ht hts
       cases hj0:Nat.blt i m with
       | true =>
        rw [hj0] at ho; cases ho
        have:i<m:=Y1 hj0
        refine Sl.of hf h ?_ hx
        rw [Xb,hρ,X2g (by omega),Y1p,Y10,Nat.sub_sub]
       | false =>
        rw [hj0] at ho; cases ho
        have:i=m:=by
         apply Nat.le_antisymm him; apply Y3p; intro h9; rw [show Nat.blt i m=true from Y1b h9] at hj0; cases hj0
        subst this
        obtain ⟨o',hs⟩:=Xbb (ad:=ad) (off:=ba+o*z') (l:=i) (m:=cap - o) (s:=z')
        rw [hs] at hx
        exact Sl.empty hf h hid hx
     ·cases ho
    ·rename_i l hh
     split at ho
     ·rename_i i j hi hj
      cases hb:(Nat.ble ((o+j)*z') (len cs) && Nat.ble i j) with
      | false=>rw [hb] at ho; cases ho
      | true =>
       rw [hb,cond_true] at ho
       rw [Y5] at hb
       have hle:=fits j hb.1
       have him:=Y1 hb.2
       obtain ⟨v,hv1,hv2⟩:=X4 hd h.z hi
       obtain ⟨v',hv3,hv4⟩:=X4 hd h.z hj
       cases hv1; cases hv3
       have hx:∀ d ty pos af g,Ex X.P n (Lf a) w ⟨d,.slice t x (some l) (some hh) none,ty,pos,af,g⟩ (sliced (some ⟨ad,ba+o*z',none⟩) i j (cap - o) z') w:=fun d ty pos af g =>
        Ex.slc (P:=X.P) (w:=w) (d:=d) (ty:=ty) (pos:=pos) (af:=af) (g:=g) (lo:=Int.ofNat i) (hi:=Int.ofNat j) hu2 hv2 hv4 (Ys i) (by show (i:Int)≤(j:Int); omega) (by show (j:Int)≤_; omega) ht hts
       cases hj0:Nat.blt i j with
       | true =>
        rw [hj0] at ho; cases ho
        have:i<j:=Y1 hj0
        refine Sl.of hf h ?_ hx
        rw [Xb,hρ,X2g (by omega),Y1p,Y10,Nat.sub_sub]
       | false =>
        rw [hj0] at ho; cases ho
        have:i=j:=by
         apply Nat.le_antisymm him; apply Y3p; intro h9; rw [show Nat.blt i j=true from Y1b h9] at hj0; cases hj0
        subst this
        obtain ⟨o',hs⟩:=Xbb (ad:=ad) (off:=ba+o*z') (l:=i) (m:=cap - o) (s:=z')
        rw [hs] at hx
        exact Sl.empty hf h hid hx
     ·cases ho
    ·rename_i hh k
     split at ho
     ·rename_i j i hj hi
      cases hb:(Nat.ble ((o+i)*z') (len cs) && Nat.ble j i) with
      | false=>rw [hb] at ho; cases ho
      | true =>
       rw [hb] at ho; cases ho
       rw [Y5] at hb
       have hle:=fits i hb.1
       have hji:=Y1 hb.2
       obtain ⟨v,hv1,hv2⟩:=X4 hd h.z hi
       obtain ⟨v',hv3,hv4⟩:=X4 hd h.z hj
       cases hv1; cases hv3
       have hT':X.P.underlying t=some (.slice (X.P.elem t)):=by rw [X1f ht]; exact ht
       refine Sl.of hf h (v:=.slice (some ⟨ad,ba+o*z',none⟩) j i) (by rw [Xb,hρ]) fun d ty pos af g b' hb'=>?_
       have hr:=run_slice_hm (P:=X.P) w t (some ⟨ad,ba+o*z',none⟩) m (cap - o) hT' .i64 .i64 (Int.ofNat j) (Int.ofNat i) (Ys j) (by show (j:Int)≤(i:Int); omega) (by show (i:Int)≤_; omega)
       rw [X1f ht,hts] at hr
       simp only [Result.andThen_ok] at hr
       have e3:(Int.ofNat j).toNat=j:=rfl
       have e4:(Int.ofNat i).toNat=i:=rfl
       rw [e3,e4,X2w] at hr
       simp only [execOp,Y1a,Y3t,hu2 b' hb',hv2 b' hb',hv4 b' hb',run_sliceAt_slice w t _ _ _ _ hT',hr,Sem.run_bind,Result.andThen_ok,Sem.run_pure]
     ·cases ho
    ·cases ho
  ·cases ho
 ·rename_i b o m k e hx hu
  obtain ⟨u,hu1,hu2⟩:=X4 hd h.z hx
  obtain ⟨ad,ba,cap,hρ,rfl⟩:=X36 hu1
  have ht:=X2 hX.ty hu
  split at ho
  ·rename_i te hte
   have hT:=Tr.all_get hX.ty hte
   split at ho
   ·rename_i hh
    split at ho
    ·rename_i j hj
     cases hb:Nat.ble j k with
     | false=>rw [hb] at ho; cases ho
     | true =>
      rw [hb] at ho; cases ho
      have hle:=Y1 hb
      obtain ⟨v,hv1,hv2⟩:=X4 hd h.z hj
      cases hv1
      refine Sl.of hf h (v:=.slice (some ⟨ad,ba+o,none⟩) j k) (by rw [Xb,hρ]) fun d ty pos af g=>?_
      have:=Ex.slcTo (P:=X.P) (w:=w) (d:=d) (ty:=ty) (pos:=pos) (af:=af) (g:=g) (hi:=Int.ofNat j) hu2 hv2 (Ys j) (by show (j:Int)≤(k:Int); omega) ht hT.size
      rw [X2w] at this
      exact this
    ·cases ho
   ·rename_i l
    split at ho
    ·rename_i i hi
     cases hb:(Nat.ble i m && Nat.blt i k) with
     | false=>rw [hb] at ho; cases ho
     | true =>
      rw [hb] at ho; cases ho
      rw [Y5] at hb
      have h1:=Y1 hb.1
      have h2:i<k:=Y1 hb.2
      obtain ⟨v,hv1,hv2⟩:=X4 hd h.z hi
      cases hv1
      refine Sl.of hf h (v:=.slice (some ⟨ad,ba+o+i*te.size,none⟩) (m - i) (k - i)) (by rw [Xb,hρ,Y10]) fun d ty pos af g=>?_
      have:=Ex.slcFrom (P:=X.P) (w:=w) (d:=d) (ty:=ty) (pos:=pos) (af:=af) (g:=g) (lo:=Int.ofNat i) hu2 hv2 (Ys i) (by show (i:Int)≤(m:Int); omega) ht hT.size
      rw [show (Int.ofNat i).toNat=i from rfl,X2g (by omega)] at this
      exact this
    ·cases ho
   ·rename_i l hh
    split at ho
    ·rename_i i j hi hj
     cases hb:(Nat.ble i j && Nat.ble j k && Nat.blt i k) with
     | false=>rw [hb] at ho; cases ho
     | true =>
      rw [hb] at ho; cases ho
      simp only [Y5] at hb
      have h1:=Y1 hb.1.1
      have h2:=Y1 hb.1.2
      have h3:i<k:=Y1 hb.2
      obtain ⟨v,hv1,hv2⟩:=X4 hd h.z hi
      obtain ⟨v',hv3,hv4⟩:=X4 hd h.z hj
      cases hv1; cases hv3
      refine Sl.of hf h (v:=.slice (some ⟨ad,ba+o+i*te.size,none⟩) (j - i) (k - i)) (by rw [Xb,hρ,Y10]) fun d ty pos af g=>?_
      have:=Ex.slc (P:=X.P) (w:=w) (d:=d) (ty:=ty) (pos:=pos) (af:=af) (g:=g) (lo:=Int.ofNat i) (hi:=Int.ofNat j) hu2 hv2 hv4 (Ys i) (by show (i:Int)≤(j:Int); omega) (by show (j:Int)≤(k:Int); omega) ht hT.size
      rw [show (Int.ofNat i).toNat=i from rfl,show (Int.ofNat j).toNat=j from rfl,X2g (by omega)] at this
      exact this
    ·cases ho
   ·cases ho
  ·cases ho
 ·rename_i b o m e hx hu
  obtain ⟨u,hu1,hu2⟩:=X4 hd h.z hx
  obtain ⟨ad,ba,cap,hρ,rfl⟩:=Xx hu1
  have ht:=X2 hX.ty hu
  obtain ⟨q1,q2⟩:=X3m ht
  have ht':X.P.underlying t=some (.array (X.P.arrayLen t) (X.P.elem t)):=by rw [q1,q2]; exact ht
  split at ho
  ·rename_i te hte
   have hT:=Tr.all_get hX.ty hte
   split at ho
   ·cases ho
    refine Sl.of hf h (v:=.slice (some ⟨ad,ba+o,none⟩) m m) (by rw [Xb,hρ]) fun d ty pos af g b' hb'=>?_
    have hr:=run_sliceAt_array_all (P:=X.P) (w:=w) (t:=t) (a:=⟨ad,ba+o,none⟩) ht'
    rw [q1,q2,hT.size] at hr
    have e0:slicedAt ⟨ad,ba+o,none⟩ 0 m m te.size=.slice (some ⟨ad,ba+o,none⟩) m m:=by
     unfold slicedAt
     split
     ·simp
     ·rw [Nat.zero_mul,Xo]; simp
    simp only [Result.andThen_ok,e0] at hr
    simp only [execOp,Y3t,hu2 b' hb',hr,Sem.run_bind,Result.andThen_ok,Sem.run_pure]
   ·rename_i l hh
    split at ho
    ·rename_i i j hi hj
     cases hb:(Nat.ble i j && Nat.ble j m && Nat.blt i m) with
     | false=>rw [hb] at ho; cases ho
     | true =>
      rw [hb] at ho; cases ho
      simp only [Y5] at hb
      have h1:=Y1 hb.1.1
      have h2:=Y1 hb.1.2
      have h3:i<m:=Y1 hb.2
      obtain ⟨v,hv1,hv2⟩:=X4 hd h.z hi
      obtain ⟨v',hv3,hv4⟩:=X4 hd h.z hj
      cases hv1; cases hv3
      refine Sl.of hf h (v:=.slice (some ⟨ad,ba+o+i*te.size,none⟩) (j - i) (m - i)) (by rw [Xb,hρ,Y10]) fun d ty pos af g b' hb'=>?_
      have hr:=run_sliceAt_array_lh (P:=X.P) (w:=w) (t:=t) (a:=⟨ad,ba+o,none⟩) ht' .i64 .i64 (Int.ofNat i) (Int.ofNat j) (Ys i) (by show (i:Int)≤(j:Int); omega) (by rw [q2]; show (j:Int)≤(m:Int); omega)
      rw [q1,q2,hT.size] at hr
      have e0:slicedAt ⟨ad,ba+o,none⟩ (Int.ofNat i).toNat (Int.ofNat j).toNat m te.size=.slice (some ⟨ad,ba+o+i*te.size,none⟩) (j - i) (m - i):=by
       show slicedAt ⟨ad,ba+o,none⟩ i j m te.size=_
       unfold slicedAt
       rw [if_neg (by omega),Xo]
      simp only [Result.andThen_ok,e0] at hr
      simp only [execOp,Y1a,Y3t,hu2 b' hb',hv2 b' hb',hv4 b' hb',hr,Sem.run_bind,Result.andThen_ok,Sem.run_pure]
    ·cases ho
   ·cases ho
  ·cases ho
 ·cases ho
theorem Xed (hX:X66 X) {a:Act} {id t:Nat} {x:Operand} {lo hi mx:Option Operand} {α:AV} {H':X3} (hd:Hd ρ n E a) (h:WR X B I ρ H F w) (hid:ρ id=none) (ho:X4f X E H id t x lo hi mx=some (α,H')) :
  Ym X B I F ρ a w (.slice t x lo hi mx) id α H':=by
 rcases X61 hX hd h hid ho with ⟨rfl,v,h1,h2⟩ | ⟨_,h1⟩
 ·exact Ym.of hd.full h h1 h2
 ·exact h1
end
def arrL (a:Array Operand):List Operand:=a.toList
def opM (X:Cx) (E:List AV) (H:X3) (id:Nat):Op→Option (AV×X3)
 | .load t x=>match av X E x,X.ty.get t with
  | some (.p b o),some ti=>match X1d X H b with
   | some cs=>match sub cs o ti.size with
    | some xs=>match X1q ti.agg xs with
     | some α=>some (α,H)
     | none=>none
    | none=>none
   | none=>none
  | _,_=>none
 | .alloc e=>match X.ty.get e with
  | some ti=>some (.p id 0,(id,.row e ti.size true ti.zero)::H)
  | none=>none
 | .box e x=>match av X E x with
  | some α=>match X4w α with
   | some xs=>some (.p id 0,(id,.row e (len xs) true xs)::H)
   | none=>none
  | none=>none
 | .buildSlice t k ps=>match (X.ty.get t).map TI.und with
  | some (.slice e)=>match X.ty.get e with
   | some te=>match avs X E (ps.toList.map (·.2)) with
    | some αs=>bif Nat.ble (k*te.size) 16777216 && Nat.ble k 16777216 then match Xdd (fun i=>some (i*te.size,te.size)) (Xc7 k te.zero) ((ps.toList.map (·.1)).zip αs) with
      | some cs=>bif Nat.beq (len cs) (k*te.size) then some (.s id 0 k te.size,(id,.row e te.size true cs)::H) else none
      | none=>none
     else none
    | none=>none
   | none=>none
  | _=>none
 | .makeSlice t x y=>match (X.ty.get t).map TI.und,av X E x,av X E y with
  | some (.slice e),some (.v (.int .i64 (.ofNat j))),some (.v (.int .i64 (.ofNat k)))=>match X.ty.get e with
   | some te=>bif Nat.beq j k && Nat.ble (te.bytes*k) 281474976710656 && Nat.ble k 4611686018427387904 then some (.s id 0 k te.size,(id,.row e te.size true (Xc7 k te.zero))::H) else none
   | none=>none
  | _,_,_=>none
 | .slice t x lo hi mx=>X4f X E H id t x lo hi mx
 | .makeMap t none=>match (X.ty.get t).map TI.und with
  | some (.map kt _)=>match (X.ty.get kt).map TI.und with
   | some .str=>some (.m id,(id,.mp [])::H)
   | some (.int .i64)=>some (.m id,(id,.mi [])::H)
   | _=>none
  | _=>none
 | .lookup t x y ok=>match (X.ty.get t).map TI.und,av X E x,av X E y with
  | some (.map kt et),some (.m b),some (.st s)=>match (X.ty.get kt).map TI.und,X.ty.get et,Xp H b with
   | some .str,some te,some (.mp kv)=>match X5i kv s,X1q te.agg te.zero with
    | some γ,_=>some (bif ok then .t [γ,.v (.bool true)] else γ,H)
    | none,some γ=>some (bif ok then .t [γ,.v (.bool false)] else γ,H)
    | none,none=>none
   | _,_,_=>none
  | some (.map kt et),some (.m b),some (.v (.int .i64 s))=>match (X.ty.get kt).map TI.und,X.ty.get et,Xp H b with
   | some (.int .i64),some te,some (.mi kv)=>match X5g kv s,X1q te.agg te.zero with
    | some γ,_=>some (bif ok then .t [γ,.v (.bool true)] else γ,H)
    | none,some γ=>some (bif ok then .t [γ,.v (.bool false)] else γ,H)
    | none,none=>none
   | _,_,_=>none
  | _,_,_=>none
 | .range t x=>match (X.ty.get t).map TI.und,av X E x with
  | some (.map _ _),some (.v (.map none))=>some (.p id 0,(id,.it)::H)
  | _,_=>none
 | .next x false=>match av X E x with
  | some (.p b 0)=>match Xp H b with
   | some .it=>some (.t [.v (.bool false)],H)
   | _=>none
  | _=>none
 | .convert src dst x=>match av X E x,(X.ty.get src).map TI.und,(X.ty.get dst).map TI.und with
  | some (.s b o m z),some (.slice e),some .str=>match (X.ty.get e).map TI.und,X1d X H b with
   | some (.int .u8),some cs=>match sub cs (o*z) (m*z) with
    | some xs=>match X6k xs with
     | some l=>bif Nat.beq z 1 then some (.st l,H) else none
     | none=>none
    | none=>none
   | _,_=>none
  | some (.c b o m k),some (.slice e),some .str=>match (X.ty.get e).map TI.und,X1d X H b with
   | some (.int .u8),some cs=>match sub cs o m with
    | some xs=>match X6k xs with
     | some l=>some (.st l,H)
     | none=>none
    | none=>none
   | _,_=>none
  | some (.st l),some .str,some (.slice e)=>match (X.ty.get e).map TI.und,X.ty.get e with
   | some (.int .u8),some te=>bif Nat.beq te.size 1 && Nat.ble (len l) 4611686018427387904 then some (.s id 0 (len l) 1,(id,.row e 1 false (l.map byV))::H) else none
   | _,_=>none
  | some (.p b o),some (.ptr t),some .unsafe_=>match X.ty.get t,Xp H b with
   | some tt,some (.row _ _ _ cs)=>bif Nat.blt 0 tt.size && Nat.blt o (len cs) then some (.p b o,H) else none
   | _,_=>none
  | some (.p b 0),some .unsafe_,some (.ptr u)=>match X.ty.get u,Xp H b with
   | some _,some (.row E' _ true cs)=>bif mem3 X.ls E' (len cs) u then some (.p b 0,H) else none
   | _,_=>none
  | _,_,_=>none
 | .call ⟨.builtin .append,⟨[x,y]⟩,⟨[t,u]⟩⟩=>match av X E x,av X E y with
  | some α,some β=>appM X H id t u α β
  | _,_=>none
 | .call ⟨.builtin .copy,⟨[x,y]⟩,⟨[t,_]⟩⟩=>match (X.ty.get t).map TI.und,av X E x,av X E y with
  | some (.slice e),some (.c b o m k),some β=>match X.ty.get e,Xp H b with
   | some te,some (.row E' z q cs)=>match srcA X H te.size β with
    | some (xs,j)=>bif Nat.ble j m && Nat.ble (o+j*te.size) (len cs) && X2o xs then some (.v (.int .i64 (j:Nat)),X1l H b (.row E' z q (cs.take o ++ xs ++ cs.drop (o+len xs)))) else none
    | none=>none
   | _,_=>none
  | _,_,_=>none
 | .call ⟨.builtin .unsafeSliceData,⟨[x]⟩,_⟩=>match av X E x with
  | some (.v (.slice none _ _))=>some (.v (.pointer none),H)
  | some (.s b o m z)=>match Xp H b with
   | some (.row _ z' _ cs)=>bif Nat.beq z' z && Nat.blt 0 z && Nat.blt 0 m && Nat.ble ((o+m)*z) (len cs) then some (.p b (o*z),H) else none
   | _=>none
  | _=>none
 | .call ⟨.builtin .unsafeString,⟨[x,y]⟩,⟨[pt,_]⟩⟩=>match av X E x,av X E y,(X.ty.get pt).map TI.und with
  | some (.v (.pointer none)),some (.v (.int .i64 (.ofNat 0))),_=>some (.st [],H)
  | some (.p b 0),some (.v (.int .i64 (.ofNat j))),some (.ptr e)=>match Xp H b with
   | some (.row E' z q cs)=>match sub cs 0 j with
    | some xs=>match X6k xs with
     | some l=>bif Nat.beq E' e && mem1 X.c1 e && Nat.blt 0 j && Nat.ble j 9223372036854775807 then some (.st l,Xc6 H b) else none
     | none=>none
    | none=>none
   | _=>none
  | _,_,_=>none
 | .call ⟨.value (.func f),xs,_⟩=>match X.ex.get f,avs X E (arrL xs) with
  | some g,some αs=>match g αs with
   | some γ=>some (γ,H)
   | none=>none
  | _,_=>none
 | _=>none
def opS (X:Cx) (E:List AV) (H:X3):Op→Option X3
 | .store t x y=>match av X E x,av X E y,X.ty.get t with
  | some (.p b o),some β,some ti=>match X4w β,Xp H b with
   | some xs,some (.row E' z q cs)=>bif Nat.beq (len xs) ti.size && Nat.ble (o+ti.size) (len cs) && X2o xs then some (X1l H b (.row E' z q (cs.take o ++ xs ++ cs.drop (o+len xs)))) else none
   | _,_=>none
  | _,_,_=>none
 | .mapUpdate t m k v=>match (X.ty.get t).map TI.und,av X E m,av X E k,av X E v with
  | some (.map kt _),some (.m b),some (.st s),some γ=>match (X.ty.get kt).map TI.und,Xp H b with
   | some .str,some (.mp kv)=>match X5i kv s with
    | none=>some (X1l H b (.mp (kv ++ [(s,γ)])))
    | some _=>none
   | _,_=>none
  | some (.map kt _),some (.m b),some (.v (.int .i64 s)),some γ=>match (X.ty.get kt).map TI.und,Xp H b with
   | some (.int .i64),some (.mi kv)=>match X5g kv s with
    | none=>some (X1l H b (.mi (kv ++ [(s,γ)])))
    | some _=>none
   | _,_=>none
  | _,_,_,_=>none
 | .insert t m k v=>match (X.ty.get t).map TI.und,av X E m,av X E k,av X E v with
  | some (.map kt _),some (.m b),some (.st s),some γ=>match (X.ty.get kt).map TI.und,Xp H b with
   | some .str,some (.mp kv)=>match X5i kv s with
    | none=>some (X1l H b (.mp (kv ++ [(s,γ)])))
    | some _=>none
   | _,_=>none
  | some (.map kt _),some (.m b),some (.v (.int .i64 s)),some γ=>match (X.ty.get kt).map TI.und,Xp H b with
   | some (.int .i64),some (.mi kv)=>match X5g kv s with
    | none=>some (X1l H b (.mi (kv ++ [(s,γ)])))
    | some _=>none
   | _,_=>none
  | _,_,_,_=>none
 | _=>none
section
variable {X:Cx} {B w:World} {I:Im} {ρ:Ren} {n:Nat} {E:List AV} {H:X3} {F:List Xe}
theorem X5w {l:List AV} {vs:List Value} (h:X5 ρ l=some vs):∀ k,X5 ρ (Xc7 k l)=some ((List.replicate k vs).flatten)
 | 0=>rfl
 | k+1=>by rw [Xc7,Y2m,Y2f]; exact Xd h (X5w h k)
theorem X3l:∀ {xs:List AV} {l:List Nat} {vs:List Value},X6k xs=some l→X5 ρ xs=some vs→vs=bcs (byt l)
 | [],l,vs,h,hc=>by cases h; rw [X5] at hc; cases hc; rfl
 | x::xs,l,vs,h,hc=>by
  unfold X6k at h
  split at h
  ·rename_i h0; cases h0
  ·rename_i c xs' h0
   cases h0
   obtain ⟨v,us,h1,h2,rfl⟩:=concL_cons.1 hc
   cases h1
   split at h
   ·rename_i r hr
    cases hb:Nat.blt c 256 with
    | false=>rw [hb] at h; cases h
    | true =>
     rw [hb] at h; cases h
     have hlt:c<256:=Y1 hb
     rw [X3l hr h2]
     simp only [bcs,byt,Yl,Y1u]
     congr 2
     show (Int.ofNat c)=((c % 256:Nat):Int)
     rw [Y2k hlt]; rfl
   ·cases h
  ·cases h
theorem X5j:∀ {kv:List (List Nat×AV)} {us:List (List UInt8×Value)} (s:List Nat),X2r ρ kv=some us→match X5i kv s with
  | some γ=>∃ v,us.lookup (byt s)=some v∧Xb ρ γ=some v
  | none=>us.lookup (byt s)=none
 | [],us,s,h=>by cases h; rfl
 | (k,x)::kv,us,s,h=>by
  obtain ⟨v,us',h1,h2,rfl⟩:=concK_cons.1 h
  unfold X5i
  rw [X77]
  cases hb:(byt s == byt k) with
  | true=>exact ⟨v,by rw [Y32,hb],h1⟩
  | false =>
   have:=X5j (kv:=kv) s h2
   rw [cond_false,Y32,hb]
   exact this
theorem X5h:∀ {kv:List (Int×AV)} {us:List (Int×Value)} (s:Int),X2q ρ kv=some us→match X5g kv s with
  | some γ=>∃ v,us.lookup s=some v∧Xb ρ γ=some v
  | none=>us.lookup s=none
 | [],us,s,h=>by cases h; rfl
 | (k,x)::kv,us,s,h=>by
  obtain ⟨v,us',h1,h2,rfl⟩:=concJ_cons.1 h
  unfold X5g
  cases hb:(s == k) with
  | true=>exact ⟨v,by rw [Y32,hb],h1⟩
  | false =>
   have:=X5h (kv:=kv) s h2
   rw [cond_false,Y32,hb]
   exact this
theorem WR.newObj {id:Nat} {o:Obj} {b:Blk} {i:Nat×Nat} (h:WR X B I ρ H F w) (hid:ρ id=none) (hb:∀ σ:Ren,σ id=some (w.heap.size,i)→LeR ρ σ→den σ (id,b) [(w.heap.size,o)]):WR X B I (X7s ρ id (w.heap.size,i)) ((id,b)::H) F (w.alloc o):=by
 have he:=(X19 (w.heap.size,i) hid).1
 refine ⟨h.z.mono he,?_⟩
 exact ((h.h.mono he).alloc o).say (k:=0) rfl (A':=den _ (id,b)) fun g hg=>by rw [own] at hg; rw [hg]; exact hb _ (X17 _ _ _) he
theorem Xdk {b:Nat} {k:Blk} (hf:Xp H b=some k):∃ j,(H.map (den ρ) ++ F)[j]?=some (den ρ (b,k))∧j<H.length∧∀ k',(X1l H b k').map (den ρ) ++ F=(H.map (den ρ) ++ F).set j (den ρ (b,k')):=by
 obtain ⟨j,hk,hs,_⟩:=X3p hf
 have hkl:j<H.length:=(Y0.1 hk).1
 refine ⟨j,by rw [Ya (by simpa using hkl),Yk,hk]; rfl,hkl,fun k'=>?_⟩
 rw [hs,List.map_set,Y34 _ _ (by simpa using hkl)]
theorem WR.mapNow {b:Nat} {kv:List (List Nat×AV)} (h:WR X B I ρ H F w) (hf:Xp H b=some (.mp kv)):∃ ad x us,ρ b=some (ad,x)∧X2r ρ kv=some us∧∃ es clk,Xes S us es∧w.heap[ad]?=some (.map es clk):=by
 obtain ⟨j,hj,_,_⟩:=Xdk (ρ:=ρ) (F:=F) hf
 have hS:Sat B w I (H.map (den ρ) ++ F):=h.h
 obtain ⟨⟨⟨ad,x,us⟩,e1,e2⟩,hS2⟩:=hS.opened (X:={ p:Nat×(Nat×Nat)×List (List UInt8×Value) // ρ b=some (p.1,p.2.1)∧X2r ρ kv=some p.2.2 }) (T:=fun p=>Xet S p.1.1 p.1.2.2) hj (by
  rintro g ⟨ad,x,us,e1,e2,e3⟩
  exact ⟨⟨(ad,x,us),e1,e2⟩,e3⟩)
 have hjl:=(Y0.1 hj).1
 exact ⟨ad,x,us,e1,e2,hS2.mapNow (K:=S) (Yu hjl)⟩
theorem WR.mapPut {b t kt et:Nat} {kv:List (List Nat×AV)} {s:List Nat} {γ:AV} {val:Value} (h:WR X B I ρ H F w) (hf:Xp H b=some (.mp kv)) (hno:X5i kv s=none) (hv:Xb ρ γ=some val) (ht:X.P.underlying t=some (.map kt et)) (hk:X.P.underlying kt=some .string) :
  ∃ ad x w',ρ b=some (ad,x)∧(Instr.mapUpdate t (.map (some ad)) (S (byt s)) val).run X.P w=.ok () w'∧WR X B I ρ (X1l H b (.mp (kv ++ [(s,γ)]))) F w':=by
 obtain ⟨j,hj,_,hse⟩:=Xdk (ρ:=ρ) (F:=F) hf
 have hS:Sat B w I (H.map (den ρ) ++ F):=h.h
 obtain ⟨⟨⟨ad,x,us⟩,e1,e2⟩,hS2⟩:=hS.opened (X:={ p:Nat×(Nat×Nat)×List (List UInt8×Value) // ρ b=some (p.1,p.2.1)∧X2r ρ kv=some p.2.2 }) (T:=fun p=>Xet S p.1.1 p.1.2.2) hj (by
  rintro g ⟨ad,x,us,e1,e2,e3⟩
  exact ⟨⟨(ad,x,us),e1,e2⟩,e3⟩)
 have hjl:=(Y0.1 hj).1
 have hno':us.lookup (byt s)=none:=by have:=X5j (kv:=kv) s e2; rw [hno] at this; exact this
 obtain ⟨w',hr,hS3⟩:=Xb1 (val:=val) (key:=byt s) keyS hS2 (Yu hjl) hno' ht hk
 refine ⟨ad,x,w',e1,hr,h.z,?_⟩
 unfold RH
 rw [hse]
 rw [Y2o] at hS3
 have hfin:=hS3.say (k:=j) (A':=den ρ (b,.mp (kv ++ [(s,γ)]))) (Yu hjl) (fun g hg=>⟨ad,x,_,e1,X4b e2 (concK_cons.2 ⟨val,[],hv,rfl,rfl⟩),hg⟩)
 rw [Y2o] at hfin
 exact hfin
theorem WR.mapNowJ {b:Nat} {kv:List (Int×AV)} (h:WR X B I ρ H F w) (hf:Xp H b=some (.mi kv)):∃ ad x us,ρ b=some (ad,x)∧X2q ρ kv=some us∧∃ es clk,Xes I64 us es∧w.heap[ad]?=some (.map es clk):=by
 obtain ⟨j,hj,_,_⟩:=Xdk (ρ:=ρ) (F:=F) hf
 have hS:Sat B w I (H.map (den ρ) ++ F):=h.h
 obtain ⟨⟨⟨ad,x,us⟩,e1,e2⟩,hS2⟩:=hS.opened (X:={ p:Nat×(Nat×Nat)×List (Int×Value) // ρ b=some (p.1,p.2.1)∧X2q ρ kv=some p.2.2 }) (T:=fun p=>Xet I64 p.1.1 p.1.2.2) hj (by
  rintro g ⟨ad,x,us,e1,e2,e3⟩
  exact ⟨⟨(ad,x,us),e1,e2⟩,e3⟩)
 have hjl:=(Y0.1 hj).1
 exact ⟨ad,x,us,e1,e2,hS2.mapNow (K:=I64) (Yu hjl)⟩
theorem WR.mapPutJ {b t kt et:Nat} {kv:List (Int×AV)} {s:Int} {γ:AV} {val:Value} (h:WR X B I ρ H F w) (hf:Xp H b=some (.mi kv)) (hno:X5g kv s=none) (hv:Xb ρ γ=some val) (ht:X.P.underlying t=some (.map kt et)) (hk:X.P.underlying kt=some (.int .i64)) :
  ∃ ad x w',ρ b=some (ad,x)∧(Instr.mapUpdate t (.map (some ad)) (I64 s) val).run X.P w=.ok () w'∧WR X B I ρ (X1l H b (.mi (kv ++ [(s,γ)]))) F w':=by
 obtain ⟨j,hj,_,hse⟩:=Xdk (ρ:=ρ) (F:=F) hf
 have hS:Sat B w I (H.map (den ρ) ++ F):=h.h
 obtain ⟨⟨⟨ad,x,us⟩,e1,e2⟩,hS2⟩:=hS.opened (X:={ p:Nat×(Nat×Nat)×List (Int×Value) // ρ b=some (p.1,p.2.1)∧X2q ρ kv=some p.2.2 }) (T:=fun p=>Xet I64 p.1.1 p.1.2.2) hj (by
  rintro g ⟨ad,x,us,e1,e2,e3⟩
  exact ⟨⟨(ad,x,us),e1,e2⟩,e3⟩)
 have hjl:=(Y0.1 hj).1
 have hno':us.lookup s=none:=by have:=X5h (kv:=kv) s e2; rw [hno] at this; exact this
 obtain ⟨w',hr,hS3⟩:=Xb1 (val:=val) (key:=s) keyI hS2 (Yu hjl) hno' ht hk
 refine ⟨ad,x,w',e1,hr,h.z,?_⟩
 unfold RH
 rw [hse]
 rw [Y2o] at hS3
 have hfin:=hS3.say (k:=j) (A':=den ρ (b,.mi (kv ++ [(s,γ)]))) (Yu hjl) (fun g hg=>⟨ad,x,_,e1,X4a e2 (concJ_cons.2 ⟨val,[],hv,rfl,rfl⟩),hg⟩)
 rw [Y2o] at hfin
 exact hfin
theorem Xh2 {t:Nat} {te:TI} {γ:AV} (hT:TyOK X.P t te) (h:X1q te.agg te.zero=some γ):∃ z,(∀ w,(zeroValue t).run X.P w=.ok z w)∧Xb ρ γ=some z:=by
 obtain ⟨z,h1,h2,h3,h4⟩:=hT.zero
 obtain ⟨h5,h6⟩:=X1j h (h2 ρ)
 refine ⟨z,h1,?_⟩
 rw [h5]
 cases hg:te.agg with
 | true=>rw [hg] at h4; obtain ⟨cs,rfl⟩:=h4; simp [Value.cells]
 | false =>
  rw [hg] at h4
  have:z.cells=#[z]:=by cases z <;> first | rfl | cases h4
  simp [this]
theorem opS_ok (hX:X66 X) {a:Act} {op:Op} {H':X3} (hd:Hd ρ n E a) (h:WR X B I ρ H F w) (ho:opS X E H op=some H'):∀ d ty pos af g,∃ w',(execOp a.eval ⟨d,op,ty,pos,af,g⟩).run X.P w=.ok .skip w'∧WR X B I ρ H' F w':=by
 have hf:=hd.full
 intro d ty pos af g
 unfold opS at ho
 split at ho
 ·rename_i t x y
  split at ho
  ·rename_i b o β ti hx hy hti
   obtain ⟨u,hu1,hu2⟩:=X4 hd h.z hx
   obtain ⟨v,hv1,hv2⟩:=X4 hd h.z hy
   obtain ⟨ad,ba,cap,hρ,rfl⟩:=Xx hu1
   have hT:=Tr.all_get hX.ty hti
   split at ho
   ·rename_i xs E' z q cs hxs hfd
    cases hb:(Nat.beq (len xs) ti.size && Nat.ble (o+ti.size) (len cs) && X2o xs) with
    | false=>rw [hb] at ho; cases ho
    | true =>
     rw [hb] at ho; cases ho
     simp only [Y5] at hb
     have h1:=Y4 hb.1.1
     have h2:=Y1 hb.1.2
     have hc:=X39 hxs hv1
     have hone:=X2s hb.2 hc
     obtain ⟨ad2,ba2,cap2,ws,g1,g2,g3,g4,g5,g6,_,_,g7⟩:=h.h.row hfd
     rw [hρ] at g1; cases g1
     have hwl:=X9 g2
     have hcl:=X9 hc
     rw [Xg,← hcl] at h1
     rw [Xg,← hwl] at h2
     refine ⟨w.setCells ad (ba+o) v.cells.toList,?_,h.z,g7 o _ v.cells.toList (by omega) (by rw [h1]; omega) (by
      have:=Xd (Xd (X1c o g2) hc) (X14 (o+len xs) g2)
      rw [Xg,← hcl] at this
      rw [Xg,← hcl]; exact this)⟩
     have hst:=run_storeCells_cells (P:=X.P) ad (ba+o) v.cells.toList 0 w (fun j hj=>by rw [Yt,Y10]; exact (g6 _ (by omega)).1) (fun j hj=>by rw [Yt,Y10]; exact (g6 _ (by omega)).2) hone
     rw [Yt] at hst
     have hsz:v.cells.size=ti.size:=by rw [← h1,Y1g]
     simp [execOp,hu2 a hf,hv2 a hf,Instr.storeAt,Instr.sureAddr,storeVar,hT.size,hsz,hst]
   ·cases ho
  ·cases ho
 ·rename_i t m k v
  split at ho
  ·rename_i kt et b s γ hu hm hk hv
   split at ho
   ·rename_i kv hkt hfd
    split at ho
    ·rename_i hno
     cases ho
     obtain ⟨um,hm1,hm2⟩:=X4 hd h.z hm
     obtain ⟨uk,hk1,hk2⟩:=X4 hd h.z hk
     obtain ⟨uv,hv1,hv2⟩:=X4 hd h.z hv
     cases hk1
     obtain ⟨ad,x,w',g1,g2,g3⟩:=h.mapPut hfd hno hv1 (X2 hX.ty hu) (X2 hX.ty hkt)
     rw [Xb,g1] at hm1
     cases hm1
     exact ⟨w',by simp [execOp,hm2 a hf,hk2 a hf,hv2 a hf,g2],g3⟩
    ·cases ho
   ·cases ho
  ·rename_i kt et b s γ hu hm hk hv
   split at ho
   ·rename_i kv hkt hfd
    split at ho
    ·rename_i hno
     cases ho
     obtain ⟨um,hm1,hm2⟩:=X4 hd h.z hm
     obtain ⟨uk,hk1,hk2⟩:=X4 hd h.z hk
     obtain ⟨uv,hv1,hv2⟩:=X4 hd h.z hv
     cases hk1
     obtain ⟨ad,x,w',g1,g2,g3⟩:=h.mapPutJ hfd hno hv1 (X2 hX.ty hu) (X2 hX.ty hkt)
     rw [Xb,g1] at hm1
     cases hm1
     exact ⟨w',by simp [execOp,hm2 a hf,hk2 a hf,hv2 a hf,g2],g3⟩
    ·cases ho
   ·cases ho
  ·cases ho
 ·rename_i t m k v
  split at ho
  ·rename_i kt et b s γ hu hm hk hv
   split at ho
   ·rename_i kv hkt hfd
    split at ho
    ·rename_i hno
     cases ho
     obtain ⟨um,hm1,hm2⟩:=X4 hd h.z hm
     obtain ⟨uk,hk1,hk2⟩:=X4 hd h.z hk
     obtain ⟨uv,hv1,hv2⟩:=X4 hd h.z hv
     cases hk1
     obtain ⟨ad,x,w',g1,g2,g3⟩:=h.mapPut hfd hno hv1 (X2 hX.ty hu) (X2 hX.ty hkt)
     rw [Xb,g1] at hm1
     cases hm1
     exact ⟨w',by simp [execOp,hm2 a hf,hk2 a hf,hv2 a hf,g2],g3⟩
    ·cases ho
   ·cases ho
  ·rename_i kt et b s γ hu hm hk hv
   split at ho
   ·rename_i kv hkt hfd
    split at ho
    ·rename_i hno
     cases ho
     obtain ⟨um,hm1,hm2⟩:=X4 hd h.z hm
     obtain ⟨uk,hk1,hk2⟩:=X4 hd h.z hk
     obtain ⟨uv,hv1,hv2⟩:=X4 hd h.z hv
     cases hk1
     obtain ⟨ad,x,w',g1,g2,g3⟩:=h.mapPutJ hfd hno hv1 (X2 hX.ty hu) (X2 hX.ty hkt)
     rw [Xb,g1] at hm1
     cases hm1
     exact ⟨w',by simp [execOp,hm2 a hf,hk2 a hf,hv2 a hf,g2],g3⟩
    ·cases ho
   ·cases ho
  ·cases ho
 ·cases ho
end
end Sx
namespace Sx
open Go Gk
section
variable {X:Cx} {B w:World} {I:Im} {ρ:Ren} {n:Nat} {E:List AV} {H:X3} {F:List Xe}
theorem Ym.new {a:Act} {op:Op} {id e z cap:Nat} {q:Bool} {cs:List AV} {vs rest:List Value} {fr:Nat×Nat} {α:AV} {v:Value} {w0:World} (hd:Holds n (Lf a) a) (h:WR X B I ρ H F w0) (hid:ρ id=none) (hc:X5 ρ cs=some vs) (hl:vs.length+rest.length=cap*z) (hm:cap≤maxLen) (ht:Thaw fr (vs.length+rest.length)) (hq:q=true→rest=[])
  (hv:Xb (X7s ρ id (w0.heap.size,0,cap)) α=some v) (hx:∀ d ty pos af g,(execOp a.eval ⟨d,op,ty,pos,af,g⟩).run X.P w=.ok (.value v) (w0.alloc (.cells (vs ++ rest).toArray e fr))):Ym X B I F ρ a w op id α ((id,.row e z q cs)::H) :=
 fun d ty pos af g=>⟨v,_,_,hx d ty pos af g,X19 _ hid,hv,h.new hid hc hl hm ht hq⟩
theorem Xfw {P:Program} {e:TypeId} (hc:P.cellsOf e=1) (count off k:Nat) (hn:off+k≤count):liesAt P P.depth e count off e k=true:=by
 have hd:P.depth=(2*(P.types.size+Made.depth)+1)+1:=rfl
 rw [hd]
 simp only [liesAt,Y29]
 left
 rw [hd]
 simp [rowAt,hc,hn,sameLayout,Nat.mod_one]
theorem X35 {P:Program} {pt it ty e:TypeId} (hp:P.underlying pt=some (.pointer e)) (hc:P.cellsOf e=1) {g off cells:Nat} (hsh:w.shape? g=some (e,cells)) (l:List UInt8) (h0:l≠[]) (hn:off+l.length≤cells) (h63:l.length≤9223372036854775807)
  (hcell:∀ j x,l[j]?=some x→w.cell? ((⟨g,off,none⟩:Addr).add j)=some (.int .u8 x.toNat)) :
  (Builtin.unsafeString_ #[pt,it] ty #[.pointer (some ⟨g,off,none⟩),.int .i64 l.length]).run P w=.ok (.string ⟨l.toArray⟩) (w.freeze ⟨g,off,none⟩ l.length):=by
 have hl:l.length≠0:=by simpa using h0
 have hlb:=Go.Lib.run_loadBytes (P:=P) w l ⟨g,off,none⟩ .empty hcell
 have hlies:=Xfw (P:=P) hc (cells / P.cellsOf e) off l.length (by rw [hc]; simpa using hn)
 have h63':¬ (9223372036854775807:Int)<(l.length:Int):=by omega
 have hdef:Builtin.unsafeString_ #[pt,it] ty #[.pointer (some ⟨g,off,none⟩),.int .i64 l.length] =
   (do
    let n ← asInt (.int .i64 l.length)
    if n < 0 then runtimePanic (.error "unsafe.String: len out of range")
    if n > IntKind.i64.max then unsupported (.unsafePointer "String: a length above the largest int")
    if n=0 then pure (.string .empty)
    else if ← variablesAt ⟨g,off,none⟩ (← elemOf pt) n.toNat then do
     let s ← loadBytes ⟨g,off,none⟩ .empty n.toNat
     freeze ⟨g,off,none⟩ n.toNat
     pure (.string s)
    else unsupported (.unsafePointer "String: not so many bytes at ptr")) := rfl
 rw [hdef]
 have hmax:IntKind.i64.max=9223372036854775807:=rfl
 have hneg:¬ (l.length:Int)<0:=by omega
 simp [asInt,asIntOf,hmax,h63',hneg,hl,variablesAt,hsh,elemOf,run_underlying hp,hlies,hlb]
theorem WR.freeze {id ad ba cap E' z:Nat} {q:Bool} {cs:List AV} {m:Nat} (h:WR X B I ρ H F w) (hf:Xp H id=some (.row E' z q cs)) (hi:ρ id=some (ad,ba,cap)) (p:Addr) (hp:p.block=ad) (h0:0<m):WR X B I ρ (Xc6 H id) F (w.freeze p m):=by
 subst hp
 obtain ⟨j,hk,_,hd⟩:=X3p hf
 have hkl:j<H.length:=(Y0.1 hk).1
 have hj:(H.map (den ρ) ++ F)[j]?=some (den ρ (id,.row E' z q cs)):=by rw [Ya (by simpa using hkl),Yk,hk]; rfl
 have hS:Sat B w I (H.map (den ρ) ++ F):=h.h
 obtain ⟨⟨o,ho⟩,hS2⟩:=hS.opened (X:={ o:Obj // True }) (T:=fun o=>own p.block o.1) hj (by
  rintro g ⟨ad',ba',cap',vs,pre,rest,fr,e1,e2,e3,e4,e5,e6,e7,rfl⟩
  rw [hi] at e1; cases e1
  exact ⟨⟨_,trivial⟩,rfl⟩)
 have hjl2:=(Y0.1 hj).1
 have hb:=hS2.blockO (Yu hjl2)
 have hm:m≠0:=by omega
 obtain ⟨o',ho'⟩:∃ o',(w.freeze p m).heap[p.block]?=some o':=by
  rw [World.freeze,if_neg hm]
  simp [Y1s,hb]
 have h1:=(hS2.write (w':=w.freeze p m) (Yu hjl2) (by simp [World.freeze,hm]) (by simp [World.freeze,hm]) (by simp [World.freeze,hm]) ho' (fun c hc=>by
  have hne:¬ p.block=c:=fun e=>hc e.symm
  simp [World.freeze,hm,Y1s,hne]))
 rw [Y2o] at h1
 have h2:=h1.drop (k:=j) (Yu hjl2)
 rw [Y2g] at h2
 refine ⟨h.z,?_⟩
 unfold RH
 rw [hd,X2e]
 rw [Y2p (by simpa using hkl)] at h2
 exact h2
theorem Xh4:1≤maxLen:=by unfold maxLen; omega
theorem Xax (hX:X66 X) {a:Act} {t id:Nat} {x:Operand} {α:AV} {H':X3} (hd:Hd ρ n E a) (h:WR X B I ρ H F w) (ho:opM X E H id (.load t x)=some (α,H')):H'=H∧Pw X ρ n a w (.load t x) α:=by
 have hf:=hd.full
 simp only [opM] at ho
 split at ho
 ·rename_i b o ti hx hti
  obtain ⟨u,hu1,hu2⟩:=X4 hd h.z hx
  obtain ⟨ad,ba,cap,hρ,rfl⟩:=Xx hu1
  have hT:=Tr.all_get hX.ty hti
  split at ho
  ·rename_i cs hcs
   split at ho
   ·rename_i xs hxs
    split at ho
    ·rename_i γ hγ
     cases ho
     obtain ⟨ad2,ba2,cap2,vs,g1,g2,g3,g4⟩:=h.part hcs hxs
     rw [hρ] at g1; cases g1
     obtain ⟨g5,g6⟩:=X1j hγ g2
     have hld:=run_loadCells_list (P:=X.P) w ⟨ad,ba+o,none⟩ vs (fun j v hj=>by rw [Xo]; exact g4 j v hj)
     rw [g3] at hld
     refine ⟨rfl,_,g5,fun d ty pos af g b' hb'=>?_⟩
     cases hag:ti.agg with
     | true =>
      have:=hT.agg; rw [hag] at this
      simp [execOp,hu2 b' hb',Instr.loadAt,Instr.sureAddr,loadVar,this,hT.size,hld]
     | false =>
      have:=hT.agg; rw [hag] at this
      have hl:=g6 hag
      obtain ⟨v,rfl⟩:∃ v,vs=[v]:=by
       cases vs with
       | nil=>cases hl
       | cons v l=>cases l with
        | nil=>exact ⟨v,rfl⟩
        | cons _ _=>simp at hl
      have hc:=g4 0 v rfl
      rw [Yt] at hc
      simp [execOp,hu2 b' hb',Instr.loadAt,Instr.sureAddr,loadVar,this,load,Sem.run,hc]
    ·cases ho
   ·cases ho
  ·cases ho
 ·cases ho
theorem Xay (hX:X66 X) {a:Act} {t id:Nat} {x y:Operand} {ok:Bool} {α:AV} {H':X3} (hd:Hd ρ n E a) (h:WR X B I ρ H F w) (ho:opM X E H id (.lookup t x y ok)=some (α,H')):H'=H∧Pw X ρ n a w (.lookup t x y ok) α:=by
 have hf:=hd.full
 simp only [opM] at ho
 split at ho
 ·rename_i kt et b s hu hb hs
  obtain ⟨ub,b1,b2⟩:=X4 hd h.z hb
  obtain ⟨us,s1,s2⟩:=X4 hd h.z hs
  cases s1
  split at ho
  ·rename_i te kv hkt hte hfd
   have ht:=X2 hX.ty hu
   have hk:=X2 hX.ty hkt
   obtain ⟨ad,x0,us,g1,g2,g3⟩:=h.mapNow hfd
   rw [Xb,g1] at b1
   cases b1
   obtain ⟨z0,hz0,_⟩:=(Tr.all_get hX.ty hte).zero
   have hlk:=X5j (kv:=kv) s g2
   have l2:=fun d ty pos af g=>Ex.look2 (P:=X.P) (n:=n) (L:=Lf a) (w:=w) (d:=d) (ty:=ty) (pos:=pos) (af:=af) (g:=g) (key:=byt s) keyS g3 b2 s2 ht hk hz0
   have l1:=fun d ty pos af g=>Ex.look1 (P:=X.P) (n:=n) (L:=Lf a) (w:=w) (d:=d) (ty:=ty) (pos:=pos) (af:=af) (g:=g) (key:=byt s) keyS g3 b2 s2 ht hk hz0
   split at ho
   ·rename_i γ hγ
    cases ho
    rw [hγ] at hlk
    obtain ⟨v,hv1,hv2⟩:=hlk
    rw [hv1] at l1 l2
    cases ok with
    | true=>exact ⟨rfl,.tuple #[v,.bool true],by rw [cond_true,Xb,X5,hv2]; rfl,l2⟩
    | false=>exact ⟨rfl,_,hv2,l1⟩
   ·rename_i γ hγ hz
    cases ho
    rw [hγ] at hlk
    obtain ⟨z1,hz1,hz2⟩:=Xh2 (ρ:=ρ) (Tr.all_get hX.ty hte) hz
    have ez:z1=z0:=by have g:=hz1 default; rw [hz0 default] at g; injection g with g; exact g.symm
    subst ez
    rw [hlk] at l1 l2
    cases ok with
    | true=>exact ⟨rfl,.tuple #[z1,.bool false],by rw [cond_true,Xb,X5,hz2]; rfl,l2⟩
    | false=>exact ⟨rfl,_,hz2,l1⟩
   ·cases ho
  ·cases ho
 ·rename_i kt et b s hu hb hs
  obtain ⟨ub,b1,b2⟩:=X4 hd h.z hb
  obtain ⟨us,s1,s2⟩:=X4 hd h.z hs
  cases s1
  split at ho
  ·rename_i te kv hkt hte hfd
   have ht:=X2 hX.ty hu
   have hk:=X2 hX.ty hkt
   obtain ⟨ad,x0,us,g1,g2,g3⟩:=h.mapNowJ hfd
   rw [Xb,g1] at b1
   cases b1
   obtain ⟨z0,hz0,_⟩:=(Tr.all_get hX.ty hte).zero
   have hlk:=X5h (kv:=kv) s g2
   have l2:=fun d ty pos af g=>Ex.look2 (P:=X.P) (n:=n) (L:=Lf a) (w:=w) (d:=d) (ty:=ty) (pos:=pos) (af:=af) (g:=g) (key:=s) keyI g3 b2 s2 ht hk hz0
   have l1:=fun d ty pos af g=>Ex.look1 (P:=X.P) (n:=n) (L:=Lf a) (w:=w) (d:=d) (ty:=ty) (pos:=pos) (af:=af) (g:=g) (key:=s) keyI g3 b2 s2 ht hk hz0
   split at ho
   ·rename_i γ hγ
    cases ho
    rw [hγ] at hlk
    obtain ⟨v,hv1,hv2⟩:=hlk
    rw [hv1] at l1 l2
    cases ok with
    | true=>exact ⟨rfl,.tuple #[v,.bool true],by rw [cond_true,Xb,X5,hv2]; rfl,l2⟩
    | false=>exact ⟨rfl,_,hv2,l1⟩
   ·rename_i γ hγ hz
    cases ho
    rw [hγ] at hlk
    obtain ⟨z1,hz1,hz2⟩:=Xh2 (ρ:=ρ) (Tr.all_get hX.ty hte) hz
    have ez:z1=z0:=by have g:=hz1 default; rw [hz0 default] at g; injection g with g; exact g.symm
    subst ez
    rw [hlk] at l1 l2
    cases ok with
    | true=>exact ⟨rfl,.tuple #[z1,.bool false],by rw [cond_true,Xb,X5,hz2]; rfl,l2⟩
    | false=>exact ⟨rfl,_,hz2,l1⟩
   ·cases ho
  ·cases ho
 ·cases ho
theorem Xh5 (hX:X66 X) {a:Act} {op:Op} {id:Nat} {α:AV} {H':X3} (hd:Hd ρ n E a) (h:WR X B I ρ H F w) (hid:ρ id=none) (ho:opM X E H id op=some (α,H')):Ym X B I F ρ a w op id α H':=by
 have hf:=hd.full
 unfold opM at ho
 split at ho
 ·rename_i t x
  obtain ⟨rfl,v,h1,h2⟩:=Xax (id:=id) hX hd h (by simp only [opM]; exact ho)
  exact Ym.of hf h h1 h2
 ·rename_i e
  split at ho
  ·rename_i ti hti
   cases ho
   have hT:=Tr.all_get hX.ty hti
   obtain ⟨z,h1,h2,h3,h4⟩:=hT.zero
   refine Ym.new (vs:=z.cells.toList) (rest:=[]) (fr:=(0,0)) (cap:=1) (v:=ptr w.heap.size 0) hf h hid (h2 ρ) (by simp [h3]) Xh4 (Thaw.zero _) (fun _=>rfl) (by rw [Xb,X17]) fun d ty pos af g=>?_
   simp [execOp,Instr.alloc,h1,newVar,newRow,newObj,X1i]
  ·cases ho
 ·rename_i e x
  split at ho
  ·rename_i β hx
   split at ho
   ·rename_i xs hxs
    cases ho
    obtain ⟨u,hu1,hu2⟩:=X4 hd h.z hx
    have hc:=X39 hxs hu1
    refine Ym.new (vs:=u.cells.toList) (rest:=[]) (fr:=(0,0)) (cap:=1) (v:=ptr w.heap.size 0) hf h hid hc (by rw [Xg,X9 hc]; simp) Xh4 (Thaw.zero _) (fun _=>rfl) (by rw [Xb,X17]) fun d ty pos af g=>?_
    simp [execOp,hu2 a hf,Instr.box,newVar,newRow,newObj,X1i]
   ·cases ho
  ·cases ho
 ·rename_i t k ps
  split at ho
  ·rename_i e hu
   have ht:=X2 hX.ty hu
   split at ho
   ·rename_i te hte
    have hT:=Tr.all_get hX.ty hte
    split at ho
    ·rename_i αs hα
     cases hb0:(Nat.ble (k*te.size) 16777216 && Nat.ble k 16777216) with
     | false=>rw [hb0] at ho; cases ho
     | true =>
      rw [hb0,cond_true] at ho
      rw [Y5] at hb0
      have hb:=hb0.1
      have hk0:k≤maxLen:=X3q (by have:=Y1 hb0.2; omega)
      split at ho
      ·rename_i cs hcs
       cases hb2:Nat.beq (len cs) (k*te.size) with
       | false=>rw [hb2] at ho; cases ho
       | true =>
        rw [hb2] at ho; cases ho
        obtain ⟨z,h1,h2,h3,h4⟩:=hT.zero
        obtain ⟨us,hu1,hu2,hu3⟩:=X7j hd h.z hα
        have hlen:αs.length=(ps.toList.map (·.1)).length:=by rw [← X9 hu1,Yo,← hu2,Yo]
        have e1:((ps.toList.map (·.1)).zip αs).map (·.1)=ps.toList.map (·.1):=List.map_fst_zip (by omega)
        have e2:((ps.toList.map (·.1)).zip αs).map (·.2)=αs:=List.map_snd_zip (by omega)
        obtain ⟨ws,g1,g2⟩:=X3z (ρ:=ρ) (us:=us) hcs (X5w (h2 ρ) k) (by rw [e1,hu2]) (by rw [e2]; exact hu1)
        have hle:=Y1 hb
        have hcl:=Y4 hb2
        rw [Xg,← X9 g2] at hcl
        ·refine Ym.new (vs:=ws) (rest:=[]) (fr:=(0,0)) (cap:=k) (v:=.slice (some ⟨w.heap.size,0,none⟩) k k) hf h hid g2 (by simpa using hcl) hk0 (Thaw.zero _) (fun _=>rfl) (by rw [Xb,X17]; simp) fun d ty pos af g=>?_
         have hfl:=X2y g1
         rw [← Xeo z te.size h3] at hfl
         have hv:=hu3 a hf
         have h24':¬ (16777216<k*te.size):=by omega
         by_cases h0:k*te.size=0
         ·have hr:(Array.range (k*te.size)).map (z.cells[· % z.cells.size]!)=#[]:=by simp [h0]
          rw [hr] at hfl
          simp [execOp,Instr.buildSlice,run_underlying ht,hT.size,h0,newRow,newObj,X1i,Array.range_zero',hv,hfl]
         ·simp [execOp,Instr.buildSlice,run_underlying ht,hT.size,h24',h0,h1,newRow,newObj,X1i,hv,hfl]
      ·cases ho
    ·cases ho
   ·cases ho
  ·cases ho
 ·rename_i t x y
  split at ho
  ·rename_i e j k hu hj hk
   have ht:=X2 hX.ty hu
   obtain ⟨u1,a1,a2⟩:=X4 hd h.z hj
   obtain ⟨u2,a3,a4⟩:=X4 hd h.z hk
   cases a1; cases a3
   split at ho
   ·rename_i te hte
    have hT:=Tr.all_get hX.ty hte
    cases hb:(Nat.beq j k && Nat.ble (te.bytes*k) 281474976710656 && Nat.ble k 4611686018427387904) with
    | false=>rw [hb] at ho; cases ho
    | true =>
     rw [hb] at ho; cases ho
     simp only [Y5] at hb
     have e1:=Y4 hb.1.1
     have e2:=Y1 hb.1.2
     have e3:=Y1 hb.2
     subst e1
     obtain ⟨i,z',i1,i2,i3,i4,i5⟩:=hT.info
     obtain ⟨z,h1,h2,h3,h4⟩:=hT.zero
     have ez:z'=z:=by
      have g:=h1 default
      simp [zeroValue,typeInfo,i1,i4] at g
      exact g
     subst ez
     have hr:=run_make (P:=X.P) w t e i z' ht i1 i4 .i64 .i64 (Int.ofNat j) (Int.ofNat j) (Ys j) (Int.le_refl _) (by rw [i3]; exact Int.ofNat_le.2 e2) (by show (j:Int)≤_; omega)
     have hm:madeCells z'.cells ((Int.ofNat j).toNat*i.size)=((List.replicate j z'.cells.toList).flatten).toArray:=by
      show madeCells z'.cells (j*i.size)=_
      rw [i2]; exact Xeo z' te.size h3 j
     rw [hm] at hr
     have hlr:((List.replicate j z'.cells.toList).flatten).length=j*te.size:=by
      rw [List.length_flatten,List.map_replicate,List.sum_replicate_nat,Y1g,h3]
     refine Ym.new (vs:=(List.replicate j z'.cells.toList).flatten) (rest:=[]) (fr:=(0,0)) (cap:=j) (v:=.slice (some ⟨w.heap.size,0,none⟩) j j) hf h hid (X5w (h2 ρ) j) (by simpa using hlr) (X3q e3) (Thaw.zero _) (fun _=>rfl) (by rw [Xb,X17]; simp) fun d ty pos af g=>?_
     rw [Y1d]
     simp only [execOp,a2 a hf,a4 a hf,hr,Sem.run_bind,Result.andThen_ok,Sem.run_pure]
     rfl
   ·cases ho
  ·cases ho
 ·exact Xed hX hd h hid ho
 ·split at ho
  ·split at ho
   ·cases ho
    intro d ty pos af g
    refine ⟨.map (some w.heap.size),_,X7s ρ id (w.heap.size,0,0),?_,X19 _ hid,?_,h.newObj (o:=.map #[] 0) (i:=(0,0)) hid (fun σ hσ _=>⟨w.heap.size,(0,0),[],hσ,rfl,#[],0,rfl,rfl⟩)⟩
    ·simp [execOp,run_makeMap_plain]
    ·rw [Xb,X17]
   ·cases ho
    intro d ty pos af g
    refine ⟨.map (some w.heap.size),_,X7s ρ id (w.heap.size,0,0),?_,X19 _ hid,?_,h.newObj (o:=.map #[] 0) (i:=(0,0)) hid (fun σ hσ _=>⟨w.heap.size,(0,0),[],hσ,rfl,#[],0,rfl,rfl⟩)⟩
    ·simp [execOp,run_makeMap_plain]
    ·rw [Xb,X17]
   ·cases ho
  ·cases ho
 ·rename_i t x y ok
  obtain ⟨rfl,v,h1,h2⟩:=Xay (id:=id) hX hd h (by simp only [opM]; exact ho)
  exact Ym.of hf h h1 h2
 ·rename_i t x
  split at ho
  ·rename_i kt et hu hx
   cases ho
   obtain ⟨u1,a1,a2⟩:=X4 hd h.z hx
   cases a1
   have ht:=X2 hX.ty hu
   intro d ty pos af g
   refine ⟨ptr w.heap.size 0,_,X7s ρ id (w.heap.size,0,0),?_,X19 _ hid,?_,h.newObj (o:=.mapIter none 0 #[] 0) (i:=(0,0)) hid (fun σ hσ _=>⟨w.heap.size,hσ,rfl⟩)⟩
   ·simp [execOp,a2 a hf,Instr.range,run_underlying ht,newObj,X1i]
   ·rw [Xb,X17]
  ·cases ho
 ·rename_i x
  split at ho
  ·rename_i b hx
   obtain ⟨u1,a1,a2⟩:=X4 hd h.z hx
   obtain ⟨ad,ba,cap,hρ,rfl⟩:=Xx a1
   split at ho
   ·rename_i hfd
    cases ho
    obtain ⟨j,hj,_,_⟩:=Xdk (ρ:=ρ) (F:=F) hfd
    have hS:Sat B w I (H.map (den ρ) ++ F):=h.h
    obtain ⟨⟨ad',e1⟩,hS2⟩:=hS.opened (X:={ p:Nat // ρ b=some (p,0,0) }) (T:=fun p=>own p.1 (.mapIter none 0 #[] 0)) hj (by
     rintro g ⟨ad,e1,e2⟩
     exact ⟨⟨ad,e1⟩,e2⟩)
    have hjl:=(Y0.1 hj).1
    have hb:=hS2.blockO (Yu hjl)
    simp only at e1 hb
    rw [hρ] at e1
    simp only [Option.some.injEq,Prod.mk.injEq] at e1
    obtain ⟨rfl,rfl,rfl⟩:=e1
    refine Ym.of hf h (v:=.tuple #[.bool false]) (by rw [Xb,X5]; rfl) fun d ty pos af g b' hb'=>?_
    simp [execOp,a2 b' hb',Instr.next,Sem.run_bind,getObj,Sem.run,hb]
   ·cases ho
  ·cases ho
 ·rename_i src dst x
  split at ho
  ·rename_i b o m z e hx hs hdt
   obtain ⟨u1,a1,a2⟩:=X4 hd h.z hx
   obtain ⟨ad,ba,cap,hρ,rfl⟩:=X2v a1
   split at ho
   ·rename_i cs hu8 hcs
    split at ho
    ·rename_i xs hxs
     split at ho
     ·rename_i l hl
      cases hb:Nat.beq z 1 with
      | false=>rw [hb] at ho; cases ho
      | true =>
       rw [hb] at ho; cases ho
       have e1:=Y4 hb
       subst e1
       obtain ⟨ad2,ba2,cap2,vs,g1,g2,g3,g4⟩:=h.part hcs hxs
       rw [hρ] at g1; cases g1
       have hvb:=X3l hl g2
       have hlen:(byt l).length=m:=by rw [hvb,bcs,Yo] at g3; omega
       refine Ym.of hf h rfl fun d ty pos af g b' hb'=>?_
       have hr:=run_convert_bytes_back (P:=X.P) w src dst e ⟨ad,ba+o*1,none⟩ (cap - o) (byt l) (X2 hX.ty hs) (X2 hX.ty hu8) (X2 hX.ty hdt) (fun j hj=>by
        rw [Xo]; exact g4 j _ (by rw [hvb]; simp [hj]))
       rw [hlen] at hr
       simp only [execOp,a2 b' hb',hr,Sem.run_bind,Result.andThen_ok,Sem.run_pure]
     ·cases ho
    ·cases ho
   ·cases ho
  ·rename_i b o m k e hx hs hdt
   obtain ⟨u1,a1,a2⟩:=X4 hd h.z hx
   obtain ⟨ad,ba,cap,hρ,rfl⟩:=X36 a1
   split at ho
   ·rename_i cs hu8 hcs
    split at ho
    ·rename_i xs hxs
     split at ho
     ·rename_i l hl
      cases ho
      obtain ⟨ad2,ba2,cap2,vs,g1,g2,g3,g4⟩:=h.part hcs hxs
      rw [hρ] at g1; cases g1
      have hvb:=X3l hl g2
      have hlen:(byt l).length=m:=by rw [hvb,bcs,Yo] at g3; omega
      refine Ym.of hf h rfl fun d ty pos af g b' hb'=>?_
      have hr:=run_convert_bytes_back (P:=X.P) w src dst e ⟨ad,ba+o,none⟩ k (byt l) (X2 hX.ty hs) (X2 hX.ty hu8) (X2 hX.ty hdt) (fun j hj=>by
       rw [Xo]; exact g4 j _ (by rw [hvb]; simp [hj]))
      rw [hlen] at hr
      simp only [execOp,a2 b' hb',hr,Sem.run_bind,Result.andThen_ok,Sem.run_pure]
     ·cases ho
    ·cases ho
   ·cases ho
  ·rename_i l e hx hs hdt
   obtain ⟨u1,a1,a2⟩:=X4 hd h.z hx
   cases a1
   split at ho
   ·rename_i te hu8 hte
    cases hb:(Nat.beq te.size 1 && Nat.ble (len l) 4611686018427387904) with
    | false=>rw [hb] at ho; cases ho
    | true =>
     rw [hb] at ho; cases ho
     rw [Y5] at hb
     have hle:=Y1 hb.2
     have hlen:(byt l).length=len l:=by rw [Xg,byt,Yo]
     have hr:=run_bytes_of_string (P:=X.P) w src dst e ⟨(byt l).toArray⟩ (X2 hX.ty hs) (X2 hX.ty hdt) (X2 hX.ty hu8)
     have hz:ByteArray.size ⟨(byt l).toArray⟩=len l:=hlen
     have hge:=grownCap_ge w (len l) 0 e
     have hrow:bytesRow ⟨(byt l).toArray⟩ (grownCap w (len l) 0 e)=(bcs (byt l) ++ List.replicate (grownCap w (len l) 0 e - len l) (Value.int .u8 0)).toArray:=by
      simp [bytesRow,bcs,U8]
      rw [hz]
     rw [hz,hrow] at hr
     refine Ym.new (w0:=w.drew) (vs:=bcs (byt l)) (rest:=List.replicate (grownCap w (len l) 0 e - len l) (Value.int .u8 0)) (fr:=((bcs (byt l) ++ List.replicate (grownCap w (len l) 0 e - len l) (Value.int .u8 0)).toArray.size,(bcs (byt l) ++ List.replicate (grownCap w (len l) 0 e - len l) (Value.int .u8 0)).toArray.size+1)) (cap:=grownCap w (len l) 0 e) (v:=.slice (some ⟨w.heap.size,0,none⟩) (len l) (grownCap w (len l) 0 e)) hf h.drew hid (X75 ρ l) (by rw [bcs,Yo,List.length_replicate,hlen]; omega) (grownCap_le_maxLen w (len l) 0 e (X3q hle)) (fun o ho=>?_) (fun h=>by cases h) (by rw [Xb,X17]; simp) fun d ty pos af g=>by
      simp only [execOp,a2 a hf,hr,Sem.run_bind,Result.andThen_ok,Sem.run_pure]
     have h9:o<(bcs (byt l) ++ List.replicate (grownCap w (len l) 0 e - len l) (Value.int .u8 0)).toArray.size:=by rw [Y1w,Y2]; exact ho
     rw [Bool.and_eq_false_iff]
     exact .inl (decide_eq_false (by omega))
   ·cases ho
  ·rename_i b o t hx hs hdt
   obtain ⟨u1,a1,a2⟩:=X4 hd h.z hx
   obtain ⟨ad,ba,cap,hρ,rfl⟩:=Xx a1
   split at ho
   ·rename_i tt E' z q cs htt hfd
    cases hb:(Nat.blt 0 tt.size && Nat.blt o (len cs)) with
    | false=>rw [hb] at ho; cases ho
    | true =>
     rw [hb] at ho; cases ho
     rw [Y5] at hb
     have h1:0<tt.size:=Y1 hb.1
     have h2:o<len cs:=Y1 hb.2
     obtain ⟨i,z',i1,i2,_⟩:=(Tr.all_get hX.ty htt).info
     obtain ⟨ad2,ba2,cap2,ws,g1,g2,g3,g4,g5,g6,_,⟨m,g8,g9⟩,g7⟩:=h.h.row hfd
     rw [hρ] at g1; cases g1
     rw [Xg,← X9 g2] at h2
     have hr:=Go.Lib.run_to_unsafe (P:=X.P) w ⟨ad,ba+o,none⟩ (X2 hX.ty hs) (X2 hX.ty hdt) i1 (by omega) g8 (by show ba+o<m; omega)
     exact Ym.of hf h a1 fun d ty pos af g b' hb'=>by simp [execOp,a2 b' hb',hr]
   ·cases ho
  ·rename_i b u hx hs hdt
   obtain ⟨u1,a1,a2⟩:=X4 hd h.z hx
   obtain ⟨ad,ba,cap,hρ,rfl⟩:=Xx a1
   split at ho
   ·rename_i tt E' z cs htt hfd
    cases hb:mem3 X.ls E' (len cs) u with
    | false=>rw [hb] at ho; cases ho
    | true =>
     rw [hb] at ho; cases ho
     have hls:=hX.ls _ (Xdq hb)
     obtain ⟨i,z',i1,i2,_⟩:=(Tr.all_get hX.ty htt).info
     obtain ⟨ad2,ba2,cap2,ws,g1,g2,g3,g4,g5,g6,gw,_,g7⟩:=h.h.row hfd
     rw [hρ] at g1; cases g1
     obtain ⟨rfl,g8⟩:=gw rfl
     rw [Xg,← X9 g2] at hls
     have hr:=Go.Lib.run_from_unsafe (P:=X.P) w ⟨ad,0+0,none⟩ (X2 hX.ty hs) (X2 hX.ty hdt) i1 g8 hls
     exact Ym.of hf h a1 fun d ty pos af g b' hb'=>by simp only [execOp,a2 b' hb',hr,Sem.run_bind,Result.andThen_ok,Sem.run_pure]
   ·cases ho
  ·cases ho
 ·rename_i x y t u
  split at ho
  ·rename_i β γ hx hy
   obtain ⟨u1,a1,a2⟩:=X4 hd h.z hx
   obtain ⟨u2,a3,a4⟩:=X4 hd h.z hy
   intro d ty pos af g
   obtain ⟨v,w',σ,q1,q2,q3,q4⟩:=Xhr (ty:=ty) hX h hid a1 a3 ho
   exact ⟨v,w',σ,by simp [execOp,resolve,invoke,builtin,a2 a hf,a4 a hf,q1],q2,q3,q4⟩
  ·cases ho
 ·rename_i x y t t2
  split at ho
  ·rename_i e b o m k β hu hx hy
   obtain ⟨u1,a1,a2⟩:=X4 hd h.z hx
   obtain ⟨u2,a3,a4⟩:=X4 hd h.z hy
   obtain ⟨ad,ba,cap,hρ,rfl⟩:=X36 a1
   have ht:=X2 hX.ty hu
   split at ho
   ·rename_i te E' z q cs hte hfd
    have hT:=Tr.all_get hX.ty hte
    split at ho
    ·rename_i xs j hs
     cases hb:(Nat.ble j m && Nat.ble (o+j*te.size) (len cs) && X2o xs) with
     | false=>rw [hb] at ho; cases ho
     | true =>
      rw [hb] at ho; cases ho
      simp only [Y5] at hb
      have h1:=Y1 hb.1.1
      have h2:=Y1 hb.1.2
      obtain ⟨vs,s1,s2,s3,s4,_⟩:=Xef (P:=X.P) h hs a3
      have hone:=X2s hb.2 s1
      obtain ⟨ad2,ba2,cap2,ws,g1,g2,g3,g4,g5,g6,_,_,g7⟩:=h.h.row hfd
      rw [hρ] at g1; cases g1
      have hwl:=X9 g2
      rw [Xg,← hwl] at h2
      have hsl:=X9 s1
      intro d ty pos af g
      refine ⟨I64 (j:Nat),w.setCells ad (ba+o) vs,ρ,?_,Ext.refl _ _ _,rfl,h.z,g7 o _ vs (by omega) (by rw [s2]; omega) (by
       have:=Xd (Xd (X1c o g2) s1) (X14 (o+len xs) g2)
       rw [Xg,← hsl] at this
       rw [Xg,← hsl]; exact this)⟩
      have hst:=run_storeCells_cells (P:=X.P) ad (ba+o) vs 0 w (fun j hj=>by rw [Yt,Y10]; exact (g6 _ (by omega)).1) (fun j hj=>by rw [Yt,Y10]; exact (g6 _ (by omega)).2) hone
      rw [Yt] at hst
      have hmin:Nat.min j m=j:=Y2e h1
      simp [execOp,resolve,invoke,builtin,a2 a hf,a4 a hf,Builtin.copy_,run_underlying ht,s3,hT.size,hmin,s4 w rfl,hst,goInt]
    ·cases ho
   ·cases ho
  ·cases ho
 ·rename_i x ts
  split at ho
  ·rename_i m c hx
   obtain ⟨u1,a1,a2⟩:=X4 hd h.z hx
   cases a1; cases ho
   exact Ym.of hf h rfl fun d ty pos af g=>.sliceDataNil a2
  ·rename_i b o m z hx
   obtain ⟨u1,a1,a2⟩:=X4 hd h.z hx
   obtain ⟨ad,ba,cap,hρ,rfl⟩:=X2v a1
   split at ho
   ·rename_i E' z' q cs hfd
    cases hb:(Nat.beq z' z && Nat.blt 0 z && Nat.blt 0 m && Nat.ble ((o+m)*z) (len cs)) with
    | false=>rw [hb] at ho; cases ho
    | true =>
     rw [hb] at ho; cases ho
     simp only [Y5] at hb
     have e1:=Y4 hb.1.1.1
     have h1:0<z:=Y1 hb.1.1.2
     have h2:0<m:=Y1 hb.1.2
     have h3:=Y1 hb.2
     subst e1
     obtain ⟨ad2,ba2,cap2,ws,g1,g2,g3,_⟩:=h.h.row hfd
     rw [hρ] at g1; cases g1
     rw [Xg,← X9 g2] at h3
     have:=Y1y (Y1z h3 g3) h1
     exact Ym.of hf h (v:=ptr ad (ba+o*z')) (by rw [Xb,hρ]) fun d ty pos af g=>.sliceData a2 (by omega)
   ·cases ho
  ·cases ho
 ·rename_i x y pt it
  split at ho
  ·rename_i hx hy
   cases ho
   obtain ⟨u1,a1,a2⟩:=X4 hd h.z hx
   obtain ⟨u2,a3,a4⟩:=X4 hd h.z hy
   cases a1; cases a3
   exact Ym.of hf h (v:=S []) rfl fun d ty pos af g=>.unsafeStringNone a2 a4
  ·rename_i b j e hx hy hu
   obtain ⟨u1,a1,a2⟩:=X4 hd h.z hx
   obtain ⟨u2,a3,a4⟩:=X4 hd h.z hy
   obtain ⟨ad,ba,cap,hρ,rfl⟩:=Xx a1
   cases a3
   split at ho
   ·rename_i E' z q cs hfd
    split at ho
    ·rename_i xs hxs
     split at ho
     ·rename_i l hl
      cases hb:(Nat.beq E' e && mem1 X.c1 e && Nat.blt 0 j && Nat.ble j 9223372036854775807) with
      | false=>rw [hb] at ho; cases ho
      | true =>
       rw [hb] at ho; cases ho
       simp only [Y5] at hb
       have e1:=Y4 hb.1.1.1
       subst e1
       have hc1:=hX.c1 _ (Xdp hb.1.1.2)
       have hj:0<j:=Y1 hb.1.2
       have hj2:=Y1 hb.2
       have hcs:X1d X H b=some cs:=by unfold X1d; rw [hfd]
       obtain ⟨ad2,ba2,cap2,vs,p1,p2,p3,p4⟩:=h.part hcs hxs
       rw [hρ] at p1; cases p1
       have hvb:=X3l hl p2
       have hlen:(byt l).length=j:=by rw [hvb,bcs,Yo] at p3; omega
       obtain ⟨ad3,ba3,cap3,ws,r1,r2,r3,r4,r5,r6,_,⟨m,r7,r8⟩,_⟩:=h.h.row hfd
       rw [hρ] at r1; cases r1
       have hsub:=(X7q hxs r2).2
       have hu':=X2 hX.ty hu
       have hr:=fun ty=>X35 (w:=w) (P:=X.P) (it:=it) (ty:=ty) hu' hc1 r7 (off:=ba+0) (byt l) (fun e=>by rw [e] at hlen; simp at hlen; omega) (by omega) (by omega) (fun k y hk=>by
        rw [Xo]; exact p4 k _ (by rw [hvb]; simp [hk]))
       intro d ty pos af g
       refine ⟨S (byt l),_,ρ,?_,Ext.refl _ _ _,rfl,h.freeze hfd hρ ⟨ad,ba+0,none⟩ rfl (m:=(byt l).length) (by omega)⟩
       have hr2:=hr ty
       rw [hlen] at hr2 ⊢
       simp only [execOp,resolve,invoke,builtin,List.map_toArray,Yl,Y3a,a2 a hf,a4 a hf,Sem.run_bind,Sem.run_pure,Result.andThen_ok]
       rw [show Value.int IntKind.i64 (Int.ofNat j)=.int .i64 (j:Int) from rfl,hr2]
       rfl
     ·cases ho
    ·cases ho
   ·cases ho
  ·cases ho
 ·rename_i f xs ts
  split at ho
  ·rename_i g αs hg hα
   split at ho
   ·rename_i γ hγ
    cases ho
    obtain ⟨vs,s1,s2⟩:=X7y hd h.z hα
    obtain ⟨fn,e,q1,q2,q3,q4,q5,q6⟩:=Tr.all_get hX.ex hg
    obtain ⟨v,hv1,hv2⟩:=q6 _ _ _ _ w hγ s1
    exact Ym.of hf h hv1 fun d ty pos af g=>Ex.extern (xs:=arrL xs) q1 q2 q3 q4 q5 s2 hv2
   ·cases ho
  ·cases ho
 ·cases ho
end
end Sx
namespace Sx
open Go Gk
abbrev Xj:=Nat→List AV→X3→Nat→Option (AV×X3×Nat)
def COK (X:Cx) (B:World) (I:Im) (cf:Xj):Prop:=∀ f args H nx r H' nx',cf f args H nx=some (r,H',nx')→nx≤nx'∧(∃ fn,X.P.funcs[f]?=some fn∧X13 fn=true) ∧
 ∀ ρ F w vs,Fresh ρ nx nx'→WR X B I ρ H F w→X5 ρ args=some vs→Calls X.P f vs.toArray w (Ret fun v w'=>∃ σ,Ext ρ σ nx nx'∧Xb σ r=some v∧WR X B I σ H' F w')
def X97 (X:Cx) (cf:Xj) (E:List AV) (H:X3) (nx:Nat):Op→Option (AV×X3×Nat)
 | .call ⟨.value c,xs,_⟩=>match av X E c,avs X E (arrL xs) with
  | some (.f f fst cap),some αs=>cf f (fst ++ (αs ++ cap)) H nx
  | _,_=>none
 | _=>none
def step (X:Cx) (cf:Xj) (E:List AV) (H:X3) (nx:Nat) (op:Op):Option (AV×X3×Nat) :=
 match opP X E op with
 | some α=>some (α,H,nx)
 | none=>match opM X E H nx op with
  | some (α,H')=>some (α,H',Nat.succ nx)
  | none=>match opS X E H op with
   | some H'=>some (.v undef,H',nx)
   | none=>X97 X cf E H nx op
section
variable {X:Cx} {B w:World} {I:Im} {ρ:Ren} {n:Nat} {E:List AV} {H:X3} {F:List Xe} {cf:Xj}
theorem Xf8 (hcf:COK X B I cf) {op:Op} {nx nx':Nat} {α:AV} {H':X3} (ho:X97 X cf E H nx op=some (α,H',nx')):nx≤nx' ∧
  ∀ (ρ:Ren) (a:Act) (w:World) (F:List Xe),Fresh ρ nx nx'→Hd ρ n E a→WR X B I ρ H F w→∀ d ty pos af g,∃ f args w',(execOp a.eval ⟨d,op,ty,pos,af,g⟩).run X.P w=.ok (.enter f args) w' ∧
   Calls X.P f args w' (Ret fun v w''=>∃ σ,Ext ρ σ nx nx'∧Xb σ α=some v∧WR X B I σ H' F w''):=by
 unfold X97 at ho
 split at ho
 ·rename_i c xs ts
  split at ho
  ·rename_i f fst cap αs hc hα
   obtain ⟨h1,⟨fn,hfn,hcl⟩,h2⟩:=hcf _ _ _ _ _ _ _ ho
   refine ⟨h1,fun ρ a w F hF hd hW d ty pos af g=>?_⟩
   have hf:=hd.full
   obtain ⟨u,u1,u2⟩:=X4 hd hW.z hc
   obtain ⟨bs,cs,c1,c2,rfl⟩:=X86 u1
   obtain ⟨vs,v1,v2⟩:=X7y hd hW.z hα
   have h3:=h2 ρ F w (bs ++ (vs ++ cs)) hF hW (Xd c1 (Xd v1 c2))
   refine ⟨f,_,w,?_,h3⟩
   unfold X13 at hcl
   simp only [Y5] at hcl
   obtain ⟨q1,q2⟩:=hcl
   have q1' : ¬ fn.name = "runtime.NumGoroutine" := by simpa using q1
   have q2':¬ fn.body=none:=by intro e; rw [e] at q2; cases q2
   have hxa:=v2 a hf
   have hmap:xs.map a.eval=vs.toArray:=by
    apply Array.ext'; rw [Y3m]; exact hxa
   simp [execOp,resolve,u2 a hf,Deferred.ofValue,invoke,callFunc,program,Sem.run,hfn,q1',q2',hmap]
  ·cases ho
 ·cases ho
theorem step_ok (hX:X66 X) (hcf:COK X B I cf) {op:Op} {nx nx':Nat} {α:AV} {H':X3} (ho:step X cf E H nx op=some (α,H',nx')):nx≤nx' ∧
  ∀ (ρ:Ren) (a:Act) (w:World) (F:List Xe),Fresh ρ nx nx'→Hd ρ n E a→WR X B I ρ H F w→∀ d ty pos af g (K:Act→World→Prop) (Q:Exit→Act→World→Prop),
   (∀ σ v w',Ext ρ σ nx nx'→Xb σ α=some v→WR X B I σ H' F w'→K (a.put d v) w')→(⟨d,op,ty,pos,af,g⟩:Oper).wp X.P a w K Q:=by
 unfold step at ho
 split at ho
 ·rename_i β hp
  cases ho
  refine ⟨Yd _,fun ρ a w F hF hd hW d ty pos af g K Q hK=>?_⟩
  obtain ⟨v,h1,h2⟩:=Xh6 hX.ty hd hW.z hp
  unfold Oper.wp
  rw [h2 w d ty pos af g a hd.full]
  exact hK ρ v w (Ext.refl _ _ _) h1 hW
 ·split at ho
  ·rename_i β H'' hm
   cases ho
   refine ⟨Y3v _,fun ρ a w F hF hd hW d ty pos af g K Q hK=>?_⟩
   obtain ⟨v,w',σ,h1,h2,h3,h4⟩:=Xh5 hX hd hW (hF nx (Yd _) (Nat.lt_succ_self _)) hm d ty pos af g
   unfold Oper.wp
   rw [h1]
   exact hK σ v w' h2 h3 h4
  ·split at ho
   ·rename_i H'' hs
    cases ho
    refine ⟨Yd _,fun ρ a w F hF hd hW d ty pos af g K Q hK=>?_⟩
    obtain ⟨w',h1,h2⟩:=opS_ok hX hd hW hs d ty pos af g
    unfold Oper.wp
    rw [h1]
    exact hK ρ undef w' (Ext.refl _ _ _) rfl h2
   ·obtain ⟨h1,h2⟩:=Xf8 (n:=n) hcf ho
    refine ⟨h1,fun ρ a w F hF hd hW d ty pos af g K Q hK=>?_⟩
    obtain ⟨f,args,w',h3,h4⟩:=h2 ρ a w F hF hd hW d ty pos af g
    unfold Oper.wp
    rw [h3]
    refine h4.mono fun e w'' he=>?_
    obtain ⟨v,rfl,σ,g1,g2,g3⟩:=he
    exact hK σ v w'' g1 g2 g3
def putE (E:List AV):Option Nat→AV→List AV
 | some d,α=>upd E d α
 | none,_=>E
theorem Hd.putE {a:Act} {d:Option Nat} {α:AV} {v:Value} (h:Hd ρ n E a) (hc:Xb ρ α=some v):Hd ρ n (putE E d α) (a.put d v):=by
 cases d with
 | none=>exact h
 | some d=>rw [Sx.putE,X2l]; exact h.put (.inr hc)
def met (ops:List Oper) (E:List AV):Option (Nat×Bool)→Option Bool
 | none=>some true
 | some (j,want)=>match nth ops j with
  | some o=>match o.dst with
   | some t=>match nth E t with
    | some (.v (.bool b))=>some (bif b then want else bif want then false else true)
    | some (.v (.tuple _))=>some false
    | _=>none
   | none=>none
  | none=>none
theorem X5p {ops:List Oper} {a:Act} {o:Oper} {b:Bool} (h:Hd ρ n E a) (hm:met ops E o.guard=some b):Region.wanted o (yielded ops.toArray a.tmps)=b:=by
 unfold met at hm
 unfold Region.wanted
 split at hm
 ·rename_i hg; rw [hg]; cases hm; rfl
 ·rename_i j want hg
  rw [hg]
  simp only
  split at hm
  ·rename_i o' ho
   rw [X12] at ho
   split at hm
   ·rename_i t ht
    have hy:∀ x v,E[t]?=some x→x≠.u→Xb ρ x=some v→yielded ops.toArray a.tmps j=match v with | .bool b=>some b | _=>none:=fun x v hx hne hc=>by
     have h1:=(h.get t x hx).resolve_left hne
     rw [hc] at h1
     have hlt:t<a.tmps.size:=by rw [h.size,← h.len]; exact (Y0.1 hx).1
     have h2:a.tmps[t]?=some v:=by
      rw [Y9,Yj hlt] at h1
      rw [Yj hlt]; exact h1.symm
     simp only [yielded,Y2a,ho,ht,Y24,h2]
     cases v <;> rfl
    split at hm
    ·rename_i c hx
     rw [X12] at hx
     rw [hy _ _ hx (by simp) rfl]
     cases hm
     cases c <;> cases want <;> rfl
    ·rename_i c hx
     rw [X12] at hx
     rw [hy _ _ hx (by simp) rfl]
     cases hm
     rfl
    ·cases hm
   ·cases hm
  ·cases hm
def Xh8 (X:Cx) (cf:Xj) (ops:List Oper):List Oper→List AV→X3→Nat→Option (List AV×X3×Nat)
 | [],E,H,nx=>some (E,H,nx)
 | o::l,E,H,nx=>match met ops E o.guard with
  | some true=>match step X cf E H nx o.op with
   | some (α,H',nx')=>Xh8 X cf ops l (putE E o.dst α) H' nx'
   | none=>none
  | some false=>Xh8 X cf ops l (putE E o.dst (.v undef)) H nx
  | none=>none
theorem X9v (hX:X66 X) (hcf:COK X B I cf) {ops:List Oper}:∀ (l:List Oper) {E:List AV} {H:X3} {nx:Nat} {E':List AV} {H':X3} {nx':Nat},Xh8 X cf ops l E H nx=some (E',H',nx')→nx≤nx' ∧
  ∀ (ρ:Ren) (a:Act) (w:World) (F:List Xe) (Q:Exit→Act→World→Prop),Fresh ρ nx nx'→Hd ρ n E a→WR X B I ρ H F w→(∀ σ a' w',Ext ρ σ nx nx'→Hd σ n E' a'→WR X B I σ H' F w'→Q .normal a' w')→wpList X.P ops.toArray Q l a w
 | [],E,H,nx,E',H',nx',h=>by
  cases h
  exact ⟨Yd _,fun ρ a w F Q _ hd hW hQ=>wpList_nil (hQ ρ a w (Ext.refl _ _ _) hd hW)⟩
 | o::l,E,H,nx,E',H',nx',h=>by
  obtain ⟨d,op,ty,pos,af,g⟩:=o
  unfold Xh8 at h
  split at h
  ·rename_i hm
   split at h
   ·rename_i α H1 nx1 hs
    obtain ⟨h1,h2⟩:=step_ok (n:=n) hX hcf hs
    obtain ⟨h3,h4⟩:=X9v hX hcf l h
    refine ⟨Y1z h1 h3,fun ρ a w F Q hF hd hW hQ=>wpList_step fun K' hK=>?_⟩
    rw [if_pos (X5p (o:=⟨d,op,ty,pos,af,g⟩) hd hm)]
    refine h2 ρ a w F (hF.sub (Yd _) h3) hd hW d ty pos af g K' Q fun σ v w' e1 e2 e3=>hK _ _ ?_
    exact h4 σ _ w' F Q ((hF.sub h1 (Yd _)).ext e1) ((hd.mono e1.1).putE e2) e3 fun τ a' w'' f1 f2 f3=>hQ τ a' w'' (e1.trans f1 h1 h3) f2 f3
   ·cases h
  ·rename_i hm
   obtain ⟨h3,h4⟩:=X9v hX hcf l h
   refine ⟨h3,fun ρ a w F Q hF hd hW hQ=>wpList_step fun K' hK=>?_⟩
   rw [if_neg (by rw [X5p (o:=⟨d,op,ty,pos,af,g⟩) hd hm]; simp)]
   exact hK _ _ (h4 ρ _ w F Q hF (hd.putE rfl) hW hQ)
  ·cases h
end
def X7e (ms:List Nat):List Edge→Nat→Nat
 | [],s=>s
 | e::l,s=>bif Region.binds .any e then X7e ms l (Nat.lor (Nat.lor s (Nat.pow 2 e.on)) (match nth ms e.on with | some m=>m | none=>0)) else X7e ms l s
def Xc:List Oper→List Nat→List Nat
 | [],ms=>ms
 | o::l,ms=>Xc l (ms ++ [X7e ms o.after.toList 0])
def mk (ms:List Nat) (i:Nat):Nat:=match nth ms i with
 | some m=>m
 | none=>0
theorem X5k {ms:List Nat} {j:Nat}:∀ {l:List Edge} {s:Nat},(X7e ms l s).testBit j=true→s.testBit j=true∨∃ e∈l,Region.binds .any e=true∧(e.on=j∨∃ m,ms[e.on]?=some m∧m.testBit j=true)
 | [],s,h=>.inl h
 | e::l,s,h=>by
  unfold X7e at h
  cases hb:Region.binds .any e with
  | false =>
   rw [hb,cond_false] at h
   rcases X5k h with h | ⟨e',h1,h2⟩
   ·exact .inl h
   ·exact .inr ⟨e',Y16 _ h1,h2⟩
  | true =>
   rw [hb,cond_true] at h
   rcases X5k h with h | ⟨e',h1,h2⟩
   ·have h':((s ||| 2 ^ e.on) ||| (match nth ms e.on with | some m=>m | none=>0)).testBit j=true:=h
    rw [Nat.testBit_or,Nat.testBit_or,Y29,Y29] at h'
    rcases h' with (h' | h') | h'
    ·exact .inl h'
    ·rw [Nat.testBit_two_pow] at h'
     exact .inr ⟨e,Y1o,hb,.inl (by simpa using h')⟩
    ·split at h'
     ·rename_i m hm
      rw [X12] at hm
      exact .inr ⟨e,Y1o,hb,.inr ⟨m,hm,h'⟩⟩
     ·simp at h'
   ·exact .inr ⟨e',Y16 _ h1,h2⟩
theorem X5o:∀ (l:List Oper) (ms:List Nat) {i:Nat},i<ms.length→(Xc l ms)[i]?=ms[i]?
 | [],ms,i,h=>rfl
 | o::l,ms,i,h=>by rw [Xc,X5o l _ (by simp; omega),Ya h]
theorem Xb0:∀ (l:List Oper) (ms:List Nat) {i:Nat} {o:Oper},l[i]?=some o→(Xc l ms)[ms.length+i]?=some (X7e ((Xc l ms).take (ms.length+i)) o.after.toList 0)
 | [],ms,i,o,h=>by simp at h
 | o'::l,ms,0,o,h=>by
  simp at h
  subst h
  have h1:ms.length<(ms ++ [X7e ms o'.after.toList 0]).length:=by simp
  have ht:(Xc l (ms ++ [X7e ms o'.after.toList 0])).take ms.length=ms:=by
   apply Y17
   intro k
   rw [Y12]
   split
   ·rename_i hk
    rw [X5o l _ (by simp; omega),Ya hk]
   ·rename_i hk
    rw [Y15 (by omega)]
  rw [Xc,Yt,ht,X5o l _ h1]
  simp
 | o'::l,ms,i+1,o,h=>by
  have:=Xb0 l (ms ++ [X7e ms o'.after.toList 0]) (i:=i) (o:=o) (by simpa using h)
  rw [Xc]
  simpa [Y10,Y3c 1] using this
theorem X8k {ops:List Oper} {L:Nat→Prop} (hlt:∀ i o,ops[i]?=some o→∀ e∈o.after.toList,Region.binds .any e=true→e.on<i)
  (hL:∀ i o,ops[i]?=some o→L i→∀ e∈o.after.toList,Region.binds .any e=true→L e.on):∀ (i:Nat) (o:Oper),ops[i]?=some o→(∀ e∈o.after.toList,Region.binds .any e=true→L e.on)→∀ j,(mk (Xc ops []) i).testBit j=true→L j∧j<i:=by
 intro i
 induction i using Nat.strongRecOn with
 | _ i ih =>
  intro o ho hd j hj
  have h1:=Xb0 ops [] ho
  simp only [Ye,Yq] at h1
  unfold mk at hj
  rw [X12,h1] at hj
  rcases X5k hj with h | ⟨e,he,hb,h⟩
  ·simp at h
  ·have hei:=hlt i o ho e he hb
   have hLe:=hd e he hb
   rcases h with rfl | ⟨m,hm,hmj⟩
   ·exact ⟨hLe,hei⟩
   ·rw [Y12] at hm
    split at hm
    ·have hil:i<ops.length:=(Y0.1 ho).1
     have ho':ops[e.on]?=some ops[e.on]:=Yb (by omega)
     have:=ih e.on hei _ ho' (fun e' he' hb'=>hL e.on _ ho' hLe e' he' hb') j (by unfold mk; rw [X12,hm]; exact hmj)
     exact ⟨this.1,by omega⟩
    ·rename_i hn; exact absurd hei hn
def Xf (o:Oper) (ops:List Oper):List Nat :=
 (match o.guard with
  | some (j,_)=>match nth ops j with
   | some o'=>match o'.dst with
    | some t=>[t]
    | none=>[]
   | none=>[]
  | none=>[]) ++ o.op.operands.toList.filterMap fun x=>match x with
   | .tmp t=>some t
   | _=>none
def unk:List AV→List AV
 | []=>[]
 | _::l=>.u::unk l
def Xv (E:List AV):List Nat→List AV
 | []=>unk E
 | t::l=>match nth E t with
  | some x=>upd (Xv E l) t x
  | none=>Xv E l
theorem Xhd:∀ (E:List AV) {t:Nat} {x:AV},(unk E)[t]?=some x→x=.u
 | [],t,x,h=>by simp [unk] at h
 | _::l,0,x,h=>by simp [unk] at h; exact h.symm
 | _::l,t+1,x,h=>Xhd l (by simpa [unk] using h)
theorem Xek:∀ E:List AV,(unk E).length=E.length
 | []=>rfl
 | _::l=>by simp [unk,Xek l]
theorem X5l (E:List AV):∀ l,(Xv E l).length=E.length
 | []=>Xek E
 | t::l=>by
  unfold Xv
  split
  ·rw [X2l,Y35,X5l E l]
  ·exact X5l E l
theorem X7f {E:List AV}:∀ {l:List Nat} {t:Nat} {x:AV},(Xv E l)[t]?=some x→x=.u∨(t∈l∧E[t]?=some x)
 | [],t,x,h=>.inl (Xhd E h)
 | s::l,t,x,h=>by
  unfold Xv at h
  split at h
  ·rename_i y hy
   rw [X12] at hy
   rw [X2l,Y1f] at h
   split at h
   ·rename_i e
    subst e
    split at h
    ·cases h; exact .inr ⟨Y1o,hy⟩
    ·cases h
   ·rcases X7f h with h | ⟨h1,h2⟩
    ·exact .inl h
    ·exact .inr ⟨Y16 _ h1,h2⟩
  ·rcases X7f h with h | ⟨h1,h2⟩
   ·exact .inl h
   ·exact .inr ⟨Y16 _ h1,h2⟩
def allocA (X:Cx) (R:List AV) (id:Nat):Op→Option (AV×Blk)
 | .alloc e=>match opM X R [] id (.alloc e) with
  | some (α,(_,b)::_)=>some (α,b)
  | _=>none
 | .box e x=>match opM X R [] id (.box e x) with
  | some (α,(_,b)::_)=>some (α,b)
  | _=>none
 | .buildSlice t k ps=>match opM X R [] id (.buildSlice t k ps) with
  | some (α,(_,b)::_)=>some (α,b)
  | _=>none
 | .makeSlice t x y=>match opM X R [] id (.makeSlice t x y) with
  | some (α,(_,b)::_)=>some (α,b)
  | _=>none
 | _=>none
theorem Xci {X:Cx} {R:List AV} {id:Nat} {op:Op} {α:AV} {b:Blk} (h:allocA X R id op=some (α,b)) (H:X3):opM X R H id op=some (α,(id,b)::H):=by
 unfold allocA at h
 split at h
 ·simp only [opM] at h ⊢
  split at h
  ·rename_i hh
   split at hh
   ·cases hh; cases h; rfl
   ·cases hh
  ·cases h
 ·simp only [opM] at h ⊢
  split at h
  ·rename_i hh
   split at hh
   ·split at hh
    ·cases hh; cases h; simp_all
    ·cases hh
   ·cases hh
  ·cases h
 ·simp only [opM] at h ⊢
  split at h
  ·rename_i hh
   split at hh
   ·rename_i e hu
    split at hh
    ·rename_i te hte
     split at hh
     ·rename_i αs hα
      cases hb:(Nat.ble _ 16777216 && Nat.ble _ 16777216) with
      | false=>rw [hb] at hh; cases hh
      | true =>
       rw [hb,cond_true] at hh
       split at hh
       ·rename_i cs hcs
        cases hb2:Nat.beq (len cs) _ with
        | false=>rw [hb2] at hh; cases hh
        | true =>
         rw [hb2] at hh; cases hh; cases h
         simp only [hu,hte,hα,hb,hcs,hb2,cond_true]
       ·cases hh
     ·cases hh
    ·cases hh
   ·cases hh
  ·cases h
 ·simp only [opM] at h ⊢
  split at h
  ·rename_i hh
   split at hh
   ·rename_i e j k hu hj hk
    split at hh
    ·rename_i te hte
     cases hb:(Nat.beq j k && Nat.ble (te.bytes*k) 281474976710656 && Nat.ble k 4611686018427387904) with
     | false=>rw [hb] at hh; cases hh
     | true =>
      rw [hb] at hh; cases hh; cases h
      simp only [hu,hj,hk,hte,hb,cond_true]
    ·cases hh
   ·cases hh
  ·cases h
 ·cases h
def X3g (X:Cx) (R:List AV) (H:X3):Op→Option AV
 | .load t x=>match opM X R H 0 (.load t x) with
  | some (α,_)=>some α
  | none=>none
 | .lookup t x y ok=>match opM X R H 0 (.lookup t x y ok) with
  | some (α,_)=>some α
  | none=>none
 | .slice t x lo hi mx=>match X4f X R H 0 t x lo hi mx with
  | some (.s b o m z,_)=>bif Nat.beq m 0 then none else some (.s b o m z)
  | some (.c b o m k,_)=>some (.c b o m k)
  | _=>none
 | _=>none
section
variable {X:Cx} {B w:World} {I:Im} {ρ:Ren} {n:Nat} {R:List AV} {H:X3} {F:List Xe}
theorem X8w {t id:Nat} {x:Operand} {lo hi mx:Option Operand} {α:AV} {H':X3} (h:X4f X R H 0 t x lo hi mx=some (α,H')) (hne:∀ z,α≠.s 0 0 0 z):X4f X R H id t x lo hi mx=some (α,H'):=by
 unfold X4f at h ⊢
 split at h
 ·split at h
  ·rename_i b o m z e hx hu _ _ te E' z' q cs hte hf
   cases hb:(Nat.beq z te.size && Nat.beq z' z && Nat.blt 0 z) with
   | false=>rw [hb] at h; cases h
   | true =>
    simp only [hb,cond_true] at h ⊢
    split at h
    ·split at h
     ·rename_i j hj
      cases h1:Nat.ble ((o+j)*z) (len cs) with
      | false=>rw [h1] at h; cases h
      | true =>
       rw [h1] at h; simpa [h1] using h
     ·cases h
    ·split at h
     ·rename_i i hi
      cases h1:(Nat.ble ((o+m)*z) (len cs) && Nat.ble i m) with
      | false=>rw [h1] at h; cases h
      | true =>
       rw [h1,cond_true] at h
       cases h2:Nat.blt i m with
       | true=>rw [h2] at h; simpa [h1,h2] using h
       | false=>rw [h2] at h; cases h; exact absurd rfl (hne z)
     ·cases h
    ·split at h
     ·rename_i i j hi hj
      cases h1:(Nat.ble ((o+j)*z) (len cs) && Nat.ble i j) with
      | false=>rw [h1] at h; cases h
      | true =>
       rw [h1,cond_true] at h
       cases h2:Nat.blt i j with
       | true=>rw [h2] at h; simpa [h1,h2] using h
       | false=>rw [h2] at h; cases h; exact absurd rfl (hne z)
     ·cases h
    ·exact h
    ·cases h
  ·cases h
 ·exact h
 ·exact h
 ·cases h
theorem Xgb (hX:X66 X) {a:Act} {op:Op} {α:AV} {id:Nat} (hd:Hd ρ n R a) (h:WR X B I ρ H F w) (hid:ρ id=none) (ho:X3g X R H op=some α):Pw X ρ n a w op α:=by
 unfold X3g at ho
 split at ho
 ·split at ho
  ·rename_i hh; cases ho; exact (Xax hX hd h hh).2
  ·cases ho
 ·split at ho
  ·rename_i hh; cases ho; exact (Xay hX hd h hh).2
  ·cases ho
 ·split at ho
  ·rename_i b o m z H' hh
   cases hm:Nat.beq m 0 with
   | true=>rw [hm] at ho; cases ho
   | false =>
    rw [hm] at ho; cases ho
    have hne:m≠0:=fun e=>by subst e; cases hm
    rcases X61 hX hd h hid (X8w (id:=id) hh (fun z' e=>by cases e; exact hne rfl)) with ⟨_,h1⟩ | ⟨⟨z',e⟩,_⟩
    ·exact h1
    ·cases e; exact absurd rfl hne
  ·rename_i b o m k H' hh
   cases ho
   rcases X61 hX hd h hid (X8w (id:=id) hh (fun z' e=>by cases e)) with ⟨_,h1⟩ | ⟨⟨z',e⟩,_⟩
   ·exact h1
   ·cases e
  ·cases ho
 ·cases ho
end
inductive Kd where
 | q (α:AV)
 | r (α:AV)
 | a (α:AV) (b:Blk)
 | w (α:AV) (H:X3)
def Kd.val:Kd→AV
 | .q α=>α
 | .r α=>α
 | .a α _=>α
 | .w α _=>α
structure Row where
 o:Oper
 R:List AV
 lo:Nat
 hi:Nat
 k:Kd
abbrev Ent:=Nat×Nat×Blk
def bit (ms:List Nat) (i j:Nat):Bool:=(mk ms i).testBit j
structure PS where
 E:List AV
 H:X3
 nx:Nat
 fl:List Ent
 rows:List Row
def PS.push (p:PS) (o:Oper) (R:List AV) (hi:Nat) (k:Kd) (H:X3) (fl:List Ent):PS:=⟨putE p.E o.dst k.val,H,hi,fl,p.rows ++ [⟨o,R,p.nx,hi,k⟩]⟩
def X3e (X:Cx) (cf:Xj) (ops:List Oper) (ms:List Nat) (i:Nat) (o:Oper) (p:PS):Option PS :=
 match met ops (Xv p.E (Xf o ops)) o.guard with
 | none=>none
 | some false=>some (p.push o (Xv p.E (Xf o ops)) p.nx (.q (.v undef)) p.H p.fl)
 | some true=>match opP X (Xv p.E (Xf o ops)) o.op with
  | some α=>some (p.push o (Xv p.E (Xf o ops)) p.nx (.q α) p.H p.fl)
  | none=>match allocA X (Xv p.E (Xf o ops)) p.nx o.op with
   | some (α,b)=>some (p.push o (Xv p.E (Xf o ops)) (Nat.succ p.nx) (.a α b) p.H (p.fl ++ [(i,p.nx,b)]))
   | none=>match X3g X (Xv p.E (Xf o ops)) p.H o.op with
    | some α=>some (p.push o (Xv p.E (Xf o ops)) (Nat.succ p.nx) (.r α) p.H p.fl)
    | none=>match step X cf (Xv p.E (Xf o ops)) ((p.fl.filter fun e=>bit ms i e.1).map (·.2) ++ p.H) p.nx o.op with
     | some (α,H',nx')=>some (p.push o (Xv p.E (Xf o ops)) nx' (.w α H') H' (p.fl.filter fun e=>!bit ms i e.1))
     | none=>none
def pass (X:Cx) (cf:Xj) (ops:List Oper) (ms:List Nat):Nat→List Oper→PS→Option PS
 | _,[],p=>some p
 | i,o::l,p=>match X3e X cf ops ms i o p with
  | some p'=>pass X cf ops ms (Nat.succ i) l p'
  | none=>none
def walk (ms:List Nat) (L:Nat→Bool):Nat→X3→List Ent→List Row→X3×List Ent
 | _,H,fl,[]=>(H,fl)
 | j,H,fl,r::l=>match r.k with
  | .a _ b=>walk ms L (j+1) H (if L j then fl ++ [(j,r.lo,b)] else fl) l
  | .w _ H1=>if L j then walk ms L (j+1) H1 (fl.filter fun e=>!bit ms j e.1) l else walk ms L (j+1) H fl l
  | _=>walk ms L (j+1) H fl l
abbrev All:Nat→Bool:=fun _=>true
def X3n (E:List AV):List Row→List AV
 | []=>E
 | r::l=>X3n (putE E r.o.dst r.k.val) l
theorem X6n:∀ (l:List Row) (E:List AV) (r:Row),X3n E (l ++ [r])=putE (X3n E l) r.o.dst r.k.val
 | [],E,r=>rfl
 | x::l,E,r=>by simp only [Yr,X3n]; exact X6n l _ r
theorem Xl (ms:List Nat) (L:Nat→Bool):∀ (l m:List Row) (j:Nat) (H:X3) (fl:List Ent),walk ms L j H fl (l ++ m)=walk ms L (j+l.length) (walk ms L j H fl l).1 (walk ms L j H fl l).2 m
 | [],m,j,H,fl=>rfl
 | r::l,m,j,H,fl=>by
  simp only [Yr,walk,Y3]
  rw [show j+(l.length+1)=j+1+l.length by omega]
  cases r.k with
  | q α=>exact Xl ms L l m _ _ _
  | r α=>exact Xl ms L l m _ _ _
  | a α b=>exact Xl ms L l m _ _ _
  | w α H1=>simp only; split <;> exact Xl ms L l m _ _ _
section
variable {X:Cx} {B w:World} {I:Im} {ρ:Ren} {n:Nat} {F:List Xe} {cf:Xj} {ops:List Oper} {ms:List Nat} {E0:List AV} {H0:X3} {nx0:Nat}
def RowF (X:Cx) (cf:Xj) (ops:List Oper) (ms:List Nat) (H0:X3) (pre:List Row) (r:Row):Prop :=
 match r.k with
 | .q α=>(met ops r.R r.o.guard=some false∧α=.v undef)∨(met ops r.R r.o.guard=some true∧opP X r.R r.o.op=some α)
 | .r _=>met ops r.R r.o.guard=some true∧r.hi=r.lo+1
 | .a α b=>met ops r.R r.o.guard=some true∧allocA X r.R r.lo r.o.op=some (α,b)∧r.hi=r.lo+1
 | .w α H1=>met ops r.R r.o.guard=some true∧step X cf r.R (((walk ms All 0 H0 [] pre).2.filter fun e=>bit ms pre.length e.1).map (·.2) ++ (walk ms All 0 H0 [] pre).1) r.lo r.o.op=some (α,H1,r.hi)
structure PInv (X:Cx) (cf:Xj) (ops:List Oper) (ms:List Nat) (E0:List AV) (H0:X3) (nx0:Nat) (p:PS):Prop where
 env:p.E=X3n E0 p.rows
 walk:(p.H,p.fl)=walk ms All 0 H0 [] p.rows
 nx:nx0≤p.nx
 rng:∀ (k:Nat) (r:Row),p.rows[k]?=some r→nx0≤r.lo∧r.lo≤r.hi∧r.hi≤p.nx
 dis:∀ (i j:Nat) (r s:Row),p.rows[i]?=some r→p.rows[j]?=some s→i<j→r.hi≤s.lo
 R:∀ (k:Nat) (r:Row),p.rows[k]?=some r→r.R=Xv (X3n E0 (p.rows.take k)) (Xf r.o ops)
 row:∀ (k:Nat) (r:Row),p.rows[k]?=some r→RowF X cf ops ms H0 (p.rows.take k) r
theorem PInv.push {p:PS} (h:PInv X cf ops ms E0 H0 nx0 p) {o:Oper} {hi:Nat} {k:Kd} {H:X3} {fl:List Ent} (hhi:p.nx≤hi)
  (hw:(H,fl)=Sx.walk ms All p.rows.length p.H p.fl [⟨o,Xv p.E (Xf o ops),p.nx,hi,k⟩]) (hr:RowF X cf ops ms H0 p.rows ⟨o,Xv p.E (Xf o ops),p.nx,hi,k⟩) :
  PInv X cf ops ms E0 H0 nx0 (p.push o (Xv p.E (Xf o ops)) hi k H fl):=by
 have hnx:=h.nx
 have at_:∀ {j:Nat} {r:Row},(p.rows ++ [(⟨o,Xv p.E (Xf o ops),p.nx,hi,k⟩:Row)])[j]?=some r→(p.rows[j]?=some r∧j<p.rows.length)∨(j=p.rows.length∧r=⟨o,Xv p.E (Xf o ops),p.nx,hi,k⟩):=fun {j r} hj=>by
  by_cases hl:j<p.rows.length
  ·rw [Ya hl] at hj; exact .inl ⟨hj,hl⟩
  ·rw [Yn (by omega)] at hj
   have:j - p.rows.length=0:=by
    have:=(Y0.1 hj).1
    simp at this; omega
   rw [this] at hj
   simp at hj
   exact .inr ⟨by omega,hj.symm⟩
 have take_:∀ {j:Nat},j≤p.rows.length→(p.rows ++ [(⟨o,Xv p.E (Xf o ops),p.nx,hi,k⟩:Row)]).take j=p.rows.take j:=fun {j} hj=>by rw [Y23 hj]
 refine ⟨?_,?_,by show nx0≤hi; omega,fun j r hj=>?_,fun i j r s hi' hj hij=>?_,fun j r hj=>?_,fun j r hj=>?_⟩
 ·show putE p.E o.dst k.val=_
  rw [show (p.push o (Xv p.E (Xf o ops)) hi k H fl).rows=p.rows ++ [⟨o,Xv p.E (Xf o ops),p.nx,hi,k⟩] from rfl,X6n,← h.env]
 ·show (H,fl)=_
  rw [show (p.push o (Xv p.E (Xf o ops)) hi k H fl).rows=p.rows ++ [⟨o,Xv p.E (Xf o ops),p.nx,hi,k⟩] from rfl,Xl,← h.walk,Yq]
  exact hw
 ·show nx0≤r.lo∧r.lo≤r.hi∧r.hi≤hi
  rcases at_ hj with ⟨h1,_⟩ | ⟨_,rfl⟩
  ·have:=h.rng _ _ h1; omega
  ·exact ⟨hnx,hhi,Yd _⟩
 ·rcases at_ hi' with ⟨h1,_⟩ | ⟨e1,rfl⟩
  ·rcases at_ hj with ⟨h2,_⟩ | ⟨_,rfl⟩
   ·exact h.dis _ _ _ _ h1 h2 hij
   ·exact (h.rng _ _ h1).2.2
  ·rcases at_ hj with ⟨_,h2⟩ | ⟨e2,_⟩ <;> omega
 ·show r.R=Xv (X3n E0 ((p.rows ++ [_]).take j)) _
  rcases at_ hj with ⟨h1,hl⟩ | ⟨rfl,rfl⟩
  ·rw [take_ (Nat.le_of_lt hl)]; exact h.R _ _ h1
  ·rw [take_ (Yd _),List.take_length,← h.env]
 ·show RowF X cf ops ms H0 ((p.rows ++ [_]).take j) r
  rcases at_ hj with ⟨h1,hl⟩ | ⟨rfl,rfl⟩
  ·rw [take_ (Nat.le_of_lt hl)]; exact h.row _ _ h1
  ·rw [take_ (Yd _),List.take_length]; exact hr
theorem Xbv (hX:X66 X) (hcf:COK X B I cf) {o:Oper} {p p':PS} (h:PInv X cf ops ms E0 H0 nx0 p) (hp:X3e X cf ops ms p.rows.length o p=some p'):PInv X cf ops ms E0 H0 nx0 p'∧∃ r,r.o=o∧p'.rows=p.rows ++ [r]:=by
 unfold X3e at hp
 split at hp
 ·cases hp
 ·rename_i hm
  cases hp
  exact ⟨h.push (Yd _) rfl (.inl ⟨hm,rfl⟩),_,rfl,rfl⟩
 ·rename_i hm
  split at hp
  ·rename_i α ho
   cases hp
   exact ⟨h.push (Yd _) rfl (.inr ⟨hm,ho⟩),_,rfl,rfl⟩
  ·split at hp
   ·rename_i α b ho
    cases hp
    exact ⟨h.push (Y3v _) rfl ⟨hm,ho,rfl⟩,_,rfl,rfl⟩
   ·split at hp
    ·rename_i α ho
     cases hp
     exact ⟨h.push (Y3v _) rfl ⟨hm,rfl⟩,_,rfl,rfl⟩
    ·split at hp
     ·rename_i α H' nx' hs
      cases hp
      have hle:=(step_ok (n:=0) hX hcf hs).1
      refine ⟨h.push hle rfl ⟨hm,?_⟩,_,rfl,rfl⟩
      rw [← h.walk]
      exact hs
     ·cases hp
theorem Xdy (hX:X66 X) (hcf:COK X B I cf):∀ {l:List Oper} {p p':PS},PInv X cf ops ms E0 H0 nx0 p→pass X cf ops ms p.rows.length l p=some p'→PInv X cf ops ms E0 H0 nx0 p'∧∃ rs,rs.map (·.o)=l∧p'.rows=p.rows ++ rs
 | [],p,p',h,hp=>by cases hp; exact ⟨h,[],rfl,by simp⟩
 | o::l,p,p',h,hp=>by
  unfold pass at hp
  split at hp
  ·rename_i p1 h1
   obtain ⟨g1,r,rfl,g3⟩:=Xbv hX hcf h h1
   have hl:Nat.succ p.rows.length=p1.rows.length:=by rw [g3]; simp
   rw [hl] at hp
   obtain ⟨g4,rs,g5,g6⟩:=Xdy hX hcf g1 hp
   exact ⟨g4,r::rs,by rw [Yl,g5],by rw [g6,g3]; simp⟩
  ·cases hp
theorem PInv.start:PInv X cf ops ms E0 H0 nx0 ⟨E0,H0,nx0,[],[]⟩ :=
 ⟨rfl,rfl,Yd _,fun k r h=>by simp at h,fun i j r s h=>by simp at h,fun k r h=>by simp at h,fun k r h=>by simp at h⟩
end
def X1y {α:Type} (p:Nat→α→Bool):Nat→List α→Bool
 | _,[]=>true
 | i,a::l=>bif p i a then X1y p (Nat.succ i) l else false
theorem X71 {α:Type} {p:Nat→α→Bool}:∀ {l:List α} {i:Nat},X1y p i l=true→∀ {k:Nat} {a:α},l[k]?=some a→p (i+k) a=true
 | [],i,h,k,a,hk=>by simp at hk
 | x::l,i,h,k,a,hk=>by
  unfold X1y at h
  cases hb:p i x with
  | false=>rw [hb] at h; cases h
  | true =>
   rw [hb] at h
   cases k with
   | zero=>simp at hk; subst hk; exact hb
   | succ k =>
    have:=X71 (i:=Nat.succ i) h (k:=k) (a:=a) (by simpa using hk)
    rw [show i+(k+1)=Nat.succ i+k by omega]; exact this
def Xc3:Value→Value→Bool
 | .bool a,.bool b=>bif a then b else !b
 | .int k a,.int j b=>k == j && a == b
 | .float k a,.float j b=>k == j && Nat.beq a b
 | .pointer none,.pointer none=>true
 | .slice none 0 0,.slice none 0 0=>true
 | .map none,.map none=>true
 | .nilFunc,.nilFunc=>true
 | .nilIface,.nilIface=>true
 | _,_=>false
theorem Xgm {a b:Value} (h:Xc3 a b=true):a=b:=by
 unfold Xc3 at h
 split at h
 ·rename_i a b; cases a <;> cases b <;> first | rfl | cases h
 ·rw [Y5] at h; rw [eq_of_beq h.1,eq_of_beq h.2]
 ·rw [Y5] at h; rw [eq_of_beq h.1,Y4 h.2]
 ·rfl
 ·rfl
 ·rfl
 ·rfl
 ·rfl
 ·cases h
def X5q:List Nat→List Nat→Bool
 | [],[]=>true
 | a::l,b::m=>bif Nat.beq a b then X5q l m else false
 | _,_=>false
theorem X5r:∀ {l m:List Nat},X5q l m=true→l=m
 | [],[],_=>rfl
 | [],b::m,h=>by cases h
 | a::l,[],h=>by cases h
 | a::l,b::m,h=>by
  unfold X5q at h
  cases hb:Nat.beq a b with
  | false=>rw [hb] at h; cases h
  | true=>rw [hb] at h; rw [Y4 hb,X5r h]
mutual
def X4j:AV→AV→Bool
 | .v x,.v y=>Xc3 x y
 | .st l,.st m=>X5q l m
 | .p a b,.p c d=>Nat.beq a c && Nat.beq b d
 | .s a b c d,.s a' b' c' d'=>Nat.beq a a' && Nat.beq b b' && Nat.beq c c' && Nat.beq d d'
 | .c a b c d,.c a' b' c' d'=>Nat.beq a a' && Nat.beq b b' && Nat.beq c c' && Nat.beq d d'
 | .m a,.m b=>Nat.beq a b
 | .a l,.a m=>X74 l m
 | .t l,.t m=>X74 l m
 | .f g k l,.f g' k' l'=>Nat.beq g g' && X74 k k' && X74 l l'
 | _,_=>false
def X74:List AV→List AV→Bool
 | [],[]=>true
 | x::l,y::m=>bif X4j x y then X74 l m else false
 | _,_=>false
end
mutual
theorem Xcm:∀ {x y:AV},X4j x y=true→x=y
 | .v x,y,h=>by cases y <;> simp only [X4j] at h <;> first | rw [Xgm h] | cases h
 | .st l,y,h=>by cases y <;> simp only [X4j] at h <;> first | rw [X5r h] | cases h
 | .p a b,y,h=>by
  cases y <;> simp only [X4j,Y5] at h <;> first | rw [Y4 h.1,Y4 h.2] | cases h
 | .s a b c d,y,h=>by
  cases y <;> simp only [X4j,Y5] at h <;> first | rw [Y4 h.1.1.1,Y4 h.1.1.2,Y4 h.1.2,Y4 h.2] | cases h
 | .c a b c d,y,h=>by
  cases y <;> simp only [X4j,Y5] at h <;> first | rw [Y4 h.1.1.1,Y4 h.1.1.2,Y4 h.1.2,Y4 h.2] | cases h
 | .m a,y,h=>by cases y <;> simp only [X4j] at h <;> first | rw [Y4 h] | cases h
 | .a l,y,h=>by cases y <;> simp only [X4j] at h <;> first | rw [X3k h] | cases h
 | .t l,y,h=>by cases y <;> simp only [X4j] at h <;> first | rw [X3k h] | cases h
 | .f g k l,y,h=>by
  cases y <;> simp only [X4j,Y5] at h <;> first | rw [Y4 h.1.1,X3k h.1.2,X3k h.2] | cases h
 | .u,y,h=>by cases y <;> simp only [X4j] at h <;> cases h
theorem X3k:∀ {l m:List AV},X74 l m=true→l=m
 | [],[],_=>rfl
 | [],y::m,h=>by simp only [X74] at h; cases h
 | x::l,[],h=>by simp only [X74] at h; cases h
 | x::l,y::m,h=>by
  simp only [X74] at h
  cases hb:X4j x y with
  | false=>rw [hb] at h; cases h
  | true=>rw [hb] at h; rw [Xcm hb,X3k h]
end
def eqO (o:Option AV) (α:AV):Bool:=match o with
 | some β=>X4j β α
 | none=>false
theorem Xgs {o:Option AV} {α:AV} (h:eqO o α=true):o=some α:=by
 unfold eqO at h
 split at h
 ·rw [Xcm h]
 ·cases h
def wkR (X:Cx) (ms:List Nat) (i:Nat) (R:List AV) (op:Op) (α:AV):Nat→X3→List Row→Bool
 | _,H,[]=>eqO (X3g X R H op) α
 | j,H,r::l=>match r.k with
  | .w _ H1=>bif bit ms i j then wkR X ms i R op α (Nat.succ j) H1 l
   else bif eqO (X3g X R H op) α then (bif bit ms j i then true else wkR X ms i R op α (Nat.succ j) H1 l) else false
  | _=>wkR X ms i R op α (Nat.succ j) H l
def memN (t:Nat):List Nat→Bool
 | []=>false
 | a::l=>bif Nat.beq a t then true else memN t l
theorem Xdr {t:Nat}:∀ {l:List Nat},t∈l→memN t l=true
 | [],h=>by cases h
 | a::l,h=>by
  unfold memN
  rcases Y19.1 h with rfl | h
  ·rw [Y2d]; rfl
  ·rw [Xdr h]; cases Nat.beq a t <;> rfl
def isW (r:Row):Bool:=match r.k with
 | .w _ _=>true
 | _=>false
def chk2 (ops:List Oper) (ms:List Nat) (i:Nat) (r:Row) (k:Nat) (s:Row):Bool :=
 bif Nat.beq k i then true else
  (match s.o.dst with
   | some t=>(match r.o.dst with
     | some u=>!(Nat.beq t u)
     | none=>true) && (bif memN t (Xf r.o ops) then bit ms i k || bit ms k i else true)
   | none=>true) && (bif isW r && isW s && Nat.blt k i then bit ms i k else true)
def X51 (i:Nat):List Edge→Bool
 | []=>true
 | e::l=>bif Region.binds .any e then (bif Nat.blt e.on i then X51 i l else false) else X51 i l
theorem X52 {i:Nat}:∀ {l:List Edge},X51 i l=true→∀ e∈l,Region.binds .any e=true→e.on<i
 | [],h,e,he,hb=>by cases he
 | x::l,h,e,he,hb=>by
  unfold X51 at h
  rcases Y19.1 he with rfl | he
  ·rw [hb,cond_true] at h
   cases h1:Nat.blt e.on i with
   | false=>rw [h1] at h; cases h
   | true=>exact Y1 h1
  ·cases h2:Region.binds .any x with
   | false=>rw [h2] at h; exact X52 h e he hb
   | true =>
    rw [h2,cond_true] at h
    cases h1:Nat.blt x.on i with
    | false=>rw [h1] at h; cases h
    | true=>rw [h1] at h; exact X52 h e he hb
def X49 (X:Cx) (ops:List Oper) (ms:List Nat) (H0:X3) (rows:List Row) (i:Nat) (r:Row):Bool :=
 X51 i r.o.after.toList && X1y (chk2 ops ms i r) 0 rows && match r.k with
  | .r α=>wkR X ms i r.R r.o.op α 0 H0 rows
  | _=>true
def Xbq (X:Cx) (cf:Xj) (ops:List Oper) (E:List AV) (H:X3) (nx:Nat):Option (List AV×X3×Nat) :=
 match pass X cf ops (Xc ops []) 0 ops ⟨E,H,nx,[],[]⟩ with
 | some p=>bif X1y (X49 X ops (Xc ops []) H p.rows) 0 p.rows then some (p.E,p.fl.map (·.2) ++ p.H,p.nx) else none
 | none=>none
theorem Xgg {As Bs:List Xe} (h:As.Perm Bs):∀ {g:X3h},SepAll As g→∃ g',SepAll Bs g'∧g.Perm g':=by
 induction h with
 | nil=>intro g hg; exact ⟨g,hg,.refl _⟩
 | cons x _ ih =>
  rintro g ⟨h1,h2,rfl,ha,hr⟩
  obtain ⟨g',h3,h4⟩:=ih hr
  exact ⟨h1 ++ g',⟨h1,g',rfl,ha,h3⟩,h4.append_left h1⟩
 | swap x y l =>
  rintro g ⟨h1,h2,rfl,ha,h3,h4,rfl,hb,hr⟩
  refine ⟨h3 ++ (h1 ++ h4),⟨h3,_,rfl,hb,h1,h4,rfl,ha,hr⟩,?_⟩
  rw [← Y7,← Y7]
  exact Y11.append_right _
 | trans _ _ ih1 ih2 =>
  intro g hg
  obtain ⟨g1,h1,h2⟩:=ih1 hg
  obtain ⟨g2,h3,h4⟩:=ih2 h1
  exact ⟨g2,h3,h2.trans h4⟩
theorem X7m {B w:World} {I:Im} {As Bs:List Xe} (h:Sat B w I As) (hp:As.Perm Bs):Sat B w I Bs:=by
 obtain ⟨g,h1,h2⟩:=h
 obtain ⟨g',h3,h4⟩:=Xgg hp h1
 exact ⟨g',h3,h2.perm h4⟩
section
variable {X:Cx} {B w:World} {I:Im} {ρ σ:Ren} {H:X3} {F:List Xe} {fl fl':List Ent} {ms:List Nat}
abbrev Xal (ρ:Ren) (fl:List Ent):List Xe:=fl.map fun e=>den ρ e.2
theorem WR.frame {B w:World} {I:Im} (h:WR X B I σ H (Xal ρ fl ++ F) w) (hl:LeR ρ σ):WR X B I σ H (Xal σ fl ++ F) w:=by
 refine ⟨h.z,?_⟩
 obtain ⟨g,h1,h2⟩:=h.h
 refine ⟨g,?_,h2⟩
 have key:∀ (A:List Xe) (g:X3h),SepAll (A ++ (Xal ρ fl ++ F)) g→SepAll (A ++ (Xal σ fl ++ F)) g:=by
  intro A
  induction A with
  | nil =>
   intro g hg
   clear h h1 h2
   induction fl generalizing g with
   | nil=>exact hg
   | cons x fl ih =>
    obtain ⟨g1,g2,rfl,ha,hr⟩:=hg
    exact ⟨g1,g2,rfl,Xak hl ha,ih _ hr⟩
  | cons x A ih =>
   rintro g ⟨g1,g2,rfl,ha,hr⟩
   exact ⟨g1,g2,rfl,ha,ih _ hr⟩
 exact key _ _ h1
theorem WR.permF (h:WR X B I ρ H (Xal ρ fl ++ F) w) (hp:fl.Perm fl'):WR X B I ρ H (Xal ρ fl' ++ F) w :=
 ⟨h.z,X7m (show Sat B w I _ from h.h) (((hp.map _).append_right F).append_left _)⟩
theorem WR.takeIn (h:WR X B I ρ H (Xal ρ (fl ++ fl') ++ F) w):WR X B I ρ (fl.map (·.2) ++ H) (Xal ρ fl' ++ F) w:=by
 refine ⟨h.z,X7m (show Sat B w I _ from h.h) ?_⟩
 unfold Xal
 rw [Y18,Y18,List.map_map,Y7 (List.map _ fl),Y7 (List.map _ fl),← Y7,← Y7 (List.map _ fl)]
 exact Y11.append_right _
theorem WR.putOut {e:Ent} (h:WR X B I ρ (e.2::H) (Xal ρ fl ++ F) w):WR X B I ρ H (Xal ρ (e::fl) ++ F) w:=by
 refine ⟨h.z,X7m (show Sat B w I _ from h.h) ?_⟩
 simp only [Yl,Yr]
 exact List.perm_middle.symm
end
end Sx
namespace Sx
open Go Gk
section
variable {X:Cx} {ms:List Nat} {L L':Nat→Bool}
theorem X1k:∀ (l:List Row) (j:Nat) (H:X3) (fl:List Ent),(∀ k,j≤k→k<j+l.length→L k=L' k)→walk ms L j H fl l=walk ms L' j H fl l
 | [],j,H,fl,h=>rfl
 | r::l,j,H,fl,h=>by
  have hj:=h j (Yd _) (by simp)
  have ih:=fun H fl=>X1k l (j+1) H fl (fun k h1 h2=>h k (by omega) (by simp only [Y3]; omega))
  simp only [walk,hj]
  cases r.k with
  | q α=>exact ih _ _
  | r α=>exact ih _ _
  | a α b=>exact ih _ _
  | w α H1=>simp only; split <;> exact ih _ _
theorem X7t:∀ (l:List Row) (j:Nat),(∀ k r,l[k]?=some r→isW r=true→L (j+k)=false)→∃ ap:List Ent,(∀ e∈ap,j≤e.1)∧∀ H fl,walk ms L j H fl l=(H,fl ++ ap)
 | [],j,h=>⟨[],fun _ h=>by (cases h),fun H fl=>by simp [walk]⟩
 | r::l,j,h=>by
  obtain ⟨ap,h1,h2⟩:=X7t l (j+1) (fun k s hk hs=>by rw [show j+1+k=j+(k+1) by omega]; exact h (k+1) s (by simpa using hk) hs)
  have h0:=h 0 r (by simp)
  rw [Yt] at h0
  cases hk:r.k with
  | q α=>exact ⟨ap,fun e he=>by have:=h1 e he; omega,fun H fl=>by simp only [walk,hk]; exact h2 H fl⟩
  | r α=>exact ⟨ap,fun e he=>by have:=h1 e he; omega,fun H fl=>by simp only [walk,hk]; exact h2 H fl⟩
  | a α b =>
   cases hL:L j with
   | true =>
    refine ⟨(j,r.lo,b)::ap,fun e he=>?_,fun H fl=>by simp only [walk,hk,hL,if_true,h2]; simp⟩
    rcases Y19.1 he with rfl | he
    ·exact Yd _
    ·have:=h1 e he; omega
   | false=>exact ⟨ap,fun e he=>by have:=h1 e he; omega,fun H fl=>by simp only [walk,hk,hL,Y1m,if_false,h2]⟩
  | w α H1 =>
   have hL:=h0 (by simp [isW,hk])
   exact ⟨ap,fun e he=>by have:=h1 e he; omega,fun H fl=>by simp only [walk,hk,hL,Y1m,if_false,h2]⟩
theorem X8z {e:Ent}:∀ (l:List Row) (j:Nat) (H:X3) (fl fl':List Ent),fl'.Perm (e::fl)→(∀ k r,l[k]?=some r→isW r=true→L (j+k)=true→bit ms (j+k) e.1=false) →
  (walk ms L j H fl' l).1=(walk ms L j H fl l).1∧(walk ms L j H fl' l).2.Perm (e::(walk ms L j H fl l).2)
 | [],j,H,fl,fl',hp,h=>⟨rfl,hp⟩
 | r::l,j,H,fl,fl',hp,h=>by
  have ih:=fun H fl fl' hp=>X8z l (j+1) H fl fl' hp (fun k s hk hs=>by rw [show j+1+k=j+(k+1) by omega]; exact h (k+1) s (by simpa using hk) hs)
  have h0:=h 0 r (by simp)
  rw [Yt] at h0
  simp only [walk]
  cases hk:r.k with
  | q α=>exact ih _ _ _ hp
  | r α=>exact ih _ _ _ hp
  | a α b =>
   cases hL:L j with
   | true=>exact ih _ _ _ (by simp only [if_true]; exact hp.append_right _)
   | false=>exact ih _ _ _ hp
  | w α H1 =>
   cases hL:L j with
   | true =>
    have hb:=h0 (by simp [isW,hk]) hL
    simp only [if_true]
    refine ih _ _ _ ?_
    have:=hp.filter (fun x=>!bit ms j x.1)
    rw [Y3n,hb] at this
    exact this
   | false=>exact ih _ _ _ hp
theorem X6v {q:Nat→Bool}:∀ (l:List Row) (j:Nat) (H:X3) (fl fl':List Ent),(∀ k r,l[k]?=some r→isW r=true→L (j+k)=true)→(∀ k r α b,l[k]?=some r→r.k=.a α b→q (j+k)=true→L (j+k)=true) →
  fl.filter (fun e=>q e.1)=fl'.filter (fun e=>q e.1)→(walk ms L j H fl l).1=(walk ms All j H fl' l).1∧(walk ms L j H fl l).2.filter (fun e=>q e.1)=(walk ms All j H fl' l).2.filter (fun e=>q e.1)
 | [],j,H,fl,fl',h1,h2,hf=>⟨rfl,hf⟩
 | r::l,j,H,fl,fl',h1,h2,hf=>by
  have ih:=fun H fl fl' hf=>X6v l (j+1) H fl fl' (fun k s hk hs=>by rw [show j+1+k=j+(k+1) by omega]; exact h1 (k+1) s (by simpa using hk) hs)
   (fun k s α b hk hs=>by rw [show j+1+k=j+(k+1) by omega]; exact h2 (k+1) s α b (by simpa using hk) hs) hf
  have g1:=h1 0 r (by simp)
  have g2:=fun α b=>h2 0 r α b (by simp)
  rw [Yt] at g1 g2
  simp only [walk]
  cases hk:r.k with
  | q α=>exact ih _ _ _ hf
  | r α=>exact ih _ _ _ hf
  | a α b =>
   refine ih _ _ _ ?_
   simp only [if_true]
   cases hL:L j with
   | true=>simp only [if_true,List.filter_append,hf]
   | false =>
    have hq:q j=false:=by
     cases hq:q j with
     | false=>rfl
     | true=>have:=g2 α b hk hq; rw [hL] at this; cases this
    simp [List.filter_append,hf,hq]
  | w α H1 =>
   rw [g1 (by simp [isW,hk])]
   simp only [if_true]
   refine ih _ _ _ ?_
   rw [Y39,Y39]
   have e1:∀ fl:List Ent,fl.filter (fun e=>q e.1 && !bit ms j e.1)=(fl.filter (fun e=>q e.1)).filter (fun e=>!bit ms j e.1):=fun fl=>by
    rw [Y39]; congr 1; funext e; exact Bool.and_comm _ _
   rw [e1,e1,hf]
theorem Xhe {i:Nat} {R:List AV} {op:Op} {α:AV}:∀ (l:List Row) (j:Nat) (H:X3) (fl:List Ent),wkR X ms i R op α j H l=true→(∀ k r,l[k]?=some r→isW r=true→bit ms i (j+k)=true→L (j+k)=true) →
  (∀ k r,l[k]?=some r→isW r=true→L (j+k)=true→bit ms (j+k) i=false)→(∀ k m r s,l[k]?=some r→l[m]?=some s→isW r=true→isW s=true→k<m→L (j+m)=true→L (j+k)=true) →
  X3g X R (walk ms L j H fl l).1 op=some α
 | [],j,H,fl,h,h1,h2,h3=>Xgs h
 | r::l,j,H,fl,h,h1,h2,h3=>by
  have ih:=fun H fl (h:wkR X ms i R op α (j+1) H l=true)=>Xhe l (j+1) H fl h (fun k s hk hs=>by rw [show j+1+k=j+(k+1) by omega]; exact h1 (k+1) s (by simpa using hk) hs)
   (fun k s hk hs=>by rw [show j+1+k=j+(k+1) by omega]; exact h2 (k+1) s (by simpa using hk) hs)
   (fun k m r s hk hm hr hs hkm=>by rw [show j+1+k=j+(k+1) by omega,show j+1+m=j+(m+1) by omega]; exact h3 (k+1) (m+1) r s (by simpa using hk) (by simpa using hm) hr hs (by omega))
  have g1:=h1 0 r (by simp)
  have g2:=h2 0 r (by simp)
  rw [Yt] at g1 g2
  unfold wkR at h
  simp only [walk]
  cases hk:r.k with
  | q α=>rw [hk] at h; exact ih _ _ h
  | r α=>rw [hk] at h; exact ih _ _ h
  | a α b=>rw [hk] at h; exact ih _ _ h
  | w β H1 =>
   rw [hk] at h
   have hw:isW r=true:=by simp [isW,hk]
   simp only at h
   cases hL:L j with
   | true =>
    simp only [if_true]
    have hb:=g2 hw hL
    cases hi:bit ms i j with
    | true=>rw [hi] at h; exact ih _ _ h
    | false =>
     rw [hi,cond_false,hb] at h
     cases he:eqO (X3g X R H op) α with
     | false=>rw [he] at h; cases h
     | true=>rw [he] at h; exact ih _ _ h
   | false =>
    have hi:bit ms i j=false:=by
     cases hi:bit ms i j with
     | false=>rfl
     | true=>have:=g1 hw hi; rw [hL] at this; cases this
    rw [hi,cond_false] at h
    cases he:eqO (X3g X R H op) α with
    | false=>rw [he] at h; cases h
    | true =>
     obtain ⟨ap,_,hap⟩:=X7t (ms:=ms) (L:=L) l (j+1) (fun k s hk' hs=>by
      cases hLk:L (j+1+k) with
      | false=>rfl
      | true =>
       have:=h3 0 (k+1) r s (by simp) (by simpa using hk') hw hs (by omega) (by rw [show j+(k+1)=j+1+k by omega]; exact hLk)
       rw [Yt,hL] at this; cases this)
     simp only [Y1m,if_false,hap]
     exact Xgs he
theorem Xfk:∀ (l:List Row) (E:List AV) {t:Nat},(∀ (k:Nat) (r:Row),l[k]?=some r→r.o.dst≠some t)→(X3n E l)[t]?=E[t]?
 | [],E,t,h=>rfl
 | r::l,E,t,h=>by
  rw [X3n,Xfk l _ (fun k s hk=>h (k+1) s (by simpa using hk))]
  have h0:=h 0 r (by simp)
  unfold putE
  cases hd:r.o.dst with
  | none=>rfl
  | some d =>
   show (upd E d r.k.val)[t]?=_
   rw [X2l,List.getElem?_set_ne]
   intro e; subst e; exact h0 hd
theorem Xb9 (E:List AV) (d:Option Nat) (α:AV):(putE E d α).length=E.length:=by
 cases d with
 | none=>rfl
 | some d=>rw [putE,X2l,Y35]
theorem X53:∀ (l:List Row) (E:List AV),(X3n E l).length=E.length
 | [],E=>rfl
 | r::l,E=>by rw [X3n,X53 l,Xb9]
theorem Xfl:∀ (l:List Row) (E:List AV) {t k:Nat} {r:Row},l[k]?=some r→r.o.dst=some t→(∀ (m:Nat) (s:Row),l[m]?=some s→s.o.dst=some t→m=k)→t<E.length→(X3n E l)[t]?=some r.k.val
 | [],E,t,k,r,hk,hd,hu,ht=>by simp at hk
 | x::l,E,t,0,r,hk,hd,hu,ht=>by
  simp at hk
  subst hk
  rw [X3n,Xfk l _ (fun m s hm hs=>by have:=hu (m+1) s (by simpa using hm) hs; omega),hd,putE,X2l,Yu ht]
 | x::l,E,t,k+1,r,hk,hd,hu,ht=>by
  rw [X3n]
  exact Xfl l _ (by simpa using hk) hd (fun m s hm hs=>by have:=hu (m+1) s (by simpa using hm) hs; omega) (by rw [Xb9]; exact ht)
end
end Sx
namespace Sx
open Go Gk
structure Tb (X:Cx) (cf:Xj) (ops:List Oper) (ms:List Nat) (E0:List AV) (H0:X3) (nx0:Nat) (p:PS):Prop where
 inv:PInv X cf ops ms E0 H0 nx0 p
 o:∀ (i:Nat) (r:Row),p.rows[i]?=some r→ops[i]?=some r.o
 r:∀ (i:Nat) (o:Oper),ops[i]?=some o→∃ r,p.rows[i]?=some r∧r.o=o
 lt:∀ (i:Nat) (o:Oper),ops[i]?=some o→∀ e∈o.after.toList,Region.binds .any e=true→e.on<i
 D:∀ (i k:Nat) (r s:Row) (t:Nat),p.rows[i]?=some r→p.rows[k]?=some s→r.o.dst=some t→s.o.dst=some t→i=k
 S:∀ (i k:Nat) (r s:Row) (t:Nat),p.rows[i]?=some r→p.rows[k]?=some s→k≠i→s.o.dst=some t→t∈Xf r.o ops→bit ms i k=true∨bit ms k i=true
 W:∀ (i k:Nat) (r s:Row),p.rows[i]?=some r→p.rows[k]?=some s→isW r=true→isW s=true→k<i→bit ms i k=true
 R:∀ (i:Nat) (r:Row) (α:AV),p.rows[i]?=some r→r.k=.r α→wkR X ms i r.R r.o.op α 0 H0 p.rows=true
structure Cfg (X:Cx) (B:World) (I:Im) (F:List Xe) (n:Nat) (ops:List Oper) (ms:List Nat) (E0:List AV) (H0:X3) (nx0:Nat) (p:PS) (ρ0:Ren) (L:Nat→Bool) (ρ:Ren) (a:Act) (w:World):Prop where
 cl:∀ (i:Nat) (o:Oper),ops[i]?=some o→L i=true→∀ e∈o.after.toList,Region.binds .any e=true→L e.on=true
 size:a.tmps.size=n
 defers:a.defers=[]
 new:∀ (t k:Nat) (r:Row) (x:AV),p.rows[k]?=some r→r.o.dst=some t→L k=true→p.E[t]?=some x→x=.u∨Xb ρ x=some (a.tmps.getD t undef)
 old:∀ (t:Nat) (x:AV),(∀ (k:Nat) (r:Row),p.rows[k]?=some r→r.o.dst=some t→L k=false)→E0[t]?=some x→x=.u∨Xb ρ x=some (a.tmps.getD t undef)
 mem:WR X B I ρ (walk ms L 0 H0 [] p.rows).1 (Xal ρ (walk ms L 0 H0 [] p.rows).2 ++ F) w
 fr:∀ (k:Nat) (r:Row),p.rows[k]?=some r→L k=false→Fresh ρ r.lo r.hi
 ext:Ext ρ0 ρ nx0 p.nx
def X3w (L:Nat→Bool) (i:Nat):Nat→Bool:=fun j=>if j=i then true else L j
section
variable {X:Cx} {B w:World} {I:Im} {ρ ρ0 σ:Ren} {n:Nat} {F:List Xe} {cf:Xj} {ops:List Oper} {E0:List AV} {H0:X3} {nx0:Nat} {p:PS} {L:Nat→Bool} {a:Act}
theorem Tb.bits (T:Tb X cf ops (Xc ops []) E0 H0 nx0 p) (hc:∀ (i:Nat) (o:Oper),ops[i]?=some o→L i=true→∀ e∈o.after.toList,Region.binds .any e=true→L e.on=true) {i:Nat} {o:Oper} (ho:ops[i]?=some o) (hd:∀ e∈o.after.toList,Region.binds .any e=true→L e.on=true) {j:Nat} (hj:bit (Xc ops []) i j=true):L j=true∧j<i :=
 X8k (L:=fun j=>L j=true) T.lt hc i o ho hd j hj
theorem Cfg.bitL (T:Tb X cf ops (Xc ops []) E0 H0 nx0 p) (C:Cfg X B I F n ops (Xc ops []) E0 H0 nx0 p ρ0 L ρ a w) {i j:Nat} {r:Row} (hr:p.rows[i]?=some r) (hL:L i=true) (hj:bit (Xc ops []) i j=true):L j=true∧j<i :=
 T.bits C.cl (T.o _ _ hr) (C.cl _ _ (T.o _ _ hr) hL) hj
theorem Cfg.frame (T:Tb X cf ops (Xc ops []) E0 H0 nx0 p) (hn:E0.length=n) (hk:n≤DK) (C:Cfg X B I F n ops (Xc ops []) E0 H0 nx0 p ρ0 L ρ a w) {i:Nat} {r:Row} (hr:p.rows[i]?=some r) (hL:L i=false)
  (hd:∀ e∈r.o.after.toList,Region.binds .any e=true→L e.on=true):Hd ρ n r.R a:=by
 have hR:=T.inv.R _ _ hr
 refine ⟨C.size,by rw [hR,X5l,X53,hn],hk,C.defers,fun t x hx=>?_⟩
 rw [hR] at hx
 rcases X7f hx with h | ⟨hm,hx⟩
 ·exact .inl h
 have htn:t<E0.length:=by rw [← X53 (p.rows.take i) E0]; exact (Y0.1 hx).1
 have tk:∀ {k:Nat} {s:Row},(p.rows.take i)[k]?=some s→p.rows[k]?=some s∧k<i:=fun {k s} h=>by
  rw [Y12] at h
  split at h
  ·exact ⟨h,by assumption⟩
  ·cases h
 by_cases hw:∃ (k:Nat) (s:Row),p.rows[k]?=some s∧s.o.dst=some t∧k<i
 ·obtain ⟨k,s,h1,h2,h3⟩:=hw
  have hb:bit (Xc ops []) i k=true:=by
   rcases T.S i k r s t hr h1 (by omega) h2 hm with h | h
   ·exact h
   ·have:=(X8k (L:=fun _=>True) T.lt (fun _ _ _ _ _ _ _=>trivial) k s.o (T.o _ _ h1) (fun _ _ _=>trivial) i h).2
    omega
  have hLk:=(T.bits C.cl (T.o _ _ hr) hd hb).1
  have e1:=Xfl (p.rows.take i) E0 (k:=k) (r:=s) (by rw [Y12,if_pos h3]; exact h1) h2 (fun m s' hm hs=>T.D _ _ _ _ _ (tk hm).1 h1 hs h2) htn
  have e2:=Xfl p.rows E0 h1 h2 (fun m s' hm hs=>T.D _ _ _ _ _ hm h1 hs h2) htn
  rw [hx] at e1
  refine C.new t k s x h1 h2 hLk ?_
  rw [T.inv.env,e2,e1]
 ·have e1:=Xfk (p.rows.take i) E0 (t:=t) (fun k s hk hs=>hw ⟨k,s,(tk hk).1,hs,(tk hk).2⟩)
  rw [hx] at e1
  refine C.old t x (fun k s h1 h2=>?_) e1.symm
  cases hLk:L k with
  | false=>rfl
  | true =>
   have hki:k≠i:=fun e=>by subst e; rw [hL] at hLk; cases hLk
   have hik:¬ k<i:=fun h=>hw ⟨k,s,h1,h2,h⟩
   rcases T.S i k r s t hr h1 hki h2 hm with h | h
   ·have:=(T.bits C.cl (T.o _ _ hr) hd h).2
    omega
   ·have:=(C.bitL T h1 hLk h).1
    rw [hL] at this; cases this
theorem Cfg.next (T:Tb X cf ops (Xc ops []) E0 H0 nx0 p) (hn:E0.length=n) (C:Cfg X B I F n ops (Xc ops []) E0 H0 nx0 p ρ0 L ρ a w) {i:Nat} {r:Row} (hr:p.rows[i]?=some r) (hL:L i=false)
  (hd:∀ e∈r.o.after.toList,Region.binds .any e=true→L e.on=true) {v:Value} {w':World} (he:Ext ρ σ r.lo r.hi) (hv:Xb σ r.k.val=some v)
  (hm:WR X B I σ (walk (Xc ops []) (X3w L i) 0 H0 [] p.rows).1 (Xal σ (walk (Xc ops []) (X3w L i) 0 H0 [] p.rows).2 ++ F) w'):Cfg X B I F n ops (Xc ops []) E0 H0 nx0 p ρ0 (X3w L i) σ (a.put r.o.dst v) w':=by
 have hU:∀ j,X3w L i j=true ↔ j=i∨L j=true:=fun j=>by unfold X3w; split <;> simp [*]
 have hUf:∀ j,X3w L i j=false ↔ j≠i∧L j=false:=fun j=>by unfold X3w; split <;> simp [*]
 have getD_ne:∀ t,r.o.dst≠some t→(a.put r.o.dst v).tmps.getD t undef=a.tmps.getD t undef:=fun t ht=>by
  cases hdst:r.o.dst with
  | none=>rfl
  | some d =>
   have:d≠t:=fun e=>ht (by rw [hdst,e])
   simp [Act.put,Y9,Y1l,this]
 obtain ⟨q1,q2,q3⟩:=T.inv.rng _ _ hr
 refine ⟨fun k o ho hk e h1 h2=>?_,?_,?_,fun t k s x h1 h2 hk hx=>?_,fun t x ht hx=>?_,hm,fun k s h1 hk=>?_,?_⟩
 ·rw [hU] at hk ⊢
  rcases hk with rfl | hk
  ·have:=T.o _ _ hr
   rw [ho] at this; cases this
   exact .inr (hd e h1 h2)
  ·exact .inr (C.cl _ _ ho hk e h1 h2)
 ·cases hdst:r.o.dst <;> simp [Act.put,C.size]
 ·cases hdst:r.o.dst <;> simp [Act.put,C.defers]
 ·by_cases hki:k=i
  ·subst hki
   rw [hr] at h1; cases h1
   have htn:t<E0.length:=by rw [← X53 p.rows E0,← T.inv.env]; exact (Y0.1 hx).1
   have e2:=Xfl p.rows E0 hr h2 (fun m s' hm hs=>T.D _ _ _ _ _ hm hr hs h2) htn
   rw [T.inv.env,e2] at hx
   cases hx
   right
   have:(a.put r.o.dst v).tmps.getD t undef=v:=by
    rw [h2]
    have:t<a.tmps.size:=by rw [C.size,← hn]; exact htn
    simp [Act.put,Y9,this]
   rw [this]; exact hv
  ·have hne:r.o.dst≠some t:=fun e=>hki (T.D _ _ _ _ _ h1 hr h2 e)
   rw [getD_ne t hne]
   have hLk:L k=true:=((hU k).1 hk).resolve_left hki
   exact (C.new t k s x h1 h2 hLk hx).imp id (X1z he.1)
 ·have hne:r.o.dst≠some t:=fun e=>by have:=ht i r hr e; rw [hUf] at this; exact this.1 rfl
  rw [getD_ne t hne]
  exact (C.old t x (fun k s h1 h2=>((hUf k).1 (ht k s h1 h2)).2) hx).imp id (X1z he.1)
 ·obtain ⟨hki,hLk⟩:=(hUf k).1 hk
  have hF:=C.fr k s h1 hLk
  intro id h3 h4
  rw [he.2 id,hF id h3 h4]
  intro ⟨h5,h6⟩
  rcases Nat.lt_or_gt_of_ne hki with h | h
  ·have:=T.inv.dis _ _ _ _ h1 hr h; omega
  ·have:=T.inv.dis _ _ _ _ hr h1 h; omega
 ·refine ⟨C.ext.1.trans he.1,fun id hid=>?_⟩
  rw [he.2 id (fun h=>hid ⟨by omega,by omega⟩)]
  exact C.ext.2 id hid
end
end Sx
namespace Sx
open Go Gk
section
variable {X:Cx} {B w:World} {I:Im} {ρ ρ0 σ:Ren} {n:Nat} {F:List Xe} {cf:Xj} {ops:List Oper} {E0:List AV} {H0:X3} {nx0:Nat} {p:PS} {L:Nat→Bool} {a:Act}
theorem X7o {l:List Row} {i:Nat} {r:Row} (h:l[i]?=some r):l=l.take i ++ r::l.drop (i+1)∧(l.take i).length=i:=by
 have hl:=(Y0.1 h).1
 have h2:=(Y0.1 h).2
 refine ⟨?_,by rw [Yi]; omega⟩
 conv=>lhs; rw [← Y1h i l]
 rw [Yz hl,h2]
theorem X6w {ms:List Nat} {i:Nat} {r:Row} {rows:List Row} (hr:rows[i]?=some r) (hk:(∃ α,r.k=.q α)∨∃ α,r.k=.r α):walk ms (X3w L i) 0 H0 [] rows=walk ms L 0 H0 [] rows:=by
 obtain ⟨e,hl⟩:=X7o hr
 rw [e,Xl,Xl,hl,X1k (L':=L) (rows.take i) 0 H0 [] (fun k _ h2=>by rw [hl] at h2; unfold X3w; rw [if_neg (by omega)])]
 rcases hk with ⟨α,hk⟩ | ⟨α,hk⟩ <;> (simp only [walk,hk]; exact X1k _ _ _ _ (fun k h1 _=>by unfold X3w; rw [if_neg (by omega)]))
theorem Xfa (hX:X66 X) (hcf:COK X B I cf) (T:Tb X cf ops (Xc ops []) E0 H0 nx0 p) (hn:E0.length=n) (hk:n≤DK) (C:Cfg X B I F n ops (Xc ops []) E0 H0 nx0 p ρ0 L ρ a w) {i:Nat} {o:Oper} (ho:ops[i]?=some o) (hL:L i=false)
  (hd:∀ e∈o.after.toList,Region.binds .any e=true→L e.on=true) {K:Act→World→Prop} {Q:Exit→Act→World→Prop} (hK:∀ σ a' w',Cfg X B I F n ops (Xc ops []) E0 H0 nx0 p ρ0 (X3w L i) σ a' w'→K a' w'):wpOp X.P ops.toArray Q i K a w:=by
 obtain ⟨r,hr,rfl⟩:=T.r i o ho
 have hfr:=C.frame T hn hk hr hL hd
 have hrow:=T.inv.row _ _ hr
 have hrng:=T.inv.rng _ _ hr
 have hF:=C.fr _ _ hr hL
 have hz:=C.mem.z
 obtain ⟨esp,hsl⟩:=X7o hr
 unfold wpOp
 simp only [Y2a,ho]
 have bits:=fun {j:Nat} (hj:bit (Xc ops []) i j=true)=>T.bits C.cl ho hd hj
 have notb:∀ {k:Nat} {s:Row},p.rows[k]?=some s→L k=true→bit (Xc ops []) k i=false:=fun {k s} h1 h2=>by
  cases hb:bit (Xc ops []) k i with
  | false=>rfl
  | true=>have:=(C.bitL T h1 h2 hb).1; rw [hL] at this; cases this
 unfold RowF at hrow
 cases hkd:r.k with
 | q α =>
  rw [hkd] at hrow
  simp only at hrow
  have hw:=X6w (ms:=Xc ops []) (L:=L) (H0:=H0) hr (.inl ⟨α,hkd⟩)
  rcases hrow with ⟨hm,rfl⟩ | ⟨hm,hp⟩
  ·rw [if_neg (by rw [X5p hfr hm]; simp)]
   refine hK ρ _ _ (C.next T hn hr hL hd (Ext.refl _ _ _) (v:=undef) (by rw [hkd]; rfl) ?_)
   rw [hw]; exact C.mem
  ·rw [if_pos (X5p hfr hm)]
   left
   obtain ⟨v,h1,h2⟩:=Xh6 hX.ty hfr hz hp
   unfold Oper.wp
   rw [h2 w r.o.dst r.o.type r.o.pos r.o.after r.o.guard a hfr.full]
   refine hK ρ _ _ (C.next T hn hr hL hd (Ext.refl _ _ _) (v:=v) (by rw [hkd]; exact h1) ?_)
   rw [hw]; exact C.mem
 | r α =>
  rw [hkd] at hrow
  simp only at hrow
  obtain ⟨hm,hhi⟩:=hrow
  have hw:=X6w (ms:=Xc ops []) (L:=L) (H0:=H0) hr (.inr ⟨α,hkd⟩)
  rw [if_pos (X5p hfr hm)]
  left
  have hread:=Xhe (L:=L) p.rows 0 H0 [] (T.R _ _ _ hr hkd) (fun k s h1 _ h2=>by rw [Yq] at h2 ⊢; exact (bits h2).1) (fun k s h1 _ h2=>by rw [Yq] at h2 ⊢; exact notb h1 h2)
   (fun k m s s' h1 h2 h3 h4 h5 h6=>by rw [Yq] at h6 ⊢; exact (C.bitL T h2 h6 (T.W m k s' s h2 h1 h4 h3 h5)).1)
  obtain ⟨v,h1,h2⟩:=Xgb hX hfr C.mem (hF r.lo (Yd _) (by omega)) hread
  unfold Oper.wp
  rw [h2 r.o.dst r.o.type r.o.pos r.o.after r.o.guard a hfr.full]
  refine hK ρ _ _ (C.next T hn hr hL hd (Ext.refl _ _ _) (v:=v) (by rw [hkd]; exact h1) ?_)
  rw [hw]; exact C.mem
 | a α b =>
  rw [hkd] at hrow
  simp only at hrow
  obtain ⟨hm,hal,hhi⟩:=hrow
  rw [if_pos (X5p hfr hm)]
  left
  obtain ⟨v,w',τ,h1,h2,h3,h4⟩:=Xh5 hX hfr C.mem (hF r.lo (Yd _) (by omega)) (Xci hal _) r.o.dst r.o.type r.o.pos r.o.after r.o.guard
  unfold Oper.wp
  rw [h1]
  refine hK τ _ _ (C.next T hn hr hL hd (by rw [hhi]; exact h2) (v:=v) (by rw [hkd]; exact h3) ?_)
  have h5:=(h4.frame h2.1).putOut (e:=(i,r.lo,b))
  have hmore:(walk (Xc ops []) (X3w L i) 0 H0 [] p.rows).1=(walk (Xc ops []) L 0 H0 [] p.rows).1∧(walk (Xc ops []) (X3w L i) 0 H0 [] p.rows).2.Perm ((i,r.lo,b)::(walk (Xc ops []) L 0 H0 [] p.rows).2):=by
   rw [esp,Xl,Xl,hsl,X1k (L:=X3w L i) (L':=L) (p.rows.take i) 0 H0 [] (fun k _ h2=>by rw [hsl] at h2; unfold X3w; rw [if_neg (by omega)])]
   have eU:X3w L i i=true:=by unfold X3w; rw [if_pos rfl]
   simp only [walk,hkd,Yq,eU,hL,if_true,Y1m,if_false]
   rw [X1k (L:=X3w L i) (L':=L) _ _ _ _ (fun k h1 _=>by unfold X3w; rw [if_neg (by omega)])]
   refine X8z _ _ _ _ _ (Y11) (fun k s h1 h2 h3=>?_)
   exact notb (k:=i+1+k) (s:=s) (by rw [Yp] at h1; exact h1) h3
  rw [hmore.1]
  exact h5.permF hmore.2.symm
 | w α H1 =>
  rw [hkd] at hrow
  simp only at hrow
  obtain ⟨hm,hs⟩:=hrow
  rw [if_pos (X5p hfr hm)]
  left
  have hwi:isW r=true:=by simp [isW,hkd]
  have eU:X3w L i i=true:=by unfold X3w; rw [if_pos rfl]
  -- what is there now
  obtain ⟨ap,hap1,hap2⟩:=X7t (ms:=Xc ops []) (L:=L) (p.rows.drop (i+1)) (i+1) (fun k s h1 h2=>by
   rw [Yp] at h1
   cases hLk:L (i+1+k) with
   | false=>rfl
   | true =>
    have:=(C.bitL T h1 hLk (T.W _ _ _ _ h1 hr h2 hwi (by omega))).1
    rw [hL] at this; cases this)
  have hnow:walk (Xc ops []) L 0 H0 [] p.rows=((walk (Xc ops []) L 0 H0 [] (p.rows.take i)).1,(walk (Xc ops []) L 0 H0 [] (p.rows.take i)).2 ++ ap):=by
   conv=>lhs; rw [esp,Xl,hsl]
   simp only [walk,hkd,Yq,hL,Y1m,if_false,hap2]
  have hthen:walk (Xc ops []) (X3w L i) 0 H0 [] p.rows=(H1,((walk (Xc ops []) L 0 H0 [] (p.rows.take i)).2.filter fun e=>!bit (Xc ops []) i e.1) ++ ap):=by
   conv=>lhs; rw [esp,Xl,hsl]
   rw [X1k (L:=X3w L i) (L':=L) (p.rows.take i) 0 H0 [] (fun k _ h2=>by rw [hsl] at h2; unfold X3w; rw [if_neg (by omega)])]
   simp only [walk,hkd,Yq,eU,if_true]
   rw [X1k (L:=X3w L i) (L':=L) _ _ _ _ (fun k h1 _=>by unfold X3w; rw [if_neg (by omega)]),hap2]
  have halike:=X6v (ms:=Xc ops []) (L:=L) (q:=fun j=>bit (Xc ops []) i j) (p.rows.take i) 0 H0 [] [] (fun k s h1 h2=>by
    rw [Yq]
    rw [Y12] at h1
    split at h1
    ·exact (bits (T.W _ _ _ _ hr h1 hwi h2 (by assumption))).1
    ·cases h1) (fun k s β b h1 _ h2=>by rw [Yq] at h2 ⊢; exact (bits h2).1) rfl
  rw [hsl] at hs
  have hmem:=C.mem
  rw [hnow] at hmem
  simp only at hmem
  have hperm:((walk (Xc ops []) L 0 H0 [] (p.rows.take i)).2 ++ ap).Perm (((walk (Xc ops []) L 0 H0 [] (p.rows.take i)).2.filter fun e=>bit (Xc ops []) i e.1) ++ (((walk (Xc ops []) L 0 H0 [] (p.rows.take i)).2.filter fun e=>!bit (Xc ops []) i e.1) ++ ap)):=by
   rw [← Y7]
   exact ((List.filter_append_perm _ _).symm).append_right _
  have hin:=(hmem.permF hperm).takeIn
  rw [halike.2,halike.1] at hin
  have hst:=(step_ok (n:=n) hX hcf hs).2 ρ a w _ hF hfr hin r.o.dst r.o.type r.o.pos r.o.after r.o.guard K Q
  refine hst fun τ v w' h1 h2 h3=>hK τ _ _ (C.next T hn hr hL hd h1 (by rw [hkd]; exact h2) ?_)
  rw [hthen]
  exact h3.frame h1.1
theorem X90 {ms:List Nat} {L:Nat→Bool}:∀ (l:List Row) (j:Nat) (H:X3) (fl:List Ent),(∀ k,L k=false)→walk ms L j H fl l=(H,fl)
 | [],j,H,fl,h=>rfl
 | r::l,j,H,fl,h=>by
  simp only [walk,h j,Y1m,if_false]
  cases r.k <;> exact X90 l _ _ _ h
theorem X84 {P:Nat→Bool} {i:Nat}:∀ (l:List Nat),l.Nodup→i∈l→P i=true→(l.filter fun j=>P j && !(j == i)).length+1=(l.filter P).length
 | [],hn,hi,hp=>by cases hi
 | x::l,hn,hi,hp=>by
  rw [Y2c] at hn
  by_cases e:x=i
  ·subst e
   have:l.filter (fun j=>P j && !(j == x))=l.filter P:=by
    apply List.filter_congr
    intro j hj
    have:j≠x:=fun e=>hn.1 (e ▸ hj)
    simp [this]
   simp [hp,this]
  ·have hi':i∈l:=(Y19.1 hi).resolve_left (Ne.symm e)
   have ih:=X84 l hn.2 hi' hp
   have e':(x == i)=false:=by simpa using e
   rw [Y3n,Y3n,e']
   cases hx:P x <;> simp <;> omega
theorem Xhx (hX:X66 X) (hcf:COK X B I cf) (T:Tb X cf ops (Xc ops []) E0 H0 nx0 p) (hn:E0.length=n) (hk:n≤DK) {Q:Exit→Act→World→Prop}
  (hQ:∀ σ a' w',Ext ρ0 σ nx0 p.nx→Hd σ n p.E a'→WR X B I σ (p.fl.map (·.2) ++ p.H) F w'→Q .normal a' w') :
  ∀ (fuel:Nat) (listed:Array Bool) (ρ:Ren) (a:Act) (w:World),listed.size=ops.length→((List.range ops.length).filter fun j=>!listed.getD j false).length=fuel →
   Cfg X B I F n ops (Xc ops []) E0 H0 nx0 p ρ0 (fun j=>listed.getD j false) ρ a w→wpAny X.P .any ops.toArray Q fuel listed a w:=by
 -- what is left when none may come
 have done:∀ (listed:Array Bool) (ρ:Ren) (a:Act) (w:World),listed.size=ops.length→Cfg X B I F n ops (Xc ops []) E0 H0 nx0 p ρ0 (fun j=>listed.getD j false) ρ a w→Region.ready .any ops.toArray listed=[]→Q .normal a w:=by
  intro listed ρ a w hs C hr
  have hall:∀ i,i<ops.length→listed.getD i false=true:=by
   intro i
   induction i using Nat.strongRecOn with
   | _ i ih =>
    intro hi
    cases hl:listed.getD i false with
    | true=>rfl
    | false =>
     have:i∈Region.ready .any ops.toArray listed:=by
      rw [mem_ready]
      refine ⟨?_,ops[i],by simp [hi],fun e he hb=>?_⟩
      ·rw [Y9] at hl ⊢
       rw [Yj (by omega)] at hl ⊢
       exact hl
      ·have h1:=T.lt i ops[i] (Yb hi) e (by simpa using he) hb
       exact ih e.on h1 (by omega)
     rw [hr] at this; cases this
  have hlt:∀ (k:Nat) (r:Row),p.rows[k]?=some r→listed.getD k false=true:=fun k r h=>hall k (by
   have:=T.o _ _ h; exact (Y0.1 this).1)
  have hw:walk (Xc ops []) (fun j=>listed.getD j false) 0 H0 [] p.rows=(p.H,p.fl):=by
   rw [T.inv.walk]
   refine X1k _ _ _ _ (fun k _ hk=>?_)
   rw [Yq] at hk
   exact hlt k _ (Yb hk)
  have hm:=C.mem
  rw [hw] at hm
  refine hQ ρ a w C.ext ⟨C.size,by rw [T.inv.env,X53,hn],hk,C.defers,fun t x hx=>?_⟩ ?_
  ·by_cases h:∃ (k:Nat) (r:Row),p.rows[k]?=some r∧r.o.dst=some t
   ·obtain ⟨k,r,h1,h2⟩:=h
    exact C.new t k r x h1 h2 (hlt k r h1) hx
   ·have e1:=Xfk p.rows E0 (t:=t) (fun k r h1 h2=>h ⟨k,r,h1,h2⟩)
    rw [← T.inv.env,hx] at e1
    exact C.old t x (fun k r h1 h2=>absurd ⟨k,r,h1,h2⟩ h) e1.symm
  ·have hm2:WR X B I ρ p.H (Xal ρ (p.fl ++ []) ++ F) w:=by rw [Y1d]; exact hm
   exact hm2.takeIn
 intro fuel
 induction fuel with
 | zero =>
  intro listed ρ a w hs hc C
  have hr:Region.ready .any ops.toArray listed=[]:=by
   rw [List.eq_nil_iff_forall_not_mem]
   intro j hj
   obtain ⟨h1,o,ho,_⟩:=mem_ready.1 hj
   have hjl:j<ops.length:=by
    have:=(Yg.1 ho).1; simpa using this
   have:j∈(List.range ops.length).filter fun j=>!listed.getD j false:=by
    rw [Y2q,Y2i]
    refine ⟨hjl,?_⟩
    rw [Y9] at h1 ⊢
    rw [Yj (by omega)] at h1 ⊢
    simpa using h1
   rw [Yc hc] at this
   cases this
  exact ⟨hr,done listed ρ a w hs C hr⟩
 | succ fuel ih =>
  intro listed ρ a w hs hc C
  refine ⟨done listed ρ a w hs C,fun i hi=>?_⟩
  obtain ⟨h1,o,ho,hb⟩:=mem_ready.1 hi
  have hil:i<ops.length:=by
   have:=(Yg.1 ho).1; simpa using this
  have hLi:listed.getD i false=false:=by
   rw [Y9] at h1 ⊢
   rw [Yj (by omega)] at h1 ⊢
   exact h1
  refine Xfa hX hcf T hn hk C (by simpa using ho) hLi (fun e he hbe=>hb e (by simpa using he) hbe) (fun σ a' w' C'=>ih (listed.setIfInBounds i true) σ a' w' (by simpa using hs) ?_ ?_)
  ·have e1:∀ j,(!(listed.setIfInBounds i true).getD j false)=(!listed.getD j false && !(j == i)):=fun j=>by
    by_cases hji:j=i
    ·subst hji
     simp [Y9,hs,hil]
    ·have:(listed.setIfInBounds i true).getD j false=listed.getD j false:=getD_set_ne false (Ne.symm hji)
     rw [this]; simp [hji]
   simp only [e1]
   have:=X84 (P:=fun j=>!listed.getD j false) (List.range ops.length) List.nodup_range (Y2i.2 hil) (by simp [hLi])
   omega
  ·have e2:(fun j=>(listed.setIfInBounds i true).getD j false)=X3w (fun j=>listed.getD j false) i:=by
    funext j
    unfold X3w
    split
    ·rename_i e; subst e; simp [Y9,hs,hil]
    ·rename_i e; exact getD_set_ne false (Ne.symm e)
   rw [e2]; exact C'
theorem Xfe (hX:X66 X) (hcf:COK X B I cf) {E':List AV} {H':X3} {nx':Nat} (h:Xbq X cf ops E0 H0 nx0=some (E',H',nx')):nx0≤nx' ∧
  ∀ (ρ:Ren) (a:Act) (w:World) (F:List Xe) (Q:Exit→Act→World→Prop),Fresh ρ nx0 nx'→Hd ρ n E0 a→WR X B I ρ H0 F w→(∀ σ a' w',Ext ρ σ nx0 nx'→Hd σ n E' a'→WR X B I σ H' F w'→Q .normal a' w') →
   wpAny X.P .any ops.toArray Q ops.length (Array.replicate ops.length false) a w:=by
 unfold Xbq at h
 split at h
 ·rename_i p hp
  cases hb:X1y (X49 X ops (Xc ops []) H0 p.rows) 0 p.rows with
  | false=>rw [hb] at h; cases h
  | true =>
   rw [hb] at h; cases h
   obtain ⟨hi,rs,h1,h2⟩:=Xdy hX hcf (PInv.start (X:=X) (cf:=cf) (ops:=ops) (ms:=Xc ops []) (E0:=E0) (H0:=H0) (nx0:=nx0)) hp
   rw [Y1e] at h2
   subst h2
   have hro:∀ (i:Nat) (r:Row),p.rows[i]?=some r→ops[i]?=some r.o:=fun i r hr=>by rw [← h1,Yk,hr]; rfl
   have hor:∀ (i:Nat) (o:Oper),ops[i]?=some o→∃ r,p.rows[i]?=some r∧r.o=o:=fun i o ho=>by
    rw [← h1,Yk] at ho
    obtain ⟨r,hr,e⟩:=Y13.1 ho
    exact ⟨r,hr,e⟩
   have chk:∀ (i:Nat) (r:Row),p.rows[i]?=some r→X49 X ops (Xc ops []) H0 p.rows i r=true:=fun i r hr=>by have:=X71 hb hr; rwa [Yq] at this
   have chk2':∀ (i k:Nat) (r s:Row),p.rows[i]?=some r→p.rows[k]?=some s→k≠i→_:=fun i k r s hr hs hki=>by
    have h3:=chk i r hr
    unfold X49 at h3
    simp only [Y5] at h3
    have h4:=X71 h3.1.2 hs
    rw [Yq] at h4
    unfold chk2 at h4
    rw [X7z hki,cond_false,Y5] at h4
    exact h4
   have T:Tb X cf ops (Xc ops []) E0 H0 nx0 p:=by
    refine ⟨hi,hro,hor,fun i o ho=>?_,fun i k r s t hr hs hd1 hd2=>?_,fun i k r s t hr hs hki hd hm=>?_,fun i k r s hr hs hw1 hw2 hki=>?_,fun i r α hr hk=>?_⟩
    ·obtain ⟨r,hr,rfl⟩:=hor i o ho
     have h3:=chk i r hr
     unfold X49 at h3
     simp only [Y5] at h3
     exact X52 h3.1.1
    ·apply Classical.byContradiction
     intro hne
     have h4:=(chk2' i k r s hr hs (Ne.symm hne)).1
     rw [hd1,hd2] at h4
     simp only [Y5,Y2d] at h4
     cases h4.1
    ·have h4:=(chk2' i k r s hr hs hki).1
     rw [hd] at h4
     simp only [Y5,Xdr hm,cond_true,Y29] at h4
     exact h4.2
    ·have h4:=(chk2' i k r s hr hs (by omega)).2
     rw [hw1,hw2,show Nat.blt k i=true from Y1b hki] at h4
     exact h4
    ·have h3:=chk i r hr
     unfold X49 at h3
     simp only [Y5,hk] at h3
     exact h3.2
   refine ⟨hi.nx,fun ρ a w F Q hF hd hW hQ=>?_⟩
   refine Xhx hX hcf T hd.len hd.small hQ ops.length _ ρ a w (by simp) ?_ ⟨fun i o _ h=>?_,hd.size,hd.defers,fun t k r x _ _ h=>?_,fun t x _ hx=>hd.get t x hx,?_,fun k r hr _=>?_,Ext.refl _ _ _⟩
   ·have:(List.range ops.length).filter (fun j=>!(Array.replicate ops.length false).getD j false)=List.range ops.length:=by
     rw [List.filter_eq_self]
     intro j hj
     rw [Y2i] at hj
     simp [Y9,hj]
    rw [this,List.length_range]
   ·exfalso
    rw [Y9,Y2n] at h
    split at h <;> cases h
   ·exfalso
    rw [Y9,Y2n] at h
    split at h <;> cases h
   ·rw [X90 p.rows 0 H0 [] (fun k=>by rw [Y9,Y2n]; split <;> rfl)]
    exact hW
   ·exact hF.sub (hi.rng _ _ hr).1 (hi.rng _ _ hr).2.2
 ·cases h
end
end Sx
namespace Sx
open Go Gk
inductive Xt where
 | n
 | e (id:Nat)
 | r
def Xt.exit:Xt→Exit
 | .n=>.normal
 | .e id=>.exit id
 | .r=>.ret
abbrev Out:=Option (Xt×List AV×X3×Nat)
def X8h (f:List AV→X3→Nat→Out):Nat→List AV→X3→Nat→Out
 | 0,_,_,_=>none
 | k+1,E,H,nx=>match f E H nx with
  | some (.n,E',H',nx')=>X8h f k E' H' nx'
  | r=>r
def regE (X:Cx) (cf:Xj) (draw:Bool) (ops:List Oper) (E:List AV) (H:X3) (nx:Nat):Out :=
 match (bif draw then Xbq X cf ops E H nx else Xh8 X cf ops ops E H nx) with
 | some (E',H',nx')=>some (.n,E',H',nx')
 | none=>none
def exec (X:Cx) (cf:Xj):Code→List AV→X3→Nat→Out
 | .skip=>fun E H nx=>some (.n,E,H,nx)
 | .label _=>fun E H nx=>some (.n,E,H,nx)
 | .ret=>fun E H nx=>some (.r,E,H,nx)
 | .exit id=>fun E H nx=>some (.e id,E,H,nx)
 | .region _ ops draw=>fun E H nx=>regE X cf draw ops.toList E H nx
 | .seq x y=>fun E H nx=>match exec X cf x E H nx with
  | some (.n,E',H',nx')=>exec X cf y E' H' nx'
  | r=>r
 | .cond c x y=>fun E H nx=>match av X E c with
  | some (.v (.bool b))=>bif b then exec X cf x E H nx else exec X cf y E H nx
  | _=>none
 | .block id c=>fun E H nx=>match exec X cf c E H nx with
  | some (.e i,E',H',nx')=>bif Nat.beq i id then some (.n,E',H',nx') else some (.e i,E',H',nx')
  | r=>r
 | .loop c=>X8h (exec X cf c) 100000
 | .scope c=>exec X cf c
 | _=>fun _ _ _=>none
section
variable {X:Cx} {B w:World} {I:Im} {ρ:Ren} {n:Nat} {E:List AV} {H:X3} {F:List Xe} {cf:Xj}
def Run (X:Cx) (B:World) (I:Im) (n:Nat) (c:Code) (E:List AV) (H:X3) (nx:Nat) (x:Xt) (E':List AV) (H':X3) (nx':Nat):Prop :=
 nx≤nx'∧∀ (ρ:Ren) (a:Act) (w:World) (F:List Xe) (Q:Exit→Act→World→Prop),Fresh ρ nx nx'→Hd ρ n E a→WR X B I ρ H F w →
  (∀ σ a' w',Ext ρ σ nx nx'→Hd σ n E' a'→WR X B I σ H' F w'→Q x.exit a' w')→c.wp X.P Q a w
theorem Xe8 (hX:X66 X) (hm:X.P.follows .mixedOrders=true) (hcf:COK X B I cf) {id:Nat} {ops:Array Oper} {draw:Bool} {nx nx':Nat} {x:Xt} {E':List AV} {H':X3} (h:regE X cf draw ops.toList E H nx=some (x,E',H',nx')) :
  Run X B I n (.region id ops draw) E H nx x E' H' nx':=by
 unfold regE at h
 split at h
 ·rename_i E1 H1 nx1 hr
  cases h
  cases draw with
  | true =>
   obtain ⟨h1,h2⟩:=Xfe (n:=n) hX hcf hr
   refine ⟨h1,fun ρ a w F Q hF hd hW hQ=>wp_region_any hm ?_⟩
   have:=h2 ρ a _ F Q hF hd (show WR X B I ρ H F { w with drawn:=w.drawn+1 } from hW.drew) hQ
   simpa using this
  | false =>
   obtain ⟨h1,h2⟩:=X9v (n:=n) hX hcf ops.toList hr
   refine ⟨h1,fun ρ a w F Q hF hd hW hQ=>wp_region_list ?_⟩
   have:=h2 ρ a w F Q hF hd hW hQ
   simpa using this
 ·cases h
theorem Xdo {c:Code} {f:List AV→X3→Nat→Out} (hc:∀ E H nx x E' H' nx',f E H nx=some (x,E',H',nx')→Run X B I n c E H nx x E' H' nx') :
  ∀ (k:Nat) {E:List AV} {H:X3} {nx:Nat} {x:Xt} {E':List AV} {H':X3} {nx':Nat},X8h f k E H nx=some (x,E',H',nx')→nx≤nx' ∧
   ∀ (ρ:Ren) (a:Act) (w:World) (F:List Xe) (Q:Exit→Act→World→Prop),Fresh ρ nx nx'→Hd ρ n E a→WR X B I ρ H F w→(∀ σ a' w',Ext ρ σ nx nx'→Hd σ n E' a'→WR X B I σ H' F w'→Q x.exit a' w') →
    ∀ (b:Frame) (k:List Item) (cs:List Frame),∃ e a' w',Q e a' w'∧Arrives X.P (lone (b.at a (.code c::.inLoop c::k)) cs w) b k cs e a' w'
 | 0,E,H,nx,x,E',H',nx',h=>by cases h
 | k+1,E,H,nx,x,E',H',nx',h=>by
  unfold X8h at h
  split at h
  ·rename_i E1 H1 nx1 h1
   obtain ⟨g1,g2⟩:=hc _ _ _ _ _ _ _ h1
   obtain ⟨g3,g4⟩:=Xdo hc k h
   refine ⟨Y1z g1 g3,fun ρ a w F Q hF hd hW hQ b ks cs=>?_⟩
   obtain ⟨e,a1,w1,hq,harr⟩:=g2 ρ a w F (fun e a1 w1=>e=.normal∧∃ e' a' w',Q e' a' w'∧Arrives X.P (lone (b.at a1 (.code c::.inLoop c::ks)) cs w1) b ks cs e' a' w') (hF.sub (Yd _) g3) hd hW
    (fun σ a' w' h2 h3 h4=>⟨rfl,g4 σ a' w' F Q ((hF.sub g1 (Yd _)).ext h2) h3 h4 (fun τ a'' w'' h5 h6 h7=>hQ τ a'' w'' (h2.trans h5 g1 g3) h6 h7) b ks cs⟩) b (.inLoop c::ks) cs
   obtain ⟨rfl,e2,a2,w2,hq2,harr2⟩:=hq
   exact ⟨e2,a2,w2,hq2,.of_steps (Steps.trans harr (.one step_inLoop)) harr2⟩
  ·rename_i hne
   obtain ⟨g1,g2⟩:=hc _ _ _ _ _ _ _ h
   refine ⟨g1,fun ρ a w F Q hF hd hW hQ b ks cs=>?_⟩
   have hx:x≠.n:=fun e=>by subst e; exact hne _ _ _ h
   obtain ⟨e,a1,w1,⟨he,hq⟩,harr⟩:=g2 ρ a w F (fun e a1 w1=>e=x.exit∧Q e a1 w1) hF hd hW (fun σ a' w' h2 h3 h4=>⟨rfl,hQ σ a' w' h2 h3 h4⟩) b (.inLoop c::ks) cs
   subst he
   cases x with
   | n=>exact absurd rfl hx
   | e id=>exact ⟨_,a1,w1,hq,.pass (x:=.inLoop c) rfl (fun _ _=>.inl (by simp [Xt.exit])) harr⟩
   | r=>exact ⟨_,a1,w1,hq,.pass (x:=.inLoop c) rfl (fun _ _=>.inl (by simp [Xt.exit])) harr⟩
theorem X1v (hX:X66 X) (hm:X.P.follows .mixedOrders=true) (hcf:COK X B I cf):∀ (c:Code) {E:List AV} {H:X3} {nx:Nat} {x:Xt} {E':List AV} {H':X3} {nx':Nat},exec X cf c E H nx=some (x,E',H',nx')→Run X B I n c E H nx x E' H' nx'
 | .skip,E,H,nx,x,E',H',nx',h=>by
  unfold exec at h; cases h
  exact ⟨Yd _,fun ρ a w F Q hF hd hW hQ=>wp_skip (hQ ρ a w (Ext.refl _ _ _) hd hW)⟩
 | .label l,E,H,nx,x,E',H',nx',h=>by
  unfold exec at h; cases h
  exact ⟨Yd _,fun ρ a w F Q hF hd hW hQ=>wp_label (hQ ρ a w (Ext.refl _ _ _) hd hW)⟩
 | .ret,E,H,nx,x,E',H',nx',h=>by
  unfold exec at h; cases h
  exact ⟨Yd _,fun ρ a w F Q hF hd hW hQ=>wp_ret (hQ ρ a w (Ext.refl _ _ _) hd hW)⟩
 | .exit id,E,H,nx,x,E',H',nx',h=>by
  unfold exec at h; cases h
  exact ⟨Yd _,fun ρ a w F Q hF hd hW hQ=>wp_exit (hQ ρ a w (Ext.refl _ _ _) hd hW)⟩
 | .region id ops draw,E,H,nx,x,E',H',nx',h=>by
  unfold exec at h
  exact Xe8 hX hm hcf h
 | .seq c d,E,H,nx,x,E',H',nx',h=>by
  unfold exec at h
  split at h
  ·rename_i E1 H1 nx1 h1
   obtain ⟨g1,g2⟩:=X1v hX hm hcf c h1
   obtain ⟨g3,g4⟩:=X1v hX hm hcf d h
   refine ⟨Y1z g1 g3,fun ρ a w F Q hF hd hW hQ=>wp_seq ?_⟩
   exact g2 ρ a w F _ (hF.sub (Yd _) g3) hd hW fun σ a' w' h2 h3 h4=>g4 σ a' w' F Q ((hF.sub g1 (Yd _)).ext h2) h3 h4 fun τ a'' w'' h5 h6 h7=>hQ τ a'' w'' (h2.trans h5 g1 g3) h6 h7
  ·rename_i hne
   obtain ⟨g1,g2⟩:=X1v hX hm hcf c h
   have hx:x≠.n:=fun e=>by subst e; exact hne _ _ _ h
   refine ⟨g1,fun ρ a w F Q hF hd hW hQ=>wp_seq (g2 ρ a w F _ hF hd hW fun σ a' w' h2 h3 h4=>?_)⟩
   have:=hQ σ a' w' h2 h3 h4
   cases x with
   | n=>exact absurd rfl hx
   | e id=>exact this
   | r=>exact this
 | .cond c d e,E,H,nx,x,E',H',nx',h=>by
  unfold exec at h
  split at h
  ·rename_i b hb
   cases b with
   | true =>
    obtain ⟨g1,g2⟩:=X1v hX hm hcf d h
    refine ⟨g1,fun ρ a w F Q hF hd hW hQ=>?_⟩
    obtain ⟨v,v1,v2⟩:=X4 hd hW.z hb
    cases v1
    exact wp_cond_true (v2 a hd.full) (g2 ρ a w F Q hF hd hW hQ)
   | false =>
    obtain ⟨g1,g2⟩:=X1v hX hm hcf e h
    refine ⟨g1,fun ρ a w F Q hF hd hW hQ=>?_⟩
    obtain ⟨v,v1,v2⟩:=X4 hd hW.z hb
    cases v1
    exact wp_cond_false (v2 a hd.full) (g2 ρ a w F Q hF hd hW hQ)
  ·cases h
 | .block id c,E,H,nx,x,E',H',nx',h=>by
  unfold exec at h
  split at h
  ·rename_i i E1 H1 nx1 h1
   obtain ⟨g1,g2⟩:=X1v hX hm hcf c h1
   cases hb:Nat.beq i id with
   | true =>
    rw [hb] at h; cases h
    have:=Y4 hb
    subst this
    refine ⟨g1,fun ρ a w F Q hF hd hW hQ=>wp_block (g2 ρ a w F _ hF hd hW fun σ a' w' h2 h3 h4=>?_)⟩
    have:=hQ σ a' w' h2 h3 h4
    simpa [Exit.inBlock,Xt.exit] using this
   | false =>
    rw [hb] at h; cases h
    refine ⟨g1,fun ρ a w F Q hF hd hW hQ=>wp_block (g2 ρ a w F _ hF hd hW fun σ a' w' h2 h3 h4=>?_)⟩
    have:=hQ σ a' w' h2 h3 h4
    have hne:i≠id:=fun e=>by subst e; rw [Y2d] at hb; cases hb
    simpa [Exit.inBlock,Xt.exit,hne] using this
  ·rename_i hne
   obtain ⟨g1,g2⟩:=X1v hX hm hcf c h
   refine ⟨g1,fun ρ a w F Q hF hd hW hQ=>wp_block (g2 ρ a w F _ hF hd hW fun σ a' w' h2 h3 h4=>?_)⟩
   have:=hQ σ a' w' h2 h3 h4
   cases x with
   | n=>exact this
   | e id=>exact absurd h (hne _ _ _ _)
   | r=>exact this
 | .loop c,E,H,nx,x,E',H',nx',h=>by
  unfold exec at h
  obtain ⟨g1,g2⟩:=Xdo (n:=n) (fun E H nx x E' H' nx' hh=>X1v hX hm hcf c hh) 100000 h
  refine ⟨g1,fun ρ a w F Q hF hd hW hQ b k cs=>?_⟩
  obtain ⟨e,a',w',hq,harr⟩:=g2 ρ a w F Q hF hd hW hQ b k cs
  exact ⟨e,a',w',hq,.of_steps (.one step_loop) harr⟩
 | .scope c,E,H,nx,x,E',H',nx',h=>by
  unfold exec at h
  obtain ⟨g1,g2⟩:=X1v hX hm hcf c h
  refine ⟨g1,fun ρ a w F Q hF hd hW hQ=>wp_scope_straight (g2 ρ a w F _ hF hd hW fun σ a' w' h2 h3 h4=>?_)⟩
  have:=hQ σ a' w' h2 h3 h4
  cases x <;> exact this
 | .rangeFunc _ _ _ _,E,H,nx,x,E',H',nx',h=>by unfold exec at h; cases h
 | .goto _,E,H,nx,x,E',H',nx',h=>by unfold exec at h; cases h
 | .refuse _,E,H,nx,x,E',H',nx',h=>by unfold exec at h; cases h
def X4e (X:Cx) (E:List AV) (H:X3):ResultVar→Option AV
 | .tmp t=>match nth E t with
  | some .u=>none
  | r=>r
 | .cell t ty=>match nth E t,X.ty.get ty with
  | some (.p b o),some ti=>match X1d X H b with
   | some cs=>match sub cs o ti.size with
    | some xs=>X1q ti.agg xs
    | none=>none
   | none=>none
  | _,_=>none
def X2k (X:Cx) (E:List AV) (H:X3):List ResultVar→Option (List AV)
 | []=>some []
 | r::l=>match X4e X E H r,X2k X E H l with
  | some α,some αs=>some (α::αs)
  | _,_=>none
def Xgc:List AV→AV
 | [α]=>α
 | l=>.t l
def X8q (a:Act):ResultVar→Sem Value
 | .tmp t=>pure (a.tmps.getD t undef)
 | .cell b t=>do loadVar t (← asAddr (a.tmps.getD b undef))
theorem Xe9 (hX:X66 X) {a:Act} (hd:Hd ρ n E a) (hW:WR X B I ρ H F w) {r:ResultVar} {α:AV} (h1:X4e X E H r=some α):∃ v,Xb ρ α=some v∧(X8q a r).run X.P w=.ok v w:=by
 cases r with
 | tmp t =>
  simp only [X4e] at h1
  split at h1
  ·cases h1
  ·rename_i hne
   have h1':=h1
   rw [X12] at h1'
   have:=(hd.get t α h1').resolve_left (fun e=>by subst e; exact hne h1)
   exact ⟨_,this,by simp [X8q]⟩
 | cell t ty =>
  simp only [X4e] at h1
  split at h1
  ·rename_i b o ti hb hti
   rw [X12] at hb
   have hp:=(hd.get t _ hb).resolve_left (by simp)
   obtain ⟨ad,ba,cap,hρ,hv⟩:=Xx hp
   have hT:=Tr.all_get hX.ty hti
   split at h1
   ·rename_i cs hcs
    split at h1
    ·rename_i xs hxs
     obtain ⟨ad2,ba2,cap2,us,q1,q2,q3,q4⟩:=hW.part hcs hxs
     rw [hρ] at q1; cases q1
     obtain ⟨q5,q6⟩:=X1j h1 q2
     refine ⟨_,q5,?_⟩
     have hld:=run_loadCells_list (P:=X.P) w ⟨ad,ba+o,none⟩ us (fun j v hj=>by rw [Xo]; exact q4 j v hj)
     rw [q3] at hld
     simp only [X8q]
     rw [hv]
     cases hag:ti.agg with
     | true =>
      have:=hT.agg; rw [hag] at this
      simp [asAddr,loadVar,this,hT.size,hld]
     | false =>
      have:=hT.agg; rw [hag] at this
      have hl:=q6 hag
      obtain ⟨v,rfl⟩:∃ v,us=[v]:=by
       cases us with
       | nil=>cases hl
       | cons v l=>cases l with
        | nil=>exact ⟨v,rfl⟩
        | cons _ _=>simp at hl
      have hc:=q4 0 v rfl
      rw [Yt] at hc
      simp [asAddr,loadVar,this,load,Sem.run,hc]
    ·cases h1
   ·cases h1
  ·cases h1
theorem X8p (hX:X66 X) {a:Act} (hd:Hd ρ n E a) (hW:WR X B I ρ H F w):∀ {l:List ResultVar} {αs:List AV},X2k X E H l=some αs→∃ vs,X5 ρ αs=some vs∧(l.mapM (X8q a)).run X.P w=.ok vs w
 | [],αs,h=>by cases h; exact ⟨[],rfl,by simp⟩
 | r::l,αs,h=>by
  unfold X2k at h
  split at h
  ·rename_i α βs h1 h2
   cases h
   obtain ⟨vs,g1,g2⟩:=X8p hX hd hW h2
   obtain ⟨v,v1,v2⟩:=Xe9 hX hd hW h1
   refine ⟨v::vs,concL_cons.2 ⟨v,vs,v1,g1,rfl⟩,?_⟩
   rw [List.mapM_cons]
   simp only [Sem.run_bind,v2,Result.andThen_ok,g2,Sem.run_pure]
  ·cases h
theorem Xby (hX:X66 X) {a:Act} {fn:Func} {αs:List AV} (hd:Hd ρ n E a) (hW:WR X B I ρ H F w) (h:X2k X E H fn.results.toList=some αs):∃ v,Xb ρ (Xgc αs)=some v∧(results fn a.tmps).run X.P w=.ok v w:=by
 obtain ⟨vs,h1,h2⟩:=X8p hX hd hW h
 have hl:=X9 h1
 have e:(results fn a.tmps).run X.P w=.ok (if h:vs.toArray.size=1 then vs.toArray[0] else .tuple vs.toArray) w:=by
  have e0:results fn a.tmps=(do let vs ← fn.results.mapM (X8q a); pure (if h:vs.size=1 then vs[0] else .tuple vs)):=by
   unfold results
   congr 2
  rw [e0,Y3g]
  simp only [map_eq_pure_bind,bind_assoc,pure_bind,Sem.run_bind,h2,Result.andThen_ok,Sem.run_pure]
 refine ⟨_,?_,e⟩
 cases αs with
 | nil=>rw [X5] at h1; cases h1; rfl
 | cons α l=>cases l with
  | nil =>
   obtain ⟨v,us,g1,g2,rfl⟩:=concL_cons.1 h1
   rw [X5] at g2; cases g2
   exact g1
  | cons β l =>
   have:¬ vs.toArray.size=1:=by rw [Y1w,hl]; simp
   rw [dif_neg this]
   show Xb ρ (.t (α::β::l))=_
   rw [Xb,h1]
end
abbrev Xeq:=List AV→X3→Nat→Option (AV×X3×Nat)
def X6b:Nat→List AV
 | 0=>[]
 | k+1=>.v undef::X6b k
def X81 (X:Cx) (fn:Tr Func) (nt:Tr Xeq):Nat→Xj
 | 0=>fun _ _ _ _=>none
 | k+1=>fun f args H nx=>match (match nt.get f with
   | some g=>g args H nx
   | none=>none) with
  | some r=>some r
  | none=>match fn.get f with
   | some F=>match F.body with
    | some c=>bif Nat.ble (len args) F.ntmps && Nat.ble F.ntmps DK then match exec X (X81 X fn nt k) c (args ++ X6b (F.ntmps - len args)) H nx with
      | some (.e _,_,_,_)=>none
      | some (_,E',H',nx')=>match X2k X E' H' F.results.toList with
       | some αs=>some (Xgc αs,H',nx')
       | none=>none
      | none=>none
     else none
    | none=>none
   | none=>none
def FnOK (X:Cx) (fn:Tr Func):Prop:=fn.All fun f F=>X.P.funcs[f]?=some F∧X13 F=true
def Xc9 (X:Cx) (B:World) (I:Im) (f:Nat) (g:Xeq):Prop:=∀ args H nx r H' nx',g args H nx=some (r,H',nx')→nx≤nx'∧(∃ fn,X.P.funcs[f]?=some fn∧X13 fn=true) ∧
 ∀ ρ F w vs,Fresh ρ nx nx'→WR X B I ρ H F w→X5 ρ args=some vs→Calls X.P f vs.toArray w (Ret fun v w'=>∃ σ,Ext ρ σ nx nx'∧Xb σ r=some v∧WR X B I σ H' F w')
section
variable {X:Cx} {B w:World} {I:Im} {ρ:Ren} {n:Nat} {E:List AV} {H:X3} {F:List Xe} {fn:Tr Func} {nt:Tr Xeq}
theorem X6p (ρ:Ren):∀ k,X5 ρ (X6b k)=some (List.replicate k undef)
 | 0=>rfl
 | k+1=>concL_cons.2 ⟨undef,_,rfl,X6p ρ k,by rw [Y2m]⟩
theorem Xah (hX:X66 X) (hm:X.P.follows .mixedOrders=true) (hF:FnOK X fn) (hN:nt.All (Xc9 X B I)):∀ k,COK X B I (X81 X fn nt k)
 | 0=>fun f args H nx r H' nx' h=>by cases h
 | k+1=>fun f args H nx r H' nx' h=>by
  unfold X81 at h
  split at h
  ·rename_i r0 hr0
   cases h
   split at hr0
   ·rename_i g hg
    exact Tr.all_get hN hg args H nx r H' nx' hr0
   ·cases hr0
  ·split at h
   ·rename_i fw hf
    obtain ⟨hfn,hcl⟩:=Tr.all_get hF hf
    split at h
    ·rename_i c hb
     cases hle:(Nat.ble (len args) fw.ntmps && Nat.ble fw.ntmps DK) with
     | false=>rw [hle] at h; cases h
     | true =>
      rw [hle,cond_true] at h
      rw [Y5] at hle
      have h1:=Y1 hle.1
      have h2:=Y1 hle.2
      have key:∀ {x:Xt} {E':List AV} {αs:List AV},(∀ id,x≠.e id)→exec X (X81 X fn nt k) c (args ++ X6b (fw.ntmps - len args)) H nx=some (x,E',H',nx')→X2k X E' H' fw.results.toList=some αs→r=Xgc αs →
        nx≤nx'∧(∃ fn,X.P.funcs[f]?=some fn∧X13 fn=true)∧∀ ρ F w vs,Fresh ρ nx nx'→WR X B I ρ H F w→X5 ρ args=some vs→Calls X.P f vs.toArray w (Ret fun v w'=>∃ σ,Ext ρ σ nx nx'∧Xb σ r=some v∧WR X B I σ H' F w'):=by
       intro x E' αs hx he hr hrr
       obtain ⟨g1,g2⟩:=X1v (n:=fw.ntmps) hX hm (Xah hX hm hF hN k) c he
       refine ⟨g1,⟨fw,hfn,hcl⟩,fun ρ F w vs hFr hW hv=>calls_of_wp hfn hb ?_⟩
       have hvl:=X9 hv
       rw [Xg] at h1
       have hall:=Xd hv (X6p ρ (fw.ntmps - len args))
       refine g2 ρ _ w F _ hFr ⟨?_,?_,h2,rfl,fun t x hx=>.inr ?_⟩ hW fun σ a' w' e1 e2 e3=>?_
       ·simp only [Array.size_append,Y1w,Array.size_replicate,hvl]; omega
       ·have:=X9 hall
        rw [← this,Y2,List.length_replicate,hvl,Xg]; omega
       ·obtain ⟨v,q1,q2⟩:=X4y hall hx
        rw [q1]
        have hlen:len args=vs.length:=by rw [Xg,hvl]
        rw [hlen] at q2
        have:(vs.toArray ++ Array.replicate (fw.ntmps - vs.toArray.size) undef)=(vs ++ List.replicate (fw.ntmps - vs.length) undef).toArray:=by
         apply Array.ext'; simp
        rw [this,Y9,Y2a,q2]; rfl
       ·obtain ⟨v,v1,v2⟩:=Xby hX e2 e3 hr
        subst hrr
        cases x with
        | n=>exact ⟨e2.defers,v,v2,v,rfl,σ,e1,v1,e3⟩
        | e id=>exact absurd rfl (hx id)
        | r=>exact ⟨e2.defers,v,v2,v,rfl,σ,e1,v1,e3⟩
      split at h
      ·cases h
      ·rename_i x E' H1 nx1 hne he
       split at h
       ·rename_i αs hr
        cases h
        exact key (fun id e=>hne id e) he hr rfl
       ·cases h
      ·cases h
    ·cases h
   ·cases h
end
end Sx
namespace Sx
open Go Gk
section
variable {P:Program} {t size bytes:Nat} {zero:List AV} {und:Und} {i:TypeInfo}
theorem TyOK.one {z:Value} (h1:P.info? t=some i) (h2:i.size=size) (h3:i.bytes=bytes) (h4:i.zero=some z) (h5:(z.oneCell' && Nat.beq size 1)=true) (h6:∀ ρ,X5 ρ zero=some z.cells.toList) (h7:∀ w,(isAgg t).run P w=.ok false w) (h8:Xcf P t und):TyOK P t ⟨size,bytes,false,zero,und⟩:=by
 rw [Y5] at h5
 have hs:=Y4 h5.2
 have hc:z.cells.size=1:=by
  have h:=h5.1
  cases z <;> first | rfl | cases h
 exact ⟨i,z,h1,h2,h3,h4,h6,by rw [hc,hs],h7,by simpa using h5.1,h8⟩
theorem TyOK.aggr {cs:Array Value} (h1:P.info? t=some i) (h2:i.size=size) (h3:i.bytes=bytes) (h4:i.zero=some (.agg cs)) (h6:∀ ρ,X5 ρ zero=some cs.toList) (h7:∀ w,(isAgg t).run P w=.ok true w) (h8:Xcf P t und) (h9:cs.size=size:=by rfl):TyOK P t ⟨size,bytes,true,zero,und⟩ :=
 ⟨i,.agg cs,h1,h2,h3,h4,h6,h9,h7,by simp,h8⟩
def Flds (P:Program):List Field→List (Nat×Nat×Bool)→Prop
 | [],[]=>True
 | fd::fs,(off,s,g)::l=>fd.offset=off∧(∀ w,(Go.sizeOf fd.type).run P w=.ok s w)∧(∀ w,(isAgg fd.type).run P w=.ok g w)∧Flds P fs l
 | _,_=>False
theorem Flds.at:∀ {fs:List Field} {l:List (Nat×Nat×Bool)},Flds P fs l→∀ {f off s:Nat} {g:Bool},l[f]?=some (off,s,g)→∃ fd,fs[f]?=some fd∧fd.offset=off∧(∀ w,(Go.sizeOf fd.type).run P w=.ok s w)∧(∀ w,(isAgg fd.type).run P w=.ok g w)
 | [],[],_,f,off,s,g,h=>by simp at h
 | fd::fs,(o,s',g')::l,⟨h1,h2,h3,h4⟩,0,off,s,g,h=>by simp at h; obtain ⟨rfl,rfl,rfl⟩:=h; exact ⟨fd,rfl,h1,h2,h3⟩
 | fd::fs,(o,s',g')::l,⟨h1,h2,h3,h4⟩,f+1,off,s,g,h=>by
  obtain ⟨fd',q1,q2⟩:=Flds.at h4 (f:=f) (by simpa using h)
  exact ⟨fd',by simpa using q1,q2⟩
theorem Flds.mapM:∀ {fs:List Field} {l:List (Nat×Nat×Bool)},Flds P fs l→∀ w,((fs.mapM fun f=>do pure (f.offset,← Go.sizeOf f.type)):Sem (List (Nat×Nat))).run P w=.ok (l.map fun x=>(x.1,x.2.1)) w
 | [],[],_,w=>by simp
 | fd::fs,(o,s,g)::l,⟨h1,h2,h3,h4⟩,w=>by
  rw [List.mapM_cons]
  simp only [Sem.run_bind,h2,Result.andThen_ok,Sem.run_pure,Flds.mapM h4,Yl,h1]
theorem TyOK.struct {cs:Array Value} {fs:Array Field} {l:List (Nat×Nat×Bool)} (h1:P.info? t=some i) (h2:i.size=size) (h3:i.bytes=bytes) (h4:i.zero=some (.agg cs)) (h6:∀ ρ,X5 ρ zero=some cs.toList) (h7:∀ w,(isAgg t).run P w=.ok true w) (h8:P.underlying t=some (.struct fs)) (h10:Flds P fs.toList l) (h9:cs.size=size:=by rfl) :
  TyOK P t ⟨size,bytes,true,zero,.struct l⟩:=by
 refine TyOK.aggr h1 h2 h3 h4 h6 h7 ⟨⟨fs,h8,fun f off s g hf=>?_⟩,.agg cs,fun w=>by simp [zeroValue,typeInfo,h1,h4],?_⟩ h9
 ·obtain ⟨fd,q1,q2⟩:=h10.at hf
  exact ⟨fd,by simpa using q1,q2⟩
 ·exact bld_of h8 (fun w=>by simp [zeroValue,typeInfo,h1,h4]) (fun w=>by
   rw [Y3g]
   simp only [map_eq_pure_bind,Sem.run_bind]
   rw [h10.mapM w]
   simp only [Result.andThen_ok,Sem.run_pure])
end
def idxA (c:Nat):List Nat→Nat→Int
 | [],_=>-1
 | a::l,k=>bif Nat.beq (a % 256) c then (k:Int) else idxA c l (Nat.succ k)
def cntA (c:Nat):List Nat→Nat→Nat
 | [],n=>n
 | a::l,n=>bif Nat.beq (a % 256) c then cntA c l (Nat.succ n) else cntA c l n
theorem Xaf (a c:Nat) (hc:c<256):(UInt8.ofNat a == UInt8.ofNat c)=Nat.beq (a % 256) c:=by
 by_cases e:a % 256=c
 ·rw [e,Y2d,beq_iff_eq,X32,e,Y2k hc]
 ·rw [X7z e,beq_eq_false_iff_ne]
  intro h; rw [X32,Y2k hc] at h; exact e h
theorem Xdn (c:Nat) (hc:c<256):∀ (l:List Nat) (k:Nat),idxA c l k=if Go.Lib.indexByte (byt l) (UInt8.ofNat c) == -1 then -1 else Go.Lib.indexByte (byt l) (UInt8.ofNat c)+k
 | [],k=>rfl
 | a::l,k=>by
  have ih:=Xdn c hc l (k+1)
  have h0:=Go.Lib.indexByte_ge (byt l) (UInt8.ofNat c)
  unfold idxA
  rw [show byt (a::l)=UInt8.ofNat a::byt l from rfl,Go.Lib.indexByte,Xaf a c hc]
  cases hb:Nat.beq (a % 256) c with
  | true=>simp
  | false =>
   rw [cond_false,show Nat.succ k=k+1 from rfl,ih]
   generalize Go.Lib.indexByte (byt l) (UInt8.ofNat c)=x at *
   by_cases hx:x=-1
   ·subst hx; simp
   ·have h1:(x == -1)=false:=by simpa using hx
    have h2:(x+1 == -1)=false:=by simp; omega
    simp [h1,h2]; omega
theorem Xcy (c:Nat) (hc:c<256):∀ (l:List Nat) (k:Nat),cntA c l k=Go.Lib.countByte (byt l) (UInt8.ofNat c)+k
 | [],k=>by simp [cntA,Go.Lib.countByte,byt]
 | a::l,k=>by
  unfold cntA
  have ih:=Xcy c hc l
  unfold Go.Lib.countByte at ih ⊢
  rw [show byt (a::l)=UInt8.ofNat a::byt l from rfl,List.count_cons,Xaf a c hc]
  cases hb:Nat.beq (a % 256) c with
  | true=>rw [cond_true,ih]; simp; omega
  | false=>rw [cond_false,ih]; simp
def preS:List Nat→List Nat→Bool
 | [],_=>true
 | _::_,[]=>false
 | a::l,b::m=>bif Nat.beq (a % 256) (b % 256) then preS l m else false
def subA (t:List Nat):List Nat→Nat→Int
 | [],k=>bif preS t [] then (k:Int) else -1
 | a::l,k=>bif preS t (a::l) then (k:Int) else subA t l (Nat.succ k)
theorem X9p:∀ l m:List Nat,preS l m=(byt l).isPrefixOf (byt m)
 | [],m=>rfl
 | a::l,[]=>rfl
 | a::l,b::m=>by
  rw [show byt (a::l)=UInt8.ofNat a::byt l from rfl,show byt (b::m)=UInt8.ofNat b::byt m from rfl,List.isPrefixOf,preS,X9p l m]
  by_cases e:a % 256=b % 256
  ·have h1:(UInt8.ofNat a == UInt8.ofNat b)=true:=by rw [beq_iff_eq,X32]; exact e
   rw [h1,e,Y2d]; rfl
  ·have h1:(UInt8.ofNat a == UInt8.ofNat b)=false:=by rw [beq_eq_false_iff_ne]; intro h; exact e ((X32 a b).1 h)
   rw [h1,X7z e]; rfl
theorem Xeg (t:List Nat):∀ (l:List Nat) (k:Nat),subA t l k=if Go.Lib.index (byt l) (byt t) == -1 then -1 else Go.Lib.index (byt l) (byt t)+k
 | [],k=>by
  unfold subA
  rw [show byt []=([]:List UInt8) from rfl,Go.Lib.index,X9p]
  cases ht:byt t with
  | nil=>simp [byt]
  | cons x y=>simp [byt]
 | a::l,k=>by
  have ih:=Xeg t l (k+1)
  have h0:=Go.Lib.index_ge (byt l) (byt t)
  unfold subA
  rw [X9p,show byt (a::l)=UInt8.ofNat a::byt l from rfl,Go.Lib.index]
  cases hb:(byt t).isPrefixOf (UInt8.ofNat a::byt l) with
  | true=>simp
  | false =>
   rw [cond_false,show Nat.succ k=k+1 from rfl,ih]
   generalize Go.Lib.index (byt l) (byt t)=x at *
   by_cases hx:x=-1
   ·subst hx; simp
   ·have h1:(x == -1)=false:=by simpa using hx
    have h2:(x+1 == -1)=false:=by simp; omega
    simp [h1,h2]; omega
end Sx
