/- Part 2 of what the proof stands on: GkU, Url, Shelf, W18d, Urn, W18e, PatM, Pat, W17b, W18f, W18g. -/
import Derived.Test.YtfibbpgikjggfaaGreatDoorM2TA
import Derived.Laws.RangeAny
import Derived.Laws.IdiomStrings
import Derived.Lib.MapLaws
import Derived.Lib.IndexAny
import Derived.Lib.IndexLaws
import Derived.Shelf.Strings.Builder1
import Derived.Shelf.Strings.Builder2
import Derived.Shelf.Small.Utf8
import Derived.Shelf.Small.Strs
import Derived.Shelf.Utf8.RuneCount
import Derived.Shelf.Strconv.Itoa0
import Derived.Shelf.Strconv.Itoa1
import Derived.Shelf.LaysM
import Derived.Shelf.Strconv.Itoa2
import Derived.Shelf.Strconv.Itoa3
import Derived.Shelf.Strings.Search1
import Derived.Shelf.Strings.Search2
import Derived.Shelf.Strings.Search3
import Derived.Shelf.Strings.Cut
import Derived.Shelf.Strings.Count
import Derived.Shelf.Strings.Shaped
import Derived.Shelf.Strings.Prefix
import Derived.Shelf.Strings.Split
import Derived.Shelf.Strings.SplitShaped
import Derived.Shelf.Unicode.Decode
import Derived.Shelf.Strings.Runes
import Derived.Shelf.Strings.RuneCount
import Derived.Shelf.Strings.IndexAny
import Derived.Shelf.Strings.AsciiSet
import Derived.Shelf.Strings.IndexAnyAll
import Derived.Shelf.Unicode.DecodeSlow
import Derived.Shelf.Unicode.DecodeAny
import Derived.Ground.Names2Prog
import Derived.Shelf.Slices.Clone
import Derived.Test.YtfibbpgikjggfaaGreatDoorProg
import Derived.Lib.CountLaws
import Derived.Lib.Split
import Derived.Lib.ItoaNum
import Derived.Lib.IndexBytes
import Derived.Test.YtfibbpgikjggfaaGreatDoorChecked
set_option linter.unusedVariables false
set_option linter.unusedSimpArgs false
namespace Gk
open Go
section
variable {P:Program} {n:Nat} {K:X2y} {L:Env} {w w':World} {ops:Array Oper} {rest:List Oper}
variable {B:World} {I:Im} {As:List X9} {k:Nat} {ty:TypeId} {pos:String} {af:Array Edge} {g:Option (Nat×Bool)} {t t':TypeId} {x y:Operand}
def X4m (cs:List Value) (E:TypeId):Obj:=.cells cs.toArray E (cs.length,cs.length+1)
def blkM (b:Nat) (cs:List Value) (E:TypeId):X9:=own b (X4m cs E)
theorem Sat.blockO {b:Nat} {o:Obj} (hS:Sat B w I As) (hk:As[k]?=some (own b o)):w.heap[b]?=some o:=by
 obtain ⟨h,hs,hg⟩:=hS
 obtain ⟨g1,g2,hp,ha,_,_⟩:=hs.at_ hk
 rw [own] at ha
 subst ha
 exact hg.own _ _ (hp.mem_iff.2 (by simp))
theorem Xi1 {b:Nat} {cs:List Value} {E:TypeId} (hb:w.heap[b]?=some (X4m cs E)) {o:Nat} {v:Value} (hv:cs[o]?=some v):w.cell? (ad b o)=some v:=by
 unfold X4m at hb
 simp [World.cell?,hb,hv]
theorem WL.strBytes {d:Nat} {src dst e:TypeId} {s:List UInt8} (hS:Sat B w I As) (hx:Ev n L x (S s)) (hs:P.underlying src=some .string) (hd':P.underlying dst=some (.slice e)) (he:P.underlying e=some (.int .u8)) (hd:Nat.blt d n=true)
  (h:∀ b cap r w',Sat B w' I (blkM b (bcs s ++ List.replicate r (.int .u8 0)) e::As)→WL P n ops K rest ((d,.slice (some (ad b 0)) s.length cap)::L) w') :
  WL P n ops K (⟨some d,.convert src dst x,ty,pos,af,none⟩::rest) L w:=by
 have hr:=run_bytes_of_string (P:=P) w src dst e ⟨s.toArray⟩ hs hd' he
 have hrow:bytesRow ⟨s.toArray⟩ (grownCap w s.length 0 e)=(bcs s ++ List.replicate (grownCap w s.length 0 e - s.length) (Value.int .u8 0)).toArray:=by
  simp [bytesRow,bcs,U8]
  rfl
 refine WL.val (v:=.slice (some (ad w.heap.size 0)) s.length (grownCap w s.length 0 e)) (w':=w.drew.alloc (X4m (bcs s ++ List.replicate (grownCap w s.length 0 e - s.length) (Value.int .u8 0)) e)) (fun a ha=>?_) hd (h _ _ _ _ (hS.drew.alloc _))
 have hz:ByteArray.size ⟨s.toArray⟩=s.length:=rfl
 rw [hz,hrow] at hr
 have hx':=hx a ha
 simp [execOp,hx',hr,X4m]
theorem Ex.ldM {d:Option Nat} {b o:Nat} {cs:List Value} {E:TypeId} {v:Value} (hx:Ev n L x (ptr b o)) (hS:Sat B w I As) (hk:As[k]?=some (blkM b cs E)) (ht:∀ w,(isAgg t).run P w=.ok false w) (hv:cs[o]?=some v) :
  Ex P n L w ⟨d,.load t x,ty,pos,af,g⟩ v w:=fun a ha=>by
 have h:=Xi1 (hS.blockO hk) hv
 simp [execOp,hx a ha,Instr.loadAt,Instr.sureAddr,loadVar,ht,load,Sem.run,h]
theorem Ex.bytesStrM {d:Option Nat} {src dst E:TypeId} {b o cap:Nat} {l:List UInt8} {cs:List Value} (hx:Ev n L x (.slice (some (ad b o)) l.length cap)) (hS:Sat B w I As) (hk:As[k]?=some (blkM b cs E)) (hs:P.underlying src=some (.slice E)) (he:P.underlying E=some (.int .u8)) (hd:P.underlying dst=some .string)
  (hc:∀ j (hj:j<l.length),cs[o+j]?=some (U8 (l[j].toNat:Int))):Ex P n L w ⟨d,.convert src dst x,ty,pos,af,g⟩ (S l) w:=fun a ha=>by
 have hb:=hS.blockO hk
 have h:=run_convert_bytes_back (P:=P) w src dst E (ad b o) cap l hs he hd (fun j hj=>by rw [Xt]; exact Xi1 hb (hc j hj))
 simp [execOp,hx a ha,h]
theorem WL.st1M {b o:Nat} {cs:List Value} {E:TypeId} {v:Value} (hS:Sat B w I As) (hk:As[k]?=some (blkM b cs E)) (hx:Ev n L x (ptr b o)) (hy:Ev n L y v) (h1:v.oneCell'=true) (hs:∀ w,(Go.sizeOf t).run P w=.ok 1 w) (ho:o<cs.length)
  (h:∀ w',Sat B w' I (As.set k (blkM b (cs.set o v) E))→WL P n ops K rest L w'):WL P n ops K (⟨none,.store t x y,ty,pos,af,none⟩::rest) L w:=by
 have hb:=hS.blockO hk
 have hcell:=Xi1 hb (Y7 ho)
 have hfro:w.frozen? (ad b o)=false:=by
  unfold X4m at hb
  simp [World.frozen?,hb]
  omega
 have hc:v.cells=#[v]:=by cases v <;> first | rfl | cases h1
 have hlt:b<w.heap.size:=(Y19.1 hb).1
 have hst:=run_store P w (ad b o) v .plain h1
 rw [hcell] at hst
 simp only [hfro] at hst
 have hb':=hb
 unfold X4m at hb'
 have hset:(w.setCell (ad b o) v).heap=w.heap.setIfInBounds b (X4m (cs.set o v) E):=by
  apply Array.ext
  ·simp [World.setCell]
  ·intro i h1 h2
   simp only [World.setCell,Array.getElem_modify,Y3s,X4m]
   by_cases e:b=i
   ·subst e
    have:=(Y19.1 hb').2
    simp [this]
   ·have h3:i<w.heap.size:=by simpa using h2
    simp [e,Y3s h3]
 refine WL.st (w':=w.setCell (ad b o) v) (fun a ha=>?_) (h _ (hS.write (o':=X4m (cs.set o v) E) hk ?_ ?_ ?_ ?_ fun c hc=>?_))
 ·have e0:(ad b o).add 0=ad b o:=rfl
  simp [execOp,hx a ha,hy a ha,Instr.storeAt,Instr.sureAddr,storeVar,hs,hc,storeCells,e0,hst]
 ·simp [World.setCell]
 ·simp [World.setCell]
 ·simp [World.setCell]
 ·rw [hset]
  simp [hlt]
 ·rw [hset]
  simp [Y2w,Ne.symm hc]
theorem WL.range {d:Nat} {s:List UInt8} (hS:Sat B w I As) (hx:Ev n L x (S s)) (hT:P.underlying t=some .string) (hd:Nat.blt d n=true)
  (h:∀ b w',Sat B w' I (own b (.stringIter ⟨s.toArray⟩ 0)::As)→WL P n ops K rest ((d,ptr b 0)::L) w') :
  WL P n ops K (⟨some d,.range t x,ty,pos,af,none⟩::rest) L w:=by
 refine WL.val (v:=ptr w.heap.size 0) (w':=w.iter ⟨s.toArray⟩ 0) (fun a ha=>?_) hd (h _ _ (hS.alloc _))
 have hr:=run_range_string (P:=P) w t ⟨s.toArray⟩ hT
 have hx':=hx a ha
 simp [execOp,hx',hr]
theorem WL.next {d:Nat} {s:List UInt8} {i b:Nat} (hS:Sat B w I As) (hk:As[k]?=some (own b (.stringIter ⟨s.toArray⟩ i))) (hx:Ev n L x (ptr b 0)) (hd:Nat.blt d n=true)
  (h0:¬ i<s.length→WL P n ops K rest ((d,.tuple #[.bool false])::L) w)
  (h1:i<s.length→∀ w',Sat B w' I (As.set k (own b (.stringIter ⟨s.toArray⟩ (i+(Utf8.decode ⟨s.toArray⟩ i).2))))→WL P n ops K rest ((d,.tuple #[.bool true,I64 (i:Nat),.int .i32 (Utf8.decode ⟨s.toArray⟩ i).1])::L) w') :
  WL P n ops K (⟨some d,.next x true,ty,pos,af,none⟩::rest) L w:=by
 have hb:=hS.blockO hk
 have hlt:b<w.heap.size:=(Y19.1 hb).1
 have hz:ByteArray.size ⟨s.toArray⟩=s.length:=rfl
 by_cases hi:i<s.length
 ·have hi':i<ByteArray.size ⟨s.toArray⟩:=hi
  refine WL.val (v:=.tuple #[.bool true,I64 (i:Nat),.int .i32 (Utf8.decode ⟨s.toArray⟩ i).1]) (w':={ w with heap:=w.heap.setIfInBounds b (.stringIter ⟨s.toArray⟩ (i+(Utf8.decode ⟨s.toArray⟩ i).2)) }) (fun a ha=>?_) hd (h1 hi _ (hS.write hk rfl rfl rfl ?_ fun c hc=>?_))
  ·simp only [execOp,hx a ha]
   simp [Instr.next,getObj,setObj,Sem.run,hb,hi',goInt,Result.andThen]
   try rfl
  ·simp [hlt]
  ·simp [Y2w,Ne.symm hc]
 ·have hi':¬ i<ByteArray.size ⟨s.toArray⟩:=hi
  refine WL.val (v:=.tuple #[.bool false]) (w':=w) (fun a ha=>?_) hd (h0 hi)
  simp only [execOp,hx a ha]
  simp [Instr.next,getObj,Sem.run,hb,hi']
theorem X7y (s:List UInt8) (i:Nat) (h:i<s.length) (ha:(at_ s i).toNat<128):Utf8.decode ⟨s.toArray⟩ i=((at_ s i).toNat,1):=by
 have h':i<ByteArray.size ⟨s.toArray⟩:=h
 have e:(⟨s.toArray⟩:ByteArray)[i]'h'=at_ s i:=by
  rw [at_,Yk,Yd,Y7 h]; rfl
 rw [decode_ascii _ i h' (by rw [e]; exact ha),e]
theorem Xa5 (s:List UInt8) (i:Nat):(ByteArray.get! ⟨s.toArray⟩ i)=at_ s i:=by
 show s.toArray[i]! = _
 simp [at_,Yd]
 try rfl
theorem Xb5 (s:List UInt8) (i:Nat) (h:i<s.length) (ha:128≤(at_ s i).toNat) :
  128≤(Utf8.decode ⟨s.toArray⟩ i).1∧(Utf8.decode ⟨s.toArray⟩ i).1≤1114111∧1≤(Utf8.decode ⟨s.toArray⟩ i).2∧i+(Utf8.decode ⟨s.toArray⟩ i).2≤s.length∧∀ j,i≤j→j<i+(Utf8.decode ⟨s.toArray⟩ i).2→128≤(at_ s j).toNat:=by
 have hz:ByteArray.size ⟨s.toArray⟩=s.length:=rfl
 rw [Go.Lib.decode_at,hz,Xa5,Xa5,Xa5,Xa5]
 generalize hb0:(at_ s i).toNat=b0 at *
 generalize hb1:(at_ s (i+1:Nat)).toNat=b1 at *
 generalize hb2:(at_ s (i+2:Nat)).toNat=b2 at *
 generalize hb3:(at_ s (i+3:Nat)).toNat=b3 at *
 rcases Go.Lib.decodeN_shape (s.length - i) b0 b1 b2 b3 with ⟨c,e⟩ | ⟨c1,c2,c3,cv,e⟩ | ⟨c1,c2,c3,c4,cv,cs,e⟩ | ⟨c1,c2,c3,c4,c5,cv,cw,e⟩ | e
 ·omega
 all_goals rw [e]; dsimp only
 ·refine ⟨by omega,by omega,by omega,by omega,fun j h1 h2=>?_⟩
  obtain rfl | rfl:j=i∨j=i+1:=by omega
  ·omega
  ·omega
 ·refine ⟨by omega,by omega,by omega,by omega,fun j h1 h2=>?_⟩
  obtain rfl | rfl | rfl:j=i∨j=i+1∨j=i+2:=by omega
  all_goals omega
 ·refine ⟨by omega,by omega,by omega,by omega,fun j h1 h2=>?_⟩
  obtain rfl | rfl | rfl | rfl:j=i∨j=i+1∨j=i+2∨j=i+3:=by omega
  all_goals omega
 ·refine ⟨by omega,by omega,by omega,by omega,fun j h1 h2=>?_⟩
  obtain rfl:j=i:=by omega
  omega
theorem Xp7 (x:ByteArray) (i:Nat) (h:i<x.size):x.data.toList.getD i 0=x[i]'h:=by
 rw [Yd,Y7 h]
 rfl
def X76 (r:Int):List UInt8:=(Utf8.encode r).data.toList
theorem Ex.runeStr {d:Option Nat} {src dst:TypeId} {q:IntKind} {r:Int} (hx:Ev n L x (.int q r)) (hs:(P.underlying src).isSome=true) (hd:P.underlying dst=some .string) :
  Ex P n L w ⟨d,.convert src dst x,ty,pos,af,g⟩ (S (X76 r)) w:=fun a ha=>by
 have h:=run_convert_int_string (P:=P) w src dst q r hs hd
 have hx':=hx a ha
 simp [execOp,hx',h,X76]
theorem Xhg (r:Int) (hv:Utf8.valid r=true) (h128:128≤r):2≤(X76 r).length∧(X76 r).length≤4∧128≤(at_ (X76 r) ((X76 r).length - 1:Int)).toNat:=by
 obtain ⟨h1,h2,h3⟩:=encode_facts r hv h128
 have hz:(X76 r).length=(Utf8.encode r).size:=by unfold X76; generalize Utf8.encode r=x; rfl
 have hlt:(Utf8.encode r).size - 1<(Utf8.encode r).size:=by omega
 refine ⟨by omega,by omega,?_⟩
 have e:at_ (X76 r) ((X76 r).length - 1:Int)=(Utf8.encode r)[(Utf8.encode r).size - 1]'hlt:=by
  rw [at_,show ((X76 r).length - 1:Int).toNat=(Utf8.encode r).size - 1 by omega]
  exact Xp7 _ _ hlt
 rw [e]
 exact h3 hlt
theorem Xkf (r:Int) (h:Go.Lib.validRune r=true):Utf8.valid r=true:=by
 simp only [Go.Lib.validRune,decide_eq_true_eq] at h
 simp only [Utf8.valid,Y1w,Yn,decide_eq_true_eq]
 omega
theorem Ex.ldsW {d:Option Nat} {b s:Nat} {cs:List Value} {E:TypeId} (hx:Ev n L x (ptr b 0)) (hS:Sat B w I As) (hk:As[k]?=some (blk b cs E)) (ht:∀ w,(isAgg t).run P w=.ok true w) (hs:∀ w,(Go.sizeOf t).run P w=.ok s w)
  (hl:cs.length=s):Ex P n L w ⟨d,.load t x,ty,pos,af,g⟩ (.agg cs.toArray) w:=Ex.lds hx hS hk ht hs hl (fun j v h=>by rw [Yf]; exact h)
theorem X89 (p:Addr) (m c s:Nat):sliced (some p) 0 m c s=.slice (some p) m c:=by
 simp only [sliced,Y3c,Y41,Y3f]
 congr 1
 split <;> rfl
theorem WL.append0p {E m c b gb:Nat} {d:Nat} {news rest':List Value} {i:TypeInfo} {z:Value} {bytes:Nat} (hS:Sat B w I (blk b [] E::As)) (hx:Ev n L x (.slice (some (ad b 0)) 0 0)) (hy:Ev n L y (.slice (some (ad gb 0)) m c))
  (hk:As[k]?=some (blk gb (news ++ rest') E)) (hm:m≤news.length) (ht:P.underlying t=some (.slice E)) (hi:P.info? E=some i) (hz:i.zero=some z) (hsize:i.size=1) (hby:i.bytes=bytes) (hzs:z.cells.size=1)
  (h1:∀ u∈news,u.oneCell'=true) (h63:m*bytes≤140737488355328∧m≤maxLen) (hd:Nat.blt d n=true)
  (h:∀ v' w',Sat B w' I (Vec E 1 v' m (news.take m)::As)→WL P n ops K rest ((d,v')::L) w') :
  WL P n ops K (⟨some d,.call ⟨.builtin .append,#[x,y],#[t,t]⟩,ty,pos,af,none⟩::rest) L w:=by
 have hgb:w.heap[gb]?=some (Xh (news ++ rest') E):=hS.block (k:=k+1) (show As[k]?=some (blk gb (news ++ rest') E) from hk)
 have hnews:∀ j u,(news.take m)[j]?=some u→w.cell? ((ad gb 0).add j)=some u:=fun j u hu=>by
  rw [Xt,Yf]
  refine Xp hgb ?_
  rw [Y1v] at hu
  split at hu
  ·rw [Yi (Y4.1 hu).1]; exact hu
  ·cases hu
 have hlt:(news.take m).length=m:=by rw [Yq]; omega
 have h1':∀ u∈news.take m,u.oneCell'=true:=fun u hu=>h1 u (Y3r hu)
 rcases Y1k m with h0 | hp
 ·subst h0
  have hb:=hS.block (k:=0) rfl
  have hr:=run_append_room (P:=P) w t ty E i ht hi b 0 0 #[] hb (ad gb 0) 0 c [] (by simp) (fun j u hu=>by simp at hu) (fun u hu=>by simp at hu) (Ys _) (by rw [Y3c]; exact Ys _)
  have hlt:b<w.heap.size:=(Y19.1 hb).1
  have hw:=hS.write (k:=0) (w':=w.setRow b #[]) (o':=Xh [] E) rfl rfl rfl rfl (setRow_heap w b _ _ E _ hb) (fun q hq=>setRow_other w b q _ hq)
  have hv:=Sat.vecOf (k:=0) (n:=0) (size:=1) (E:=E) (g:=b) (cs:=[]) hw rfl rfl (Yp _)
  refine WL.val (v:=.slice (some (ad b 0)) 0 0) (w':=w.setRow b #[]) (fun a ha=>?_) hd (h _ _ (by simpa using hv))
  have hx':=hx a ha
  have hy':=hy a ha
  simp at hr
  simp [execOp,resolve,invoke,builtin,hx',hy',hr]
 ·have hv:=Sat.vecOf (k:=0) (n:=0) (size:=1) (E:=E) (g:=b) (cs:=[]) hS rfl rfl (Yp _)
  obtain ⟨v',w',hr,hS'⟩:=X21 (P:=P) (ty:=ty) (k:=0) hv ht hi hz hsize hby hzs rfl (p:=ad gb 0) (m:=m) (c:=c) (news:=news.take m) (by rw [hlt,Y1i]) hp hnews h1' (by rw [Yf]; exact h63.2) (by rw [Yf]; exact h63.1)
  refine WL.val (v:=v') (w':=w') (fun a ha=>?_) hd (h _ _ (by simpa using hS'))
  have hx':=hx a ha
  have hy':=hy a ha
  simp [execOp,resolve,invoke,builtin,hx',hy',hr]
section rets
variable {fn:Func} {R:Ending→World→Prop}
theorem X1j {t u b s:Nat} {ty E:TypeId} {cs:List Value} {x:Value} (h:fn.results=#[.cell t ty,.tmp u]) (hS:Sat B w I As) (hk:As[k]?=some (blk b cs E)) (ht:∀ w,(isAgg ty).run P w=.ok true w) (hs:∀ w,(Go.sizeOf ty).run P w=.ok s w) (hl:cs.length=s)
  (hv:look L t=some (ptr b 0)) (hx:look L u=some x) (hR:R (.returned (.tuple #[.agg cs.toArray,x])) w) (hd:dl L=[]:=by rfl):X3y P n fn R .ret L w:=⟨hd,fun a ha=>by
 have hb:=hS.block hk
 have hld:=run_loadCells_list (P:=P) w (ad b 0) cs (fun j v hj=>by rw [Xt]; exact Xp hb (by simpa using hj))
 rw [hl] at hld
 have h1:=ha.get t _ hv
 have h2:=ha.get u x hx
 simp only [Y10] at h1 h2
 exact ⟨_,by simp [results,h,h1,h2,loadVar,ht,hs]; simp [asAddr,hld],hR⟩⟩
theorem Xo6 {t b s:Nat} {ty E:TypeId} {cs:List Value} (h:fn.results=#[.cell t ty]) (hS:Sat B w I As) (hk:As[k]?=some (blk b cs E)) (ht:∀ w,(isAgg ty).run P w=.ok true w) (hs:∀ w,(Go.sizeOf ty).run P w=.ok s w) (hl:cs.length=s)
  (hv:look L t=some (ptr b 0)) (hR:R (.returned (.agg cs.toArray)) w) (hd:dl L=[]:=by rfl):X3y P n fn R .ret L w:=⟨hd,fun a ha=>by
 have hb:=hS.block hk
 have hld:=run_loadCells_list (P:=P) w (ad b 0) cs (fun j v hj=>by rw [Xt]; exact Xp hb (by simpa using hj))
 rw [hl] at hld
 have h1:=ha.get t _ hv
 simp only [Y10] at h1
 exact ⟨_,by simp [results,h,h1,loadVar,ht,hs]; simp [asAddr,hld],hR⟩⟩
theorem Xlq {t u r b s:Nat} {ty E:TypeId} {cs:List Value} {x y:Value} (h:fn.results=#[.cell t ty,.tmp u,.tmp r]) (hS:Sat B w I As) (hk:As[k]?=some (blk b cs E)) (ht:∀ w,(isAgg ty).run P w=.ok true w) (hs:∀ w,(Go.sizeOf ty).run P w=.ok s w) (hl:cs.length=s)
  (hv:look L t=some (ptr b 0)) (hx:look L u=some x) (hy:look L r=some y) (hR:R (.returned (.tuple #[.agg cs.toArray,x,y])) w) (hd:dl L=[]:=by rfl):X3y P n fn R .ret L w:=⟨hd,fun a ha=>by
 have hb:=hS.block hk
 have hld:=run_loadCells_list (P:=P) w (ad b 0) cs (fun j v hj=>by rw [Xt]; exact Xp hb (by simpa using hj))
 rw [hl] at hld
 have h1:=ha.get t _ hv
 have h2:=ha.get u x hx
 have h3:=ha.get r y hy
 simp only [Y10] at h1 h2 h3
 exact ⟨_,by simp [results,h,h1,h2,h3,loadVar,ht,hs]; simp [asAddr,hld],hR⟩⟩
end rets
end
end Gk
namespace Ul
open Pc Gk
def lo (c:UInt8):UInt8:=if 65≤c && c≤90 then c+32 else c
def low (s:List UInt8):List UInt8:=s.map lo
theorem X1k (s:List UInt8):(low s).length=s.length:=Y13 ..
def mid (s:List UInt8) (i:Nat):List UInt8:=low (s.take i) ++ s.drop i
theorem Xlf (s:List UInt8):mid s 0=s:=by simp [mid,low]
theorem Xn7 (s:List UInt8) (i:Nat) (h:s.length≤i):mid s i=low s:=by
 simp [mid,Y11 h,Y15 h]
theorem Xiz (s:List UInt8) (i:Nat):(mid s i).length=s.length:=by
 simp [mid,low]; omega
theorem Xmj (s:List UInt8) (i:Nat) (h:i<s.length):(mid s i)[i]?=some (at_ s i):=by
 have e:(low (s.take i)).length=i:=by rw [X1k,Yq]; omega
 unfold mid
 rw [Yt (by omega),e,Y4h,Xc s h]
 rfl
theorem Xed (s:List UInt8) (i:Nat) (h:i<s.length):(mid s i).set i (lo (at_ s i))=mid s (i+1):=by
 have e:(low (s.take i)).length=i:=by rw [X1k,Yq]; omega
 unfold mid
 rw [Y2f _ _ (by omega),e,Y4h,Xc s h,Y46,Y1a,low,low,Yy,Y8]
 congr 1
 have:s[i]?=some (at_ s i):=by
  rw [Y7 h,at_,Yk,Yd,Y7 h]; rfl
 rw [this]
 rfl
theorem lo_up {c:UInt8} (h:65≤(c.toNat:Int)∧(c.toNat:Int)≤90):((lo c).toNat:Int)=c.toNat+32:=by
 have h1:(65≤c && c≤90)=true:=by
  simp only [Yn,decide_eq_true_eq,Y23]
  have e1:(65:UInt8).toNat=65:=rfl
  have e2:(90:UInt8).toNat=90:=rfl
  rw [e1,e2]; omega
 rw [lo,if_pos h1,UInt8.toNat_add]
 have:(32:UInt8).toNat=32:=rfl
 rw [this]; omega
theorem lo_no {c:UInt8} (h:¬ (65≤(c.toNat:Int)∧(c.toNat:Int)≤90)):lo c=c:=by
 have h1:¬ (65≤c && c≤90)=true:=by
  simp only [Yn,decide_eq_true_eq,Y23]
  have e1:(65:UInt8).toNat=65:=rfl
  have e2:(90:UInt8).toNat=90:=rfl
  rw [e1,e2]; omega
 rw [lo,if_neg h1]
theorem Xkr {α:Type} {l:List α} {i:Nat} {a:α} (h:l[i]?=some a):l.set i a=l:=by
 apply Y1u
 intro j
 rw [Y2e]
 split
 ·rename_i e
  subst e
  rw [h,if_pos (Y4.1 h).1]
 ·rfl
theorem Xme (s:List UInt8) (i:Nat) (h:i<s.length) (hn:lo (at_ s i)=at_ s i):mid s i=mid s (i+1):=by
 rw [← Xed s i h,hn]
 exact (Xkr (Xmj s i h)).symm
def X73 (c:UInt8):Bool:=plain c && !(c == 95 || c == 126)
def X25 (s:List UInt8):Bool:=!(s.isEmpty || decide (64<s.length)) && s.all X73
theorem Xbd (c:UInt8):((!plain c || ((c.toNat:Int) == 95)) || ((c.toNat:Int) == 126))=!X73 c :=
 eq_of_beq (Xj (p:=fun c=>((!plain c || ((c.toNat:Int) == 95)) || ((c.toNat:Int) == 126)) == !X73 c) (by decide +kernel) c)
def BAD:List UInt8:=[34,60,62,35,92,94,123,124,125,96]
def X14 (c:UInt8):Bool:=(33≤c && c≤126) && !BAD.contains c
theorem X9l (c:UInt8):((decide ((c.toNat:Int)<33) || decide (126<(c.toNat:Int))) || decide (0≤Go.Lib.indexByte BAD c))=!X14 c :=
 eq_of_beq (Xj (p:=fun c=>((decide ((c.toNat:Int)<33) || decide (126<(c.toNat:Int))) || decide (0≤Go.Lib.indexByte BAD c)) == !X14 c) (by decide +kernel) c)
theorem X6w {p:UInt8→Bool} {s:List UInt8} {i:Nat} (h:∀ j,j<i→j<s.length→p (at_ s (j:Int))=true) (hi:s.length≤i):s.all p=true:=by
 rw [Y18]
 intro x hx
 obtain ⟨j,hj,e⟩:=Y3q.1 hx
 have:=h j (by omega) hj
 rw [at_,Yk,Yd,Y7 hj] at this
 rw [← e]; exact this
theorem X69 {p:UInt8→Bool} {s:List UInt8} {i:Nat} (hi:i<s.length) (h:p (at_ s (i:Int))=false):s.all p=false:=by
 rw [List.all_eq_false]
 refine ⟨at_ s (i:Int),?_,by rw [h]; decide⟩
 rw [at_,Yk,Yd,Y7 hi]
 exact Y2k _
def X8u (c:UInt8):Bool:=48≤c && c≤57
def val (s:List UInt8):Nat:=s.foldl (fun n c=>10*n+(c.toNat - 48)) 0
def Xu (s:List UInt8):Bool:=s.all X8u && !(s.headD 0 == 48) && decide (1≤val s) && decide (val s≤65535)
theorem X77 (c:UInt8):(decide ((c.toNat:Int)<48) || decide (57<(c.toNat:Int)))=!X8u c :=
 eq_of_beq (Xj (p:=fun c=>(decide ((c.toNat:Int)<48) || decide (57<(c.toNat:Int))) == !X8u c) (by decide +kernel) c)
theorem Xhs (s:List UInt8) (c:UInt8):val (s ++ [c])=10*val s+(c.toNat - 48):=by simp [val,Y33]
theorem X3o (s:List UInt8) (i:Nat) (h:i<s.length):val (s.take (i+1))=10*val (s.take i)+((at_ s (i:Int)).toNat - 48):=by
 have:s[i]?=some (at_ s i):=by
  rw [Y7 h,at_,Yk,Yd,Y7 h]; rfl
 rw [Y1a,this]
 exact Xhs _ _
theorem Xe9 (s:List UInt8):∀ (i j:Nat),i≤j→val (s.take i)≤val (s.take j):=by
 intro i j h
 induction j with
 | zero=>rw [show i=0 by omega]; exact Ys _
 | succ j ih =>
  by_cases e:i=j+1
  ·rw [e]; exact Ys _
  ·by_cases hj:j<s.length
   ·have:=ih (by omega)
    rw [X3o s j hj]; omega
   ·have:=ih (by omega)
    have e2:s.take (j+1)=s.take j:=by rw [Y11 (by omega),Y11 (by omega)]
    rw [e2]; exact this
theorem Xp1 (s:List UInt8) (h:6≤s.length) (h0:X8u (at_ s 0)=true) (h1:at_ s 0≠48):65535<val s:=by
 have h2:1≤val (s.take 1):=by
  rw [X3o s 0 (by omega)]
  have hd:=h0
  simp only [X8u,Yn,decide_eq_true_eq,Y23] at hd
  have e1:(48:UInt8).toNat=48:=rfl
  rw [e1] at hd
  have:(at_ s 0).toNat≠48:=fun e=>h1 (Yz.1 e)
  show 1≤_+((at_ s 0).toNat - 48)
  omega
 have step:∀ i,i<s.length→10*val (s.take i)≤val (s.take (i+1)):=fun i hi=>by rw [X3o s i hi]; omega
 have a1:10*val (s.take 1)≤val (s.take 2):=step 1 (by omega)
 have a2:10*val (s.take 2)≤val (s.take 3):=step 2 (by omega)
 have a3:10*val (s.take 3)≤val (s.take 4):=step 3 (by omega)
 have a4:10*val (s.take 4)≤val (s.take 5):=step 4 (by omega)
 have a5:10*val (s.take 5)≤val (s.take 6):=step 5 (by omega)
 have a6:=Xe9 s 6 s.length h
 rw [Y1b] at a6
 omega
def Xcj:List UInt8:=[104,116,116,112]
def X3t:List UInt8:=[104,116,116,112,115]
def Xju (s:List UInt8):Nat:=if s=X3t then 443 else 80
def X3k (s sch:List UInt8):Nat:=if val s=Xju sch then 0 else val s
def upto (ats s:List UInt8):List UInt8:=s.takeWhile fun c=>!ats.contains c
def X7 (ats s:List UInt8):List UInt8:=s.dropWhile fun c=>!ats.contains c
theorem X22 (ats s:List UInt8):upto ats s ++ X7 ats s=s:=List.takeWhile_append_dropWhile
theorem Xam {ats:List UInt8}:∀ {s:List UInt8} {i:Nat},Go.Lib.indexAny s ats=i→upto ats s=s.take i∧X7 ats s=s.drop i∧i<s.length
 | [],i,h=>by simp [Go.Lib.indexAny] at h
 | b::l,i,h=>by
  rw [Go.Lib.indexAny] at h
  split at h
  ·rename_i hb
   have:i=0:=by omega
   subst this
   have hb':b∈ats:=by simpa using hb
   simp [upto,X7,hb']
  ·rename_i hb
   have hb':ats.contains b=false:=by simpa using hb
   split at h
   ·omega
   ·have hge:=Go.Lib.indexAny_ge ats l
    rename_i hne
    have hne':Go.Lib.indexAny l ats≠-1:=fun e=>hne (beq_iff_eq.2 e)
    obtain ⟨k,hk⟩:∃ k:Nat,Go.Lib.indexAny l ats=k:=⟨(Go.Lib.indexAny l ats).toNat,by omega⟩
    obtain ⟨a,b',c⟩:=Xam hk
    have:i=k+1:=by omega
    subst this
    refine ⟨?_,?_,by simp; omega⟩
    ·show (b::l).takeWhile _=_
     rw [Y2t]
     simp only [hb',Y36,if_true,Y2u]
     rw [← a]; rfl
    ·show (b::l).dropWhile _=_
     rw [Y3a]
     simp only [hb',Y36,if_true,Y9]
     rw [← b']; rfl
theorem X75 {ats:List UInt8}:∀ {s:List UInt8},Go.Lib.indexAny s ats=-1→upto ats s=s∧X7 ats s=[]
 | [],_=>⟨rfl,rfl⟩
 | b::l,h=>by
  rw [Go.Lib.indexAny] at h
  split at h
  ·omega
  ·rename_i hb
   have hb':ats.contains b=false:=by simpa using hb
   split at h
   ·rename_i hne
    obtain ⟨a,c⟩:=X75 (s:=l) (ats:=ats) (beq_iff_eq.1 hne)
    refine ⟨?_,?_⟩
    ·show (b::l).takeWhile _=_
     rw [Y2t]
     simp only [hb',Y36,if_true]
     show b::upto ats l=_
     rw [a]
    ·show (b::l).dropWhile _=_
     rw [Y3a]
     simp only [hb',Y36,if_true]
     exact c
   ·have hge:=Go.Lib.indexAny_ge ats l
    omega
theorem Xca {l:List UInt8} {c:UInt8} (h:128≤c.toNat) (hl:∀ (j:Nat) b,l[j]?=some b→b.toNat<128):Go.Lib.indexByte l c=-1:=by
 have hge:=Go.Lib.indexByte_ge l c
 by_cases e:Go.Lib.indexByte l c=-1
 ·exact e
 ·obtain ⟨k,hk⟩:∃ k:Nat,Go.Lib.indexByte l c=k:=⟨(Go.Lib.indexByte l c).toNat,by omega⟩
  have:=(Go.Lib.indexByte_some hk).1
  have:=hl _ _ this
  omega
theorem indexByte_in {l:List UInt8} {c:UInt8}:(0≤Go.Lib.indexByte l c) ↔ l.contains c=true:=by
 have hge:=Go.Lib.indexByte_ge l c
 constructor
 ·intro h
  obtain ⟨k,hk⟩:∃ k:Nat,Go.Lib.indexByte l c=k:=⟨(Go.Lib.indexByte l c).toNat,by omega⟩
  have:=(Go.Lib.indexByte_some hk).1
  rw [Y24]
  exact Yr this
 ·intro h
  by_cases e:Go.Lib.indexByte l c=-1
  ·have:=Go.Lib.indexByte_none e
   rw [Y24] at h
   obtain ⟨k,hk⟩:=Y1j.1 h
   exact absurd hk (this k)
  ·omega
theorem Xq {s:List UInt8} {i:Nat} (h:i<s.length):s[i]?=some (at_ s i):=by
 rw [Y7 h,at_,Yk,Yd,Y7 h]; rfl
def Asc (s:List UInt8):Prop:=∀ (j:Nat) b,s[j]?=some b→b.toNat<128
def rv (s cs:List UInt8) (i:Nat):Int:=if (Go.Utf8.decode ⟨s.toArray⟩ i).1<128 then Go.Lib.indexByte cs (UInt8.ofNat (Go.Utf8.decode ⟨s.toArray⟩ i).1) else -1
theorem Xky {s cs:List UInt8} (hcs:Asc cs) {i:Nat} (hi:i<s.length) (hno:Go.Lib.NoAny s cs i) :
  (0≤rv s cs i→Go.Lib.indexAny s cs=i)∧(rv s cs i<0→Go.Lib.NoAny s cs (i+(Go.Utf8.decode ⟨s.toArray⟩ i).2)∧i+(Go.Utf8.decode ⟨s.toArray⟩ i).2≤s.length∧1≤(Go.Utf8.decode ⟨s.toArray⟩ i).2):=by
 unfold rv
 rcases Yv (at_ s (i:Int)).toNat 128 with h | h
 ·rw [X7y s i hi h]
  dsimp only
  rw [if_pos h,show UInt8.ofNat (at_ s (i:Int)).toNat=at_ s (i:Int) by simp,indexByte_in]
  refine ⟨fun hc=>Go.Lib.indexAny_hit hno (Xq hi) hc,fun hc=>⟨hno.succ (Xq hi) ?_,by omega,by omega⟩⟩
  cases hb:cs.contains (at_ s (i:Int)) with
  | false=>rfl
  | true=>have:=indexByte_in.2 hb; omega
 ·obtain ⟨h1,h2,h3,h4,h5⟩:=Xb5 s i hi h
  rw [if_neg (by omega)]
  refine ⟨fun hc=>by omega,fun _=>⟨fun j b hj hb=>?_,h4,h3⟩⟩
  rcases Yv j i with hji | hji
  ·exact hno j b hji hb
  ·have hb2:=h5 j hji hj
   have hjl:j<s.length:=(Y4.1 hb).1
   rw [Xq hjl] at hb
   cases hb
   cases hc:cs.contains (at_ s (j:Int)) with
   | false=>rfl
   | true =>
    rw [Y24] at hc
    obtain ⟨k,hk⟩:=Y1j.1 hc
    have:=hcs k _ hk
    omega
end Ul
namespace Go.Proofs
open Go.Shelf
open Go.RowKit in
open Go.RowKit in
open Go.RowKit in
open Go.RowKit in
open Go.RowKit in
def Tryz.lays119_ren:Go.Shelf.Ren:=⟨fun | 119=>213 | n=>n,fun | 21=>21 | 4=>4 | n=>n,fun | n=>n⟩
theorem Tryz.lays119:Go.Proofs.Lays.n119 Tryz.prog Tryz.lays119_ren:={
 mixed:=by kernel_rfl
 f119:=Qf213.trans (congrArg some (by kernel_rfl))
 t4:=Qu4
 a4:=Qg4
 z4:=Qs4
 v4:=Qz4
 t21:=Qu21
 a21:=Qg21
 z21:=Qs21
 v21:=Qz21 }
theorem Tryz.utf8_ValidRune (r:Int) (w:World) :
  Calls Tryz.prog 213 #[.int .i32 r] w fun e w'=>e=.returned (.bool (Lib.validRune r))∧w'=w:=Any.utf8_ValidRune Tryz.lays119 r w
def Tryz.lays137_ren:Go.Shelf.Ren:=⟨fun | 137=>179 | 217=>209 | 266=>234 | n=>n,fun | 9=>9 | 5=>5 | 3=>3 | n=>n,fun | n=>n⟩
theorem Tryz.lays137:Go.Proofs.Lays.n137 Tryz.prog Tryz.lays137_ren:={
 mixed:=by kernel_rfl
 f137:=Qf179.trans (congrArg some (by kernel_rfl))
 f217:=Qf209.trans (congrArg some (by kernel_rfl))
 f266:=Qf234.trans (congrArg some (by kernel_rfl))
 t3:=Qu3
 a3:=Qg3
 z3:=Qs3
 v3:=Qz3
 t5:=Qu5
 a5:=Qg5
 z5:=Qs5
 v5:=Qz5
 t9:=Qu9
 a9:=Qg9
 z9:=Qs9
 v9:=Qz9 }
open Go.RowKit in
theorem Tryz.strings_IndexByte (s:ByteArray) (c:Int) (w:World) :
  Calls Tryz.prog 179 #[.string s,.int .u8 c] w fun e w'=>e=.returned (.int .i64 (Lib.indexByte s.data.toList c.toNat.toUInt8))∧w'=w:=Any.strings_IndexByte Tryz.lays137 s c w
open Go.RowKit in
open Go.Lib in
open Go.Lib in
open Go.Lib in
open Go.Lib in
open Go.RowKit Go.Sort Go.Lib in
open Go.RowKit Go.Sort Go.Lib in
open Go.RowKit Go.Sort Go.Lib in
open Go.RowKit Go.Sort Go.Lib in
open Go.RowKit Go.Sort Go.Lib in
def Tryz.laysM171_ren:Go.Shelf.Ren:=⟨fun | 171=>94 | 243=>144 | 246=>184 | 283=>218 | 284=>219 | 285=>220 | 286=>221 | 129=>241 | 317=>240 | 318=>242 | 319=>243 | 320=>244 | 337=>250 | 338=>251 | n=>n,fun | 3=>3 | 9=>9 | 2=>2 | 4=>4 | 171=>260 | 0=>0 | 53=>104 | 37=>172 | 5=>5 | 173=>263 | 212=>281 | 51=>275 | 20=>20 | 213=>282 | 46=>253 | 232=>294 | 233=>295 | n=>n,fun | 17=>3 | 18=>7 | 19=>8 | n=>n⟩
theorem Tryz.laysM171:Go.Proofs.LaysM.n171 Tryz.prog Tryz.laysM171_ren:={
 mixed:=by kernel_rfl
 f129:=Tryz.func241.trans (congrArg some (by kernel_rfl))
 f171:=Tryz.func94.trans (congrArg some (by kernel_rfl))
 f243:=Tryz.func144.trans (congrArg some (by kernel_rfl))
 f246:=Tryz.func184.trans (congrArg some (by kernel_rfl))
 f283:=Tryz.func218.trans (congrArg some (by kernel_rfl))
 f284:=Tryz.func219.trans (congrArg some (by kernel_rfl))
 f285:=Tryz.func220.trans (congrArg some (by kernel_rfl))
 f286:=Tryz.func221.trans (congrArg some (by kernel_rfl))
 f317:=Tryz.func240.trans (congrArg some (by kernel_rfl))
 f318:=Tryz.func242.trans (congrArg some (by kernel_rfl))
 f319:=Tryz.func243.trans (congrArg some (by kernel_rfl))
 f320:=Tryz.func244.trans (congrArg some (by kernel_rfl))
 f337:=Tryz.func250.trans (congrArg some (by kernel_rfl))
 f338:=Tryz.func251.trans (congrArg some (by kernel_rfl))
 t0:=Qu0
 a0:=Qg0
 z0:=Qs0
 v0:=Qz0
 t2:=Tryz.underlying2
 a2:=Tryz.isAgg2
 z2:=Tryz.sizeOf2
 v2:=Tryz.zeroValue2
 t3:=Qu3
 a3:=Qg3
 z3:=Qs3
 v3:=Qz3
 t4:=Qu4
 a4:=Qg4
 z4:=Qs4
 v4:=Qz4
 t5:=Qu5
 a5:=Qg5
 z5:=Qs5
 v5:=Qz5
 t9:=Qu9
 a9:=Qg9
 z9:=Qs9
 v9:=Qz9
 t20:=Tryz.underlying20
 a20:=Tryz.isAgg20
 z20:=Tryz.sizeOf20
 v20:=Tryz.zeroValue20
 t37:=X19
 a37:=Xd2
 z37:=X7v
 v37:=Tryz.zeroValue172
 t46:=X5w
 a46:=Xhd
 z46:=Xhw
 v46:=Xi3
 t51:=Xos
 a51:=Tryz.isAgg275
 z51:=Tryz.sizeOf275
 v51:=Xnf
 t53:=Xop
 a53:=Tryz.isAgg104
 z53:=Xjy
 v53:=Tryz.zeroValue104
 t171:=Tryz.underlying260
 a171:=Tryz.isAgg260
 z171:=Tryz.sizeOf260
 v171:=Tryz.zeroValue260
 t173:=Tryz.underlying263
 a173:=Tryz.isAgg263
 z173:=Tryz.sizeOf263
 v173:=Tryz.zeroValue263
 t212:=Tryz.underlying281
 a212:=Tryz.isAgg281
 z212:=Tryz.sizeOf281
 v212:=Tryz.zeroValue281
 t213:=Tryz.underlying282
 a213:=Tryz.isAgg282
 z213:=Tryz.sizeOf282
 t232:=Tryz.underlying294
 a232:=Tryz.isAgg294
 z232:=Tryz.sizeOf294
 v232:=Tryz.zeroValue294
 t233:=Tryz.underlying295
 a233:=Tryz.isAgg295
 z233:=Tryz.sizeOf295
 v233:=Tryz.zeroValue295
 g17:=by kernel_rfl
 g18:=by kernel_rfl
 g19:=by kernel_rfl
 i0:=by kernel_rfl
 i2:=by kernel_rfl
 i3:=by kernel_rfl
 i4:=by kernel_rfl
 i5:=by kernel_rfl
 i9:=by kernel_rfl
 i20:=by kernel_rfl
 i37:=by kernel_rfl
 i46:=by kernel_rfl
 i51:=by kernel_rfl
 i53:=by kernel_rfl
 i171:=by kernel_rfl
 i173:=by kernel_rfl
 i212:=by kernel_rfl
 i232:=by kernel_rfl
 i233:=by kernel_rfl
 m17:=by kernel_rfl
 m18:=by kernel_rfl
 m19:=by kernel_rfl }
open Go.RowKit Go.Sort Go.Lib in
theorem Tryz.strconv_Itoa (n : Int) (h0 : -9223372036854775808 ≤ n) (h1 : n ≤ 9223372036854775807) (w : World) (htab : Lib.TabIs Tryz.prog w "internal/strconv.uint64pow10" .u64 Lib.pow10Tab) :
  Calls Tryz.prog 94 #[.int .i64 n] w fun e w'=>e=.returned (.string ⟨(Lib.itoa n).toArray⟩)∧∃ k os,w'=grow (w.drewN k) os:=Any.strconv_Itoa Tryz.laysM171 n h0 h1 w htab
open Go.RowKit Go.Sort Go.Lib in
open Go.RowKit Go.Lib in
open Go.RowKit Go.Lib in
open Go.RowKit Go.Lib in
open Go.RowKit Go.Lib in
open Go.RowKit Go.Lib in
open Go.RowKit Go.Lib in
open Go.RowKit Go.Lib in
open Go.RowKit Go.Lib in
open Go.RowKit Go.Lib in
def Tryz.lays145_ren:Go.Shelf.Ren:=⟨fun | 145=>86 | 220=>136 | 219=>174 | 217=>209 | 225=>210 | 224=>211 | 267=>212 | 266=>234 | 314=>235 | n=>n,fun | 9=>9 | 4=>4 | 59=>137 | 3=>3 | 5=>5 | 46=>253 | 146=>276 | 51=>275 | n=>n,fun | 1=>1 | n=>n⟩
theorem Tryz.lays145:Go.Proofs.Lays.n145 Tryz.prog Tryz.lays145_ren:={
 mixed:=by kernel_rfl
 f145:=Qf86.trans (congrArg some (by kernel_rfl))
 f217:=Qf209.trans (congrArg some (by kernel_rfl))
 f219:=Tryz.func174.trans (congrArg some (by kernel_rfl))
 f220:=Tryz.func136.trans (congrArg some (by kernel_rfl))
 f224:=Qf211.trans (congrArg some (by kernel_rfl))
 f225:=Qf210.trans (congrArg some (by kernel_rfl))
 f266:=Qf234.trans (congrArg some (by kernel_rfl))
 f267:=Tryz.func212.trans (congrArg some (by kernel_rfl))
 f314:=Tryz.func235.trans (congrArg some (by kernel_rfl))
 t3:=Qu3
 a3:=Qg3
 z3:=Qs3
 v3:=Qz3
 t4:=Qu4
 a4:=Qg4
 z4:=Qs4
 v4:=Qz4
 t5:=Qu5
 a5:=Qg5
 z5:=Qs5
 v5:=Qz5
 t9:=Qu9
 a9:=Qg9
 z9:=Qs9
 v9:=Qz9
 t46:=X5w
 a46:=Xhd
 z46:=Xhw
 v46:=Xi3
 t51:=Xos
 a51:=Tryz.isAgg275
 z51:=Tryz.sizeOf275
 v51:=Xnf
 t59:=Tryz.underlying137
 a59:=Tryz.isAgg137
 z59:=Tryz.sizeOf137
 v59:=Tryz.zeroValue137
 t146:=Tryz.underlying276
 a146:=Tryz.isAgg276
 z146:=Tryz.sizeOf276
 v146:=Tryz.zeroValue276
 g1:=by kernel_rfl }
open Go.RowKit Go.Lib in
theorem Tryz.strings_Cut (s sep:ByteArray) (m:Int) (w:World) (hs:s.size<4294967281) (hm:w.cell? ⟨1,0,none⟩=some (.int .i64 m)) :
  Calls Tryz.prog 86 #[.string s,.string sep] w fun e w'=>e=.returned (.tuple #[.string ⟨(Lib.cut s.data.toList sep.data.toList).1.toArray⟩,.string ⟨(Lib.cut s.data.toList sep.data.toList).2.1.toArray⟩,.bool (Lib.cut s.data.toList sep.data.toList).2.2])∧∃ n,w'=w.drewN n:=Any.strings_Cut Tryz.lays145 s sep m w hs hm
open Go.RowKit Go.Lib in
open Go.RowKit Go.Lib in
open Go.RowKit Go.Lib in
open Go.RowKit Go.Lib in
open Go.RowKit Go.Lib in
open Go.RowKit Go.Lib in
open Go.RowKit Go.Lib in
open Go.RowKit Go.Lib in
open Go.RowKit Go.Lib in
open Go.RowKit Go.Lib in
open Go.RowKit Go.Lib in
def Tryz.lays146_ren:Go.Shelf.Ren:=⟨fun | 146=>143 | 221=>183 | 268=>215 | 138=>216 | 143=>217 | 195=>237 | 197=>238 | 218=>239 | 219=>174 | 260=>249 | 217=>209 | 225=>210 | 224=>211 | 267=>212 | 266=>234 | 314=>235 | n=>n,fun | 9=>9 | 31=>57 | 3=>3 | 4=>4 | 0=>0 | 105=>278 | 21=>21 | 5=>5 | 46=>253 | 119=>290 | 139=>293 | 138=>292 | 146=>276 | 51=>275 | n=>n,fun | 1=>1 | 3=>5 | 4=>6 | n=>n⟩
theorem Tryz.lays146:Go.Proofs.Lays.n146 Tryz.prog Tryz.lays146_ren:={
 mixed:=by kernel_rfl
 f138:=Tryz.func216.trans (congrArg some (by kernel_rfl))
 f143:=Tryz.func217.trans (congrArg some (by kernel_rfl))
 f146:=Tryz.func143.trans (congrArg some (by kernel_rfl))
 f195:=Tryz.func237.trans (congrArg some (by kernel_rfl))
 f197:=Tryz.func238.trans (congrArg some (by kernel_rfl))
 f217:=Qf209.trans (congrArg some (by kernel_rfl))
 f218:=Tryz.func239.trans (congrArg some (by kernel_rfl))
 f219:=Tryz.func174.trans (congrArg some (by kernel_rfl))
 f221:=Tryz.func183.trans (congrArg some (by kernel_rfl))
 f224:=Qf211.trans (congrArg some (by kernel_rfl))
 f225:=Qf210.trans (congrArg some (by kernel_rfl))
 f260:=Tryz.func249.trans (congrArg some (by kernel_rfl))
 f266:=Qf234.trans (congrArg some (by kernel_rfl))
 f267:=Tryz.func212.trans (congrArg some (by kernel_rfl))
 f268:=Tryz.func215.trans (congrArg some (by kernel_rfl))
 f314:=Tryz.func235.trans (congrArg some (by kernel_rfl))
 t0:=Qu0
 a0:=Qg0
 z0:=Qs0
 v0:=Qz0
 t3:=Qu3
 a3:=Qg3
 z3:=Qs3
 v3:=Qz3
 t4:=Qu4
 a4:=Qg4
 z4:=Qs4
 v4:=Qz4
 t5:=Qu5
 a5:=Qg5
 z5:=Qs5
 v5:=Qz5
 t9:=Qu9
 a9:=Qg9
 z9:=Qs9
 v9:=Qz9
 t21:=Qu21
 a21:=Qg21
 z21:=Qs21
 v21:=Qz21
 t31:=X1f
 a31:=Xjw
 z31:=Xih
 v31:=Qz57
 t46:=X5w
 a46:=Xhd
 z46:=Xhw
 v46:=Xi3
 t51:=Xos
 a51:=Tryz.isAgg275
 z51:=Tryz.sizeOf275
 v51:=Xnf
 t105:=Tryz.underlying278
 a105:=Tryz.isAgg278
 z105:=Tryz.sizeOf278
 v105:=Tryz.zeroValue278
 t119:=Tryz.underlying290
 a119:=Tryz.isAgg290
 z119:=Tryz.sizeOf290
 t138:=Tryz.underlying292
 a138:=Tryz.isAgg292
 z138:=Tryz.sizeOf292
 v138:=Tryz.zeroValue292
 t139:=Tryz.underlying293
 a139:=Tryz.isAgg293
 z139:=Tryz.sizeOf293
 v139:=Tryz.zeroValue293
 t146:=Tryz.underlying276
 a146:=Tryz.isAgg276
 z146:=Tryz.sizeOf276
 v146:=Tryz.zeroValue276
 g1:=by kernel_rfl
 g3:=by kernel_rfl
 g4:=by kernel_rfl }
open Go.RowKit Go.Lib in
theorem Tryz.strings_Split (s sep:ByteArray) (m:Int) (w:World) (hs:s.size<4294967281) (hm:w.cell? ⟨1,0,none⟩=some (.int .i64 m)) (h1:1≤sep.size) :
  Calls Tryz.prog 143 #[.string s,.string sep] w fun e w' =>
   e=.returned (.slice (some ⟨w.heap.size,0,none⟩) (Lib.countB s sep+1) (Lib.countB s sep+1))∧w'=w.alloc (.cells ((Lib.splitB sep 0 (Lib.countB s sep) s).map Value.string).toArray 9):=Any.strings_Split Tryz.lays146 (by kernel_rfl) s sep m w hs hm h1
open Go.RowKit Go.Lib in
open Go.RowKit Go.Lib in
def Tryz.lays152_ren:Go.Shelf.Ren:=⟨fun | 152=>175 | 137=>179 | 119=>213 | 224=>211 | 225=>210 | 217=>209 | 266=>234 | n=>n,fun | 9=>9 | 21=>21 | 3=>3 | 4=>4 | 5=>5 | 0=>0 | 46=>253 | n=>n,fun | n=>n⟩
theorem Tryz.lays152:Go.Proofs.Lays.n152 Tryz.prog Tryz.lays152_ren:={
 mixed:=by kernel_rfl
 f119:=Qf213.trans (congrArg some (by kernel_rfl))
 f137:=Qf179.trans (congrArg some (by kernel_rfl))
 f152:=Qf175.trans (congrArg some (by kernel_rfl))
 f217:=Qf209.trans (congrArg some (by kernel_rfl))
 f224:=Qf211.trans (congrArg some (by kernel_rfl))
 f225:=Qf210.trans (congrArg some (by kernel_rfl))
 f266:=Qf234.trans (congrArg some (by kernel_rfl))
 t0:=Qu0
 a0:=Qg0
 z0:=Qs0
 v0:=Qz0
 t3:=Qu3
 a3:=Qg3
 z3:=Qs3
 v3:=Qz3
 t4:=Qu4
 a4:=Qg4
 z4:=Qs4
 v4:=Qz4
 t5:=Qu5
 a5:=Qg5
 z5:=Qs5
 v5:=Qz5
 t9:=Qu9
 a9:=Qg9
 z9:=Qs9
 v9:=Qz9
 t21:=Qu21
 a21:=Qg21
 z21:=Qs21
 v21:=Qz21
 t46:=X5w
 a46:=Xhd
 z46:=Xhw
 v46:=Xi3 }
open Go.RowKit Go.Lib in
theorem Tryz.strings_IndexRune_ascii (s:ByteArray) (r:Int) (w:World) (h0:0≤r) (h1:r<128) :
  Calls Tryz.prog 175 #[.string s,.int .i32 r] w fun e w'=>e=.returned (.int .i64 (Lib.indexByte s.data.toList r.toNat.toUInt8))∧w'=w:=Any.strings_IndexRune_ascii Tryz.lays152 s r w h0 h1
open Go.RowKit Go.Lib in
open Go.RowKit Go.Lib in
def Tryz.lays153_ren:Go.Shelf.Ren:=⟨fun | 153=>137 | 152=>175 | 226=>176 | 227=>177 | 228=>178 | 137=>179 | 119=>213 | 224=>211 | 225=>210 | 217=>209 | 266=>234 | n=>n,fun | 9=>9 | 3=>3 | 4=>4 | 5=>5 | 21=>21 | 117=>215 | 116=>214 | 0=>0 | 46=>253 | 124=>255 | n=>n,fun | n=>n⟩
theorem Tryz.lays153:Go.Proofs.Lays.n153 Tryz.prog Tryz.lays153_ren:={
 mixed:=by kernel_rfl
 f119:=Qf213.trans (congrArg some (by kernel_rfl))
 f137:=Qf179.trans (congrArg some (by kernel_rfl))
 f152:=Qf175.trans (congrArg some (by kernel_rfl))
 f153:=Tryz.func137.trans (congrArg some (by kernel_rfl))
 f217:=Qf209.trans (congrArg some (by kernel_rfl))
 f224:=Qf211.trans (congrArg some (by kernel_rfl))
 f225:=Qf210.trans (congrArg some (by kernel_rfl))
 f226:=Tryz.func176.trans (congrArg some (by kernel_rfl))
 f227:=Tryz.func177.trans (congrArg some (by kernel_rfl))
 f228:=Tryz.func178.trans (congrArg some (by kernel_rfl))
 f266:=Qf234.trans (congrArg some (by kernel_rfl))
 t0:=Qu0
 a0:=Qg0
 z0:=Qs0
 v0:=Qz0
 t3:=Qu3
 a3:=Qg3
 z3:=Qs3
 v3:=Qz3
 t4:=Qu4
 a4:=Qg4
 z4:=Qs4
 v4:=Qz4
 t5:=Qu5
 a5:=Qg5
 z5:=Qs5
 v5:=Qz5
 t9:=Qu9
 a9:=Qg9
 z9:=Qs9
 v9:=Qz9
 t21:=Qu21
 a21:=Qg21
 z21:=Qs21
 v21:=Qz21
 t46:=X5w
 a46:=Xhd
 z46:=Xhw
 v46:=Xi3
 t116:=Tryz.underlying214
 a116:=Tryz.isAgg214
 z116:=Tryz.sizeOf214
 t117:=Tryz.underlying215
 a117:=Tryz.isAgg215
 z117:=Tryz.sizeOf215
 v117:=Tryz.zeroValue215
 t124:=Tryz.underlying255
 a124:=Tryz.isAgg255
 z124:=Tryz.sizeOf255
 v124:=Tryz.zeroValue255 }
open Go.RowKit Go.Lib in
open Go.RowKit Go.Lib in
open Go.RowKit Go.Lib in
open Go.RowKit Go.Lib in
open Go.RowKit Go.Lib in
open Go.RowKit Go.Lib in
theorem Tryz.strings_IndexAny_long (hv116:∀ w,(zeroValue 214).run Tryz.prog w=.ok (.agg (Array.replicate 256 (.bool false))) w) (s chars:ByteArray) (w:World) (h2:2≤chars.size) (h8:8<s.size) (hs:s.size<4294967281) (hcs:chars.size<4294967281) (hascii:∀ (j:Nat) b,chars.data.toList[j]?=some b→b.toNat<128) :
  Calls Tryz.prog 137 #[.string s,.string chars] w fun e w'=>e=.returned (.int .i64 (Lib.indexAny s.data.toList chars.data.toList))∧w'=((w.alloc (.cells (Lib.setCells chars.data.toList) 214)).alloc (.cells (Lib.setCells chars.data.toList) 214)):=Any.strings_IndexAny_long Tryz.lays153 hv116 (by kernel_rfl) s chars w h2 h8 hs hcs hascii
open Go.RowKit Go.Lib in
open Go.RowKit Go.Lib in
open Go.RowKit Go.Lib in
open Go.RowKit Go.Lib in
def Tryz.laysNm216_ren:Go.Shelf.Ren:=⟨fun | 16=>157 | n=>n,fun | 24=>57 | 9=>9 | 4=>4 | n=>n,fun | n=>n⟩
theorem Tryz.laysNm216:Go.Proofs.Lays2.n16 Tryz.prog Tryz.laysNm216_ren:={
 mixed:=by kernel_rfl
 f16:=Tryz.func157.trans (congrArg some (by kernel_rfl))
 t4:=Qu4
 a4:=Qg4
 z4:=Qs4
 v4:=Qz4
 t9:=Qu9
 a9:=Qg9
 z9:=Qs9
 v9:=Qz9
 t24:=X1f
 a24:=Xjw
 z24:=Xih
 v24:=Qz57
 i9:=by kernel_rfl }
open Go.RowKit Go.Lib in
theorem Tryz.slices_Clone_string (b off n c:Nat) (zs:List ByteArray) (w:World) (hz:n≤zs.length) (hbig:n*16≤140737488355328) (hc:∀ j,j<zs.length→w.cell? ⟨b,off+j,none⟩=some (.string (zs.getD j ByteArray.empty))) :
  Calls Tryz.prog 157 #[.slice (some ⟨b,off,none⟩) n c] w fun e w'=>∃ v',e=.returned v'∧w'.ownsRow w.heap.size 9 1 v' n ((zs.take n).map (Value.string))∧v'≠.slice none 0 0∧Below w.heap.size w w':=Any.slices_Clone_string Tryz.laysNm216 b off n c zs w hz hbig hc
open Go.RowKit Go.Lib in
theorem Tryz.slices_Clone_string_nil (n c:Nat) (w:World) :
  Calls Tryz.prog 157 #[.slice none n c] w fun e w'=>e=.returned (.slice none 0 0)∧w'=w:=Any.slices_Clone_string_nil Tryz.laysNm216 n c w
open Go.RowKit Go.Lib in
theorem Tryz.slices_Clone_string_zero (a:Addr) (c:Nat) (w:World) :
  Calls Tryz.prog 157 #[.slice (some a) 0 c] w fun e w'=>∃ v',e=.returned v'∧w'.ownsRow w.heap.size 9 1 v' 0 []∧v'≠.slice none 0 0∧Below w.heap.size w w':=Any.slices_Clone_string_zero Tryz.laysNm216 a c w
end Go.Proofs
namespace Go.Proofs.YtfibbpgikjggfaaGreatDoor
open Gk Pc Ul
theorem X3l (s:List UInt8) (c:UInt8) (w:World):Calls Tryz.prog 179 [S s,U8 c.toNat].toArray w (Ret fun v w'=>v=I64 (Go.Lib.indexByte s c)∧w=w') :=
 (Tryz.strings_IndexByte ⟨s.toArray⟩ c.toNat w).mono fun e w' he=>by
  obtain ⟨rfl,rfl⟩:=he
  refine ⟨_,rfl,?_,rfl⟩
  congr 2
  simp
theorem Xo5 (s:List UInt8) (w:World) :
  Calls Tryz.prog 140 [S s].toArray w (Ret fun v w'=>v=I64 (Xju s:Nat)∧w=w'):=by
 refine calls Tryz.func140 rfl Tryz.ntmps140 rfl (.seq (.q 1 rfl (.seq (.seq (.q 2 rfl ?_)))))
 refine WC.cond rfl (fun hb4=>?_) (fun hb4=>?_)
 ·
  have hc4:=hb4; try simp only [Y5] at hc4
  refine .seq (.q 1 rfl (.ret (Xe Tryz.results140 rfl ?_)))
  exact ⟨_,rfl,by rw [Xju,if_pos (show s=X3t from hc4)]; rfl,rfl⟩
 have hc4:=hb4; try simp only [Y5] at hc4
 refine .skip (.seq (.q 1 rfl (.ret (Xe Tryz.results140 rfl ?_))))
 exact ⟨_,rfl,by rw [Xju,if_neg (show ¬ s=X3t from hc4)]; rfl,rfl⟩
theorem Xby (s:List UInt8) (hl:s.length≤1000000) (B w:World) (I:Im) (As:List X9) (hS:Sat B w I As) :
  Calls Tryz.prog 87 [S s].toArray w (Ret fun v w'=>v=S (low s)∧Sat B w' I As):=by
 refine calls Tryz.func87 rfl Tryz.ntmps87 rfl (.seq (.q 1 rfl (.seq (.t 1 rfl (.strBytes (s:=s) hS (.of rfl) Qu9 X19 Qu5 rfl ?_)))))
 clear hS; intro m7 cap7 r7 w hS
 refine .q 1 rfl (.nil (.seq (.seq (.region (.run 3 rfl ⟨⟨_,X19⟩,trivial⟩ (.nil (.block ?_)))))))
 refine WC.loop (σ:=Nat) (fun i=>[(3,.slice (some (ad m7 0)) s.length cap7),(8,.slice (some (ad m7 0)) s.length cap7),(9,I64 (s.length:Nat)),(10,I64 (i:Nat))]) (fun i w=>i≤s.length∧Sat B w I (blkM m7 (bcs (mid s i) ++ List.replicate r7 (Value.int .u8 0)) 5::As)) (fun i=>s.length - i) 0 ⟨rfl,rfl,rfl,rfl,trivial⟩ ⟨Yp _,by rw [Xlf]; exact hS⟩ ?_
 rintro i w ⟨hi,hS⟩
 change WC _ _ _ _ [(3,.slice (some (ad m7 0)) s.length cap7),(8,.slice (some (ad m7 0)) s.length cap7),(9,I64 (s.length:Nat)),(10,I64 (i:Nat))] w
 refine .seq (.q 1 rfl (.seq ?_))
 refine WC.cond rfl (fun hb11=>?_) (fun hb11=>?_)
 ·
  have hc11:=hb11; try simp only [Y5] at hc11
  refine .skip (.seq (.block (.seq ?_)))
  have hl1:(bcs (mid s i)).length=s.length:=by rw [Y13,Xiz]
  have hld:(bcs (mid s i) ++ List.replicate r7 (Value.int .u8 0))[i]?=some (U8 (at_ s i).toNat):=by
   rw [Yi (by omega),Yx,Xmj s i (by omega)]; rfl
  refine .t 1 rfl (.val (.indexAddr (.of rfl) (.of rfl) (by omega) (by omega) X19 Qs5) rfl ?_)
  refine WL.val (.ldM (.of rfl) hS (k:=0) rfl Qg5 (by rw [Yf,Yk,Y1i]; exact hld)) rfl ?_
  refine .q 2 rfl (.nil (.seq (.t 3 rfl (.gval rfl rfl (fun hg1=>(.move (.of rfl))) rfl (.gval rfl rfl (fun hg1=>(.leq (.gd hg1 rfl) (.of rfl))) rfl (.val (.pand (.of rfl) (.of rfl) (.of rfl)) rfl (.nil ?_)))))))
  refine WC.cond rfl (fun hb20=>?_) (fun hb20=>?_)
  ·
   have hc20:=hb20; try simp only [Y5] at hc20
   refine .t 3 rfl (.val (.addw (.of rfl) (.of rfl)) rfl (.val (.subw (.of rfl) (.of rfl)) rfl (.val (.indexAddr (.of rfl) (.of rfl) (by omega) (by omega) X19 Qs5) rfl ?_)))
   refine WL.st1M hS (k:=0) rfl (.of rfl) (.of rfl) rfl Qs5 (by rw [Y0,hl1,Y30]; omega) ?_
   clear hS; intro w hS; try dsimp only [List.set] at hS
   refine .nil (.region (.run 2 rfl ⟨⟨by omega,by omega⟩,trivial⟩ (.nil ?_)))
   refine ⟨i+1,⟨rfl,rfl,rfl,rfl,trivial⟩,⟨by omega,?_⟩,by omega⟩
   have e:=Xed s i (by omega)
   rw [Yf,Yk,Y1i] at hS
   rw [Y3p _ _ (by omega),show Value.int .u8 (IntKind.u8.wrap ((IntKind.u8.wrap (((at_ s (i:Int)).toNat:Int)+97)) - 65))=U8 (lo (at_ s (i:Int))).toNat by
    have:=lo_up (c:=at_ s (i:Int)) (by simpa only [Yn,decide_eq_true_eq] using hb20)
    rw [this,IntKind.wrap_u8,IntKind.wrap_u8]; congr 1; omega,← List.map_set,e] at hS
   exact hS
  have hc20:=hb20; try simp only [Y5] at hc20
  refine .skip (.region (.run 2 rfl ⟨⟨by omega,by omega⟩,trivial⟩ (.nil ?_)))
  refine ⟨i+1,⟨rfl,rfl,rfl,rfl,trivial⟩,⟨by omega,?_⟩,by omega⟩
  rw [← Xme s i (by omega) (lo_no (fun hh=>by
   have:(decide (65≤((at_ s (i:Int)).toNat:Int)) && decide (((at_ s (i:Int)).toNat:Int)≤90))=true:=by simp only [Yn,decide_eq_true_eq]; exact hh
   rw [this] at hb20; cases hb20))]
  exact hS
 have hc11:=hb11; try simp only [Y5] at hc11
 refine .exit (.seq (.t 1 rfl ?_))
 refine WL.val (.bytesStrM (l:=low s) (b:=m7) (o:=0) (cap:=cap7) (.of (by rw [X1k]; rfl)) hS (k:=0) rfl X19 Qu5 Qu9 (fun j hj=>by
  rw [X1k] at hj
  rw [Yf,Yi (by rw [Y13,Xiz]; omega),Yx,Xn7 s i (by omega),Y7 (by rw [X1k]; omega)]
  rfl)) rfl ?_
 refine .q 1 rfl (.nil (.ret (Xe Tryz.results87 rfl ?_)))
 exact ⟨_,rfl,rfl,hS.drop (k:=0) rfl⟩
theorem Xli (s:List UInt8) (w:World) :
  Calls Tryz.prog 89 [S s].toArray w (Ret fun v w'=>v=.bool (X25 s)∧w=w'):=by
 obtain ⟨w0,hw0⟩:∃ w0,w=w0:=⟨_,rfl⟩
 rw [show (fun (v:Value) (w':World)=>v=.bool (X25 s)∧w=w')=(fun v w'=>v=.bool (X25 s)∧w0=w') by rw [hw0]]
 refine calls Tryz.func89 rfl Tryz.ntmps89 rfl (.seq (.q 1 rfl (.seq (.seq (.t 3 rfl (.gval rfl rfl (fun hg1=>(.move (.of rfl))) rfl (.gval rfl rfl (fun hg1=>(.len (.gd hg1 rfl) Qu9)) rfl (.gval rfl rfl (fun hg1=>(.gtr (.gd hg1 rfl) (.of rfl))) rfl (.val (.por (.of rfl) (.of rfl) (.of rfl)) rfl (.nil ?_))))))))))
 refine WC.cond rfl (fun hb11=>?_) (fun hb11=>?_)
 ·
  have hc11:=hb11; try simp only [Y5] at hc11
  refine .seq (.q 1 rfl (.ret (Xe Tryz.results89 rfl ?_)))
  refine ⟨_,rfl,?_,hw0.symm⟩
  congr 1
  rw [X25]
  rcases Y22.1 hb11 with h | h
  ·rw [show s=[] by simpa using h]; rfl
  ·simp only [decide_eq_true_eq] at h
   rw [show decide (64<s.length)=true from decide_eq_true (by omega)]; simp
 have hc11:=hb11; try simp only [Y5] at hc11
 refine .skip (.seq (.seq (.region (.run 3 rfl ⟨Qu9,trivial⟩ (.nil (.block (.loop (σ:=Nat) (fun i=>[(0,S s),(13,I64 (s.length:Nat)),(14,I64 (i:Nat))]) (fun i w=>i≤s.length∧(∀ j,j<i→j<s.length→X73 (at_ s (j:Int))=true)∧w=w0) (fun i=>s.length - i) 0 ⟨rfl,rfl,rfl,trivial⟩ ⟨Yp _,fun _ h=>absurd h (by omega),hw0⟩ ?_)))))))
 rintro i w ⟨hi,hok,hw⟩
 change WC _ _ _ _ [(0,S s),(13,I64 (s.length:Nat)),(14,I64 (i:Nat))] w
 refine .seq (.q 1 rfl (.seq ?_))
 refine WC.cond rfl (fun hb15=>?_) (fun hb15=>?_)
 ·
  have hc15:=hb15; try simp only [Y5] at hc15
  refine .skip (.seq (.block (.seq (.q 2 rfl (.seq (.region (.run 4 rfl ⟨⟨⟨by omega,by omega⟩,Qu9⟩,trivial⟩ (.nil (.seq (.t 1 rfl (.call Xmd rfl (X0 (.of rfl) X4) rfl (X7t _ _) ?_)))))))))))
  rintro _ _ ⟨rfl,rfl⟩
  refine .q 2 rfl (.gval rfl rfl (fun hg1=>(.move (.of rfl))) rfl (.gval rfl rfl (fun hg1=>(.eql (.gd hg1 rfl) (.of rfl))) rfl (.val (.por (.of rfl) (.of rfl) (.of rfl)) rfl (.q 1 rfl (.gval rfl rfl (fun hg1=>(.move (.of rfl))) rfl (.gval rfl rfl (fun hg1=>(.eql (.gd hg1 rfl) (.of rfl))) rfl (.val (.por (.of rfl) (.of rfl) (.of rfl)) rfl (.nil ?_))))))))
  refine WC.cond rfl (fun hb30=>?_) (fun hb30=>?_)
  ·
   have hc30:=hb30; try simp only [Y5] at hc30
   refine .seq (.q 1 rfl (.ret (Xe Tryz.results89 rfl ?_)))
   refine ⟨_,rfl,?_,hw.symm⟩
   rw [Xbd] at hb30
   rw [X25,X69 (p:=X73) (i:=i) (by omega) (by simpa using hb30),Y4j]
  have hc30:=hb30; try simp only [Y5] at hc30
  refine .skip (.region (.run 2 rfl ⟨⟨by omega,by omega⟩,trivial⟩ (.nil ?_)))
  refine ⟨i+1,⟨rfl,rfl,rfl,trivial⟩,⟨by omega,fun j hj hjl=>?_,hw⟩,by omega⟩
  rcases Yv j i with h1 | h1
  ·exact hok j h1 hjl
  ·have e:j=i:=by omega
   subst e
   rw [Xbd] at hb30
   simpa using hb30
 have hc15:=hb15; try simp only [Y5] at hc15
 refine .exit (.seq (.q 1 rfl (.ret (Xe Tryz.results89 rfl ?_))))
 refine ⟨_,rfl,?_,hw.symm⟩
 rw [X25,X6w hok (by omega),Y4b]
 obtain ⟨h1,h2⟩:=(Y1g).1 hb11
 rw [show decide (64<s.length)=false from decide_eq_false (by simp only [decide_eq_false_iff_not] at h2; omega),show s.isEmpty=false by cases s with | nil=>simp at h1 | cons a b=>rfl]
 rfl
theorem Xg3 (s:List UInt8) (hl:s.length≤1000000) (w:World) :
  Calls Tryz.prog 141 [S s].toArray w (Ret fun v w'=>v=.bool (s.all X14)∧w=w'):=by
 obtain ⟨w0,hw0⟩:∃ w0,w=w0:=⟨_,rfl⟩
 rw [show (fun (v:Value) (w':World)=>v=.bool (s.all X14)∧w=w')=(fun v w'=>v=.bool (s.all X14)∧w0=w') by rw [hw0]]
 refine calls Tryz.func141 rfl Tryz.ntmps141 rfl (.seq (.q 1 rfl (.seq (.seq (.region (.run 3 rfl ⟨Qu9,trivial⟩ (.nil (.block (.loop (σ:=Nat) (fun i=>[(0,S s),(6,I64 (s.length:Nat)),(7,I64 (i:Nat))]) (fun i w=>i≤s.length∧(∀ j,j<i→j<s.length→X14 (at_ s (j:Int))=true)∧w=w0) (fun i=>s.length - i) 0 ⟨rfl,rfl,rfl,trivial⟩ ⟨Yp _,fun _ h=>absurd h (by omega),hw0⟩ ?_)))))))))
 rintro i w ⟨hi,hok,hw⟩
 change WC _ _ _ _ [(0,S s),(6,I64 (s.length:Nat)),(7,I64 (i:Nat))] w
 refine .seq (.q 1 rfl (.seq ?_))
 refine WC.cond rfl (fun hb8=>?_) (fun hb8=>?_)
 ·
  have hc8:=hb8; try simp only [Y5] at hc8
  refine .skip (.seq (.block (.seq (.q 2 rfl (.seq (.region (.run 4 rfl ⟨⟨⟨by omega,by omega⟩,Qu9⟩,trivial⟩ (.nil (.seq (.t 3 rfl (.gval rfl rfl (fun hg1=>(.move (.of rfl))) rfl (.gval rfl rfl (fun hg1=>(.gtr (.gd hg1 rfl) (.of rfl))) rfl (.val (.por (.of rfl) (.of rfl) (.of rfl)) rfl (.q 1 rfl (.gval rfl rfl (fun hg1=>(.move (.of rfl))) rfl ?_)))))))))))))))
  refine WL.gcall (T:=fun w=>w=w0) rfl rfl rfl Qf179 rfl (fun hg1=>(X0 (.of rfl) (X0 (.gd hg1 rfl) X4))) rfl (fun hg1=>(X3l BAD (at_ s (i:Int)) _).mono (fun e w2 he=>by obtain ⟨v,a,b,c⟩:=he; exact ⟨v,a,b,by rw [← c]; exact hw⟩)) hw ?_
  rintro w hw
  refine .gval rfl rfl (fun hg1=>(.geq (.gd hg1 rfl) (.of rfl))) rfl (.val (.por (.of rfl) (.of rfl) (.of rfl)) rfl (.nil ?_))
  refine WC.cond rfl (fun hb23=>?_) (fun hb23=>?_)
  ·
   have hc23:=hb23; try simp only [Y5] at hc23
   refine .seq (.q 1 rfl (.ret (Xe Tryz.results141 rfl ?_)))
   refine ⟨_,rfl,?_,hw.symm⟩
   rw [X9l] at hb23
   rw [X69 (p:=X14) (i:=i) (by omega) (by simpa using hb23)]
  have hc23:=hb23; try simp only [Y5] at hc23
  refine .skip (.region (.run 2 rfl ⟨⟨by omega,by omega⟩,trivial⟩ (.nil ?_)))
  refine ⟨i+1,⟨rfl,rfl,rfl,trivial⟩,⟨by omega,fun j hj hjl=>?_,hw⟩,by omega⟩
  rcases Yv j i with h1 | h1
  ·exact hok j h1 hjl
  ·have e:j=i:=by omega
   subst e
   rw [X9l] at hb23
   simpa using hb23
 have hc8:=hb8; try simp only [Y5] at hc8
 refine .exit (.seq (.q 1 rfl (.ret (Xe Tryz.results141 rfl ?_))))
 refine ⟨_,rfl,?_,hw.symm⟩
 rw [X6w hok (by omega)]
theorem Xhm (s:List UInt8) (i:Nat) (h4:i≤4) (h:∀ j,j<i→j<s.length→X8u (at_ s (j:Int))=true):val (s.take i)≤9999:=by
 have step:∀ k,k≤i→val (s.take k)+1≤10 ^ k:=by
  intro k
  induction k with
  | zero=>intro _; simp [val]
  | succ k ih =>
   intro hk
   have:=ih (by omega)
   rcases Yv k s.length with hl | hl
   ·rw [X3o s k hl,Y3n]
    have hd:=h k (by omega) hl
    simp only [X8u,Yn,decide_eq_true_eq,Y23] at hd
    have e1:(48:UInt8).toNat=48:=rfl
    have e2:(57:UInt8).toNat=57:=rfl
    rw [e1,e2] at hd
    omega
   ·rw [show s.take (k+1)=s.take k by rw [Y11 (by omega),Y11 (by omega)],Y3n]
    omega
 have h1:=step i (Ys _)
 have h2:10 ^ i≤10 ^ 4:=Nat.pow_le_pow_right (by decide) h4
 have h3:10 ^ 4=10000:=by decide
 omega
theorem Xm1 (s sch:List UInt8) (hl:s.length≤1000000) (w:World) :
  Calls Tryz.prog 91 [S s,S sch].toArray w (Ret fun v w'=>v=(if Xu s then Value.tuple #[I64 (X3k s sch:Nat),.bool true] else .tuple #[I64 0,.bool false])∧w=w'):=by
 obtain ⟨w0,hw0⟩:∃ w0,w=w0:=⟨_,rfl⟩
 rw [show (fun (v:Value) (w':World)=>v=(if Xu s then Value.tuple #[I64 (X3k s sch:Nat),.bool true] else .tuple #[I64 0,.bool false])∧w=w')=(fun v w'=>v=(if Xu s then Value.tuple #[I64 (X3k s sch:Nat),.bool true] else .tuple #[I64 0,.bool false])∧w0=w') by rw [hw0]]
 refine calls Tryz.func91 rfl Tryz.ntmps91 rfl (.seq (.q 2 rfl (.seq (.q 1 rfl (.seq (.seq (.region (.run 3 rfl ⟨Qu9,trivial⟩ (.nil (.block (.loop (σ:=Nat) (fun i=>[(0,S s),(1,S sch),(6,I64 (val (s.take i):Nat)),(10,I64 (s.length:Nat)),(11,I64 (i:Nat))]) (fun i w=>i≤s.length∧i≤5∧(∀ j,j<i→j<s.length→X8u (at_ s (j:Int))=true)∧(0<i→at_ s 0≠48)∧w=w0) (fun i=>s.length - i) 0 ⟨rfl,rfl,rfl,rfl,rfl,trivial⟩ ⟨Yp _,by decide,fun _ h=>absurd h (by omega),fun h=>absurd h (by omega),hw0⟩ ?_)))))))))))
 rintro i w ⟨hi,hi5,hok,h0,hw⟩
 change WC _ _ _ _ [(0,S s),(1,S sch),(6,I64 (val (s.take i):Nat)),(10,I64 (s.length:Nat)),(11,I64 (i:Nat))] w
 refine .seq (.q 1 rfl (.seq ?_))
 refine WC.cond rfl (fun hb12=>?_) (fun hb12=>?_)
 ·
  have hc12:=hb12; try simp only [Y5] at hc12
  refine .skip (.seq (.block (.seq (.q 2 rfl (.seq (.region (.run 4 rfl ⟨⟨⟨by omega,by omega⟩,Qu9⟩,trivial⟩ (.nil (.seq (.seq (.t 3 rfl (.gval rfl rfl (fun hg1=>(.move (.of rfl))) rfl (.gval rfl rfl (fun hg1=>(.gtr (.gd hg1 rfl) (.of rfl))) rfl (.val (.por (.of rfl) (.of rfl) (.of rfl)) rfl (.q 1 rfl (.gval rfl rfl (fun hg1=>(.move (.of rfl))) rfl (.gval rfl rfl (fun hg1=>(.eql (.gd hg1 rfl) (.of rfl))) rfl (.gval rfl rfl (fun hg1=>(.move (.gd hg1 rfl))) rfl (.gval2 rfl rfl rfl (fun hg1 hg2=>(.move (.of rfl))) rfl (.gval2 rfl rfl rfl (fun hg1 hg2=>(.eql (.gd2 hg1 hg2 rfl) (.of rfl))) rfl (.gval rfl rfl (fun hg1=>(.pand (.gd hg1 rfl) (.gd hg1 rfl) (.of rfl))) rfl (.val (.por (.of rfl) (.of rfl) (.of rfl)) rfl (.q 1 rfl (.gval rfl rfl (fun hg1=>(.move (.of rfl))) rfl (.gval rfl rfl (fun hg1=>(.gtr (.gd hg1 rfl) (.of rfl))) rfl (.val (.por (.of rfl) (.of rfl) (.of rfl)) rfl (.nil ?_)))))))))))))))))))))))))))
  refine WC.cond rfl (fun hb34=>?_) (fun hb34=>?_)
  ·
   have hc34:=hb34; try simp only [Y5] at hc34
   refine .seq (.q 2 rfl (.ret (X1g Qr91 rfl rfl ?_)))
   have hbad:Xu s=false:=by
    have h:=hb34
    rcases Y22.1 h with h | h
    ·rcases Y22.1 h with h | h
     ·rw [X77] at h
      unfold Xu
      rw [X69 (p:=X8u) (i:=i) (by omega) (by simpa using h)]
      rfl
     ·simp only [Yn,beq_iff_eq] at h
      have e0:i=0:=by omega
      subst e0
      unfold Xu
      have:s.headD 0=48:=by
       have h2:(at_ s ((0:Nat):Int)).toNat=48:=by omega
       have h3:at_ s ((0:Nat):Int)=48:=Yz.1 h2
       cases s with
       | nil=>simp at hc12
       | cons a b=>exact h3
      rw [this]
      simp
    ·simp only [decide_eq_true_eq] at h
     have e5:i=5:=by omega
     have hd0:=hok 0 (by omega) (by omega)
     unfold Xu
     rw [decide_eq_false (show ¬ val s≤65535 from fun hh=>by have:=Xp1 s (by omega) hd0 (h0 (by omega)); omega)]
     simp
   refine ⟨_,rfl,?_,hw.symm⟩
   rw [if_neg (by rw [Y2g]; exact hbad)]
  have hc34:=hb34; try simp only [Y5] at hc34
  refine .skip ?_
  have hbyte:=(at_ s (i:Int)).toNat_lt
  have hnb:¬ (((decide (((at_ s (i:Int)).toNat:Int)<48) || decide (57<((at_ s (i:Int)).toNat:Int))) || ((i:Int) == 0) && (((at_ s (i:Int)).toNat:Int) == 48)) || decide (4<(i:Int)))=true:=by rw [hb34]; decide
  have hdig:X8u (at_ s (i:Int))=true:=by
   cases hd:X8u (at_ s (i:Int)) with
   | true=>rfl
   | false=>exact absurd (by rw [X77,hd]; rfl) hnb
  have hrg:48≤(at_ s (i:Int)).toNat∧(at_ s (i:Int)).toNat≤57:=by
   have:=hdig
   simp only [X8u,Yn,decide_eq_true_eq,Y23] at this
   have e1:(48:UInt8).toNat=48:=rfl
   have e2:(57:UInt8).toNat=57:=rfl
   rw [e1,e2] at this; exact this
  have hi4:i≤4:=by
   rcases Yv 4 i with h | h
   ·exact absurd (by rw [decide_eq_true (show 4<(i:Int) by omega),Bool.or_true]) hnb
   ·exact h
  have hh0:i=0→(at_ s (i:Int)).toNat≠48:=fun e h=>absurd (by
   rw [show ((i:Int) == 0)=true by simp [e],show (((at_ s (i:Int)).toNat:Int) == 48)=true by simp [h]]; simp) hnb
  have hv4:=Xhm s i hi4 hok
  refine .region (.run 3 rfl ⟨⟨by omega,by omega⟩,trivial⟩ ?_)
  refine WL.val (.subx (.of rfl) (.of rfl) (by rw [IntKind.wrap_u8]; omega)) rfl ?_
  refine WL.val (.cvi (.of rfl) Qu5 Qu3 (by rw [IntKind.wrap_i64]; omega)) rfl ?_
  refine .run 2 rfl ⟨⟨by omega,by omega⟩,trivial⟩ (.nil (.region (.run 2 rfl ⟨⟨by omega,by omega⟩,trivial⟩ (.nil ?_))))
  refine ⟨i+1,⟨rfl,rfl,?_,rfl,rfl,trivial⟩,⟨by omega,by omega,fun j hj hjl=>?_,fun _=>?_,hw⟩,by omega⟩
  ·rw [X3o s i (by omega)]
   show some _=some _
   congr 3
   omega
  ·rcases Yv j i with h1 | h1
   ·exact hok j h1 hjl
   ·have e:j=i:=by omega
    rw [e]; exact hdig
  ·rcases Y1k i with e | e
   ·subst e
    intro h
    exact hh0 rfl (by show (at_ s ((0:Nat):Int)).toNat=48; rw [show ((0:Nat):Int)=0 from rfl,h]; rfl)
   ·exact h0 e
 have hc12:=hb12; try simp only [Y5] at hc12
 refine .exit (.seq (.seq (.t 3 rfl (.gval rfl rfl (fun hg1=>(.move (.of rfl))) rfl (.gval rfl rfl (fun hg1=>(.gtr (.gd hg1 rfl) (.of rfl))) rfl (.val (.por (.of rfl) (.of rfl) (.of rfl)) rfl (.nil ?_)))))))
 refine WC.cond rfl (fun hb47=>?_) (fun hb47=>?_)
 ·
  have hc47:=hb47; try simp only [Y5] at hc47
  refine .seq (.q 2 rfl (.ret (X1g Qr91 rfl rfl ?_)))
  have hlen:s.length=i:=by omega
  rw [← hlen,Y1b] at hb47
  have hbad:Xu s=false:=by
   unfold Xu
   rcases Y22.1 hb47 with h | h
   ·simp only [decide_eq_true_eq] at h
    rw [decide_eq_false (show ¬ 1≤val s by omega)]; simp
   ·simp only [decide_eq_true_eq] at h
    rw [decide_eq_false (show ¬ val s≤65535 by omega)]; simp
  refine ⟨_,rfl,?_,hw.symm⟩
  rw [if_neg (by rw [Y2g]; exact hbad)]
 have hc47:=hb47; try simp only [Y5] at hc47
 refine .skip (.seq (.seq (.t 2 rfl (.call Tryz.func140 rfl (X0 (.of rfl) X4) rfl (Xo5 sch _) ?_))))
 rintro _ w ⟨rfl,hw1⟩
 rw [hw] at hw1
 refine .q 1 rfl (.nil ?_)
 refine WC.cond rfl (fun hb51=>?_) (fun hb51=>?_)
 ·
  have hc51:=hb51; try simp only [Y5] at hc51
  refine .q 1 rfl (.seq (.q 3 rfl (.ret (X1g Qr91 rfl rfl ?_))))
  have hlen:s.length=i:=by omega
  have hb47':=hb47
  rw [← hlen,Y1b] at hb47'
  have hgood:Xu s=true:=by
   unfold Xu
   obtain ⟨h1,h2⟩:=Y1g.1 hb47'
   simp only [decide_eq_false_iff_not] at h1 h2
   have hne:s≠[]:=fun e=>by rw [e] at h1; simp [val] at h1
   have hp:0<s.length:=Y1q.2 hne
   rw [X6w hok (by omega),decide_eq_true (show 1≤val s by omega),decide_eq_true (show val s≤65535 by omega)]
   have:=h0 (by omega)
   have e:s.headD 0=at_ s 0:=by cases s with | nil=>exact absurd rfl hne | cons a b=>rfl
   rw [e]
   simp [this]
  refine ⟨_,rfl,?_,hw1⟩
  rw [if_pos hgood,X3k]
  have hb51':=hb51
  rw [← hlen,Y1b] at hb51'
  rw [if_pos (by simp only [beq_iff_eq] at hb51'; omega)]; rfl
 have hc51:=hb51; try simp only [Y5] at hc51
 refine .skip (.seq (.q 3 rfl (.ret (X1g Qr91 rfl rfl ?_))))
 have hlen:s.length=i:=by omega
 have hb47':=hb47
 rw [← hlen,Y1b] at hb47'
 have hgood:Xu s=true:=by
  unfold Xu
  obtain ⟨h1,h2⟩:=Y1g.1 hb47'
  simp only [decide_eq_false_iff_not] at h1 h2
  have hne:s≠[]:=fun e=>by rw [e] at h1; simp [val] at h1
  have hp:0<s.length:=Y1q.2 hne
  rw [X6w hok (by omega),decide_eq_true (show 1≤val s by omega),decide_eq_true (show val s≤65535 by omega)]
  have:=h0 (by omega)
  have e:s.headD 0=at_ s 0:=by cases s with | nil=>exact absurd rfl hne | cons a b=>rfl
  rw [e]
  simp [this]
 refine ⟨_,rfl,?_,hw1⟩
 rw [if_pos hgood,X3k]
 have hb51':=hb51
 rw [← hlen,Y1b] at hb51'
 rw [if_neg (by simp only [beq_eq_false_iff_ne] at hb51'; omega),← hlen,Y1b]
end Go.Proofs.YtfibbpgikjggfaaGreatDoor
namespace Ul
open Pc Gk
def Xy (s:List UInt8):Option (List UInt8):=if s.all X14 then X2s s else none
def spl:List UInt8→List (List UInt8)
 | []=>[[]]
 | c::r=>if c=47 then []::spl r else match spl r with
  | []=>[[c]]
  | h::t=>(c::h)::t
theorem X7n (s:List UInt8):spl s≠[]:=by
 cases s with
 | nil=>simp [spl]
 | cons c r =>
  simp only [spl]
  split
  ·simp
  ·split <;> simp
theorem X4g:∀ (s:List UInt8),(∀ x∈s,x≠47)→spl s=[s]
 | [],_=>rfl
 | c::r,h=>by
  rw [spl,if_neg (h c (by simp)),X4g r (fun x hx=>h x (by simp [hx]))]
theorem Xag:∀ (a b:List UInt8),(∀ x∈a,x≠47)→spl (a ++ 47::b)=a::spl b
 | [],b,_=>by show spl (47::b)=_; rw [spl,if_pos rfl]
 | c::r,b,h=>by
  show spl (c::(r ++ 47::b))=_
  rw [spl,if_neg (h c (by simp)),Xag r b (fun x hx=>h x (by simp [hx]))]
theorem Xa6 {s:List UInt8} {i:Nat} (h:s[i]?=some 47) (hno:∀ k,k<i→s[k]?≠some 47):spl s=s.take i::spl (s.drop (i+1)):=by
 have hi:i<s.length:=(Y4.1 h).1
 have e:s=s.take i ++ 47::s.drop (i+1):=by
  conv=>lhs; rw [← Yw i s]
  rw [Y1e hi,(Y4.1 h).2]
 conv=>lhs; rw [e]
 refine Xag _ _ fun x hx ex=>?_
 obtain ⟨k,hk⟩:=Y1j.1 hx
 rw [Y1v] at hk
 split at hk
 ·rename_i hki
  exact hno k hki (by rw [hk,ex])
 ·cases hk
theorem Xfx:∀ (n:Nat) (s:List UInt8),s.length≤n→Go.Lib.splitK [47] 0 (Go.Lib.count s [47]) s=spl s:=by
 intro n
 induction n with
 | zero =>
  intro s h
  have:s=[]:=Ye (by omega)
  subst this
  rfl
 | succ n ih =>
  intro s h
  have hge:=Go.Lib.indexByte_ge s 47
  by_cases e:Go.Lib.indexByte s 47=-1
  ·have hi:Go.Lib.index s [47]=-1:=by rw [Go.Lib.index_one]; exact e
   rw [Go.Lib.count_miss hi]
   refine (X4g s fun x hx ex=>?_).symm
   obtain ⟨k,hk⟩:=Y1j.1 hx
   exact Go.Lib.indexByte_none e k (by rw [hk,ex])
  ·obtain ⟨i,hk⟩:∃ k:Nat,Go.Lib.indexByte s 47=k:=⟨(Go.Lib.indexByte s 47).toNat,by omega⟩
   have hi:Go.Lib.index s [47]=i:=by rw [Go.Lib.index_one]; exact hk
   obtain ⟨h1,h2⟩:=Go.Lib.indexByte_some hk
   have hlt:i<s.length:=(Y4.1 h1).1
   rw [Go.Lib.count_hit (by simp) hi,Y43 1,Go.Lib.splitK,hi,if_neg (by simp),Xa6 h1 h2]
   show s.take ((i:Int).toNat+0)::Go.Lib.splitK [47] 0 (Go.Lib.count (s.drop (i+1)) [47]) (s.drop ((i:Int).toNat+1))=_
   rw [Yk,Y2d,ih (s.drop (i+1)) (by rw [Yj]; omega)]
theorem Xoy:∀ (n:Nat) (s:List UInt8),s.length≤n→(spl s).length=Go.Lib.count s [47]+1:=by
 intro n
 induction n with
 | zero =>
  intro s h
  have:s=[]:=Ye (by omega)
  subst this
  rfl
 | succ n ih =>
  intro s h
  have hge:=Go.Lib.indexByte_ge s 47
  by_cases e:Go.Lib.indexByte s 47=-1
  ·have hi:Go.Lib.index s [47]=-1:=by rw [Go.Lib.index_one]; exact e
   rw [Go.Lib.count_miss hi,X4g s fun x hx ex=>?_]
   ·rfl
   ·obtain ⟨k,hk⟩:=Y1j.1 hx
    exact Go.Lib.indexByte_none e k (by rw [hk,ex])
  ·obtain ⟨i,hk⟩:∃ k:Nat,Go.Lib.indexByte s 47=k:=⟨(Go.Lib.indexByte s 47).toNat,by omega⟩
   have hi:Go.Lib.index s [47]=i:=by rw [Go.Lib.index_one]; exact hk
   obtain ⟨h1,h2⟩:=Go.Lib.indexByte_some hk
   have hlt:i<s.length:=(Y4.1 h1).1
   rw [Go.Lib.count_hit (by simp) hi,Xa6 h1 h2,Y6,ih (s.drop (i+1)) (by rw [Yj]; omega)]
   show _=1+Go.Lib.count (s.drop (i+1)) [47]+1
   omega
def keep (k:List (List UInt8)) (x:List UInt8):List (List UInt8):=if x=[46] then k else if x=[46,46] then k.dropLast else k ++ [x]
theorem Xh6 {k:List (List UInt8)} {x:List UInt8} (h:x=[46]∨x=[46,46]) (h2:x=[46,46]→k=[]):keep k x=k:=by
 unfold keep
 by_cases e1:x=[46]
 ·rw [if_pos e1]
 ·have e2:=h.resolve_left e1
  rw [if_neg e1,if_pos e2,h2 e2]; rfl
def Xf (k:List (List UInt8)):List UInt8:=(k.map (47::·)).flatten
def X1w (x:List UInt8):Bool:=x == [46] || x == [46,46]
def X2z:List UInt8→List UInt8
 | []=>[]
 | c::r=>if c=47 then Xf ((spl r).foldl keep []) ++ (if X1w ((spl r).getLastD []) || ((spl r).foldl keep []).length == 0 then [47] else []) else c::r
theorem Xk2 (p:List UInt8):(X2z p == [])=(p == []):=by
 cases p with
 | nil=>rfl
 | cons c r =>
  rw [show ((c::r:List UInt8) == [])=false from rfl]
  rw [X2z]
  split
  ·cases hk:(spl r).foldl keep [] with
   | nil=>simp [Xf]
   | cons a b=>simp [Xf]
  ·rfl
theorem X3d (k:List (List UInt8)) (x:List UInt8):Xf (k ++ [x])=Xf k ++ 47::x:=by simp [Xf]
def tot (k:List (List UInt8)):Nat:=(k.map (fun x=>x.length+1)).sum
theorem X2p (k:List (List UInt8)):(Xf k).length=tot k:=by
 induction k with
 | nil=>rfl
 | cons a b ih =>
  rw [tot,Y1c,Y3g,Xf,Y1c,Y1t,Y0,Y6]
  show _+(Xf b).length=_
  rw [ih]; rfl
theorem X2x:∀ (s:List UInt8),tot (spl s)=s.length+1
 | []=>rfl
 | c::r=>by
  have ih:=X2x r
  simp only [spl]
  split
  ·simp only [tot,Y1c,Y3g] at ih ⊢
   simp only [Yh,Y6]
   omega
  ·split
   ·rename_i h; exact absurd h (X7n r)
   ·rename_i h
    rw [h] at ih
    simp only [tot,Y1c,Y3g,Y6] at ih ⊢
    omega
theorem X27 (k:List (List UInt8)):k.length≤tot k:=by
 induction k with
 | nil=>exact Ys _
 | cons a b ih =>
  simp only [tot,Y1c,Y3g,Y6] at ih ⊢
  omega
theorem X64 (a b:List (List UInt8)):tot (a ++ b)=tot a+tot b:=by simp [tot]
theorem Xk1 (k:List (List UInt8)) (x:List UInt8):tot (keep k x)≤tot k+(x.length+1):=by
 unfold keep
 split
 ·omega
 ·split
  ·rcases List.eq_nil_or_concat k with e | ⟨a,b,e⟩
   ·subst e; simp [tot]
   ·subst e
    rw [List.concat_eq_append,List.dropLast_concat,X64]
    omega
  ·rw [X64]; simp [tot]
theorem X59 (l:List (List UInt8)):∀ k,tot (l.foldl keep k)≤tot k+tot l:=by
 induction l with
 | nil=>intro k; simp [tot]
 | cons a b ih =>
  intro k
  have h1:=ih (keep k a)
  have h2:=Xk1 k a
  rw [Y3e]
  have:tot (a::b)=a.length+1+tot b:=by simp [tot]
  omega
def Xv (s:List UInt8):Option (List UInt8×List UInt8) :=
 if low (s.take 7)=[104,116,116,112,58,47,47] then some (Xcj,s.drop 7)
 else if low (s.take 8)=[104,116,116,112,115,58,47,47] then some (X3t,s.drop 8) else none
structure U where
 sch:List UInt8
 host:List UInt8
 port:Nat
 path:List UInt8
 query:List UInt8
 ask:Bool
def U0:U:=⟨[],[],0,[],[],false⟩
def uc (u:U):List Go.Value:=[S u.sch,S u.host,I64 (u.port:Nat),S u.path,S u.query,.bool u.ask]
def X2k (sch host:List UInt8) (port:Nat) (r:List UInt8):U×Nat :=
 match Xy (upto [63] r) with
 | none=>(U0,15)
 | some p=>match Xy ((X7 [63] r).drop 1) with
  | none=>(U0,15)
  | some q=>(⟨sch,host,port,if p=[] then [47] else X2z p,q,!(X7 [63] r).isEmpty⟩,0)
def X16 (r:List UInt8):List UInt8:=low (upto [47,63,35,58] r)
def behind (sch host:List UInt8) (r:List UInt8):U×Nat :=
 if r.take 1=[58] then
  if Xu (upto [47,63,35] (r.drop 1)) then X2k sch host (X3k (upto [47,63,35] (r.drop 1)) sch) (X7 [47,63,35] (r.drop 1)) else (U0,14)
 else X2k sch host 0 r
def pU (s:List UInt8):U×Nat :=
 if 2000<s.length then (U0,2) else match Xv s with
 | none=>(U0,12)
 | some (sch,r)=>if X25 (X16 r) then behind sch (X16 r) (X7 [47,63,35,58] r) else (U0,13)
def X30 (u:U):List UInt8:=u.sch ++ [58,47,47] ++ u.host ++ (if u.port=0 then [] else 58::Go.Lib.decDigits u.port)
def Xav (u:U):List UInt8:=X30 u ++ u.path ++ (if u.ask then 63::u.query else [])
def nU (s:List UInt8):List UInt8×Nat:=if (pU s).2=0 then (Xav (pU s).1,0) else ([],(pU s).2)
theorem Xde {c:UInt8} (h:lo c=58∨lo c=47):c=lo c:=by
 have:=Xj (p:=fun c=>!(lo c == 58 || lo c == 47) || c == lo c) (by decide +kernel) c
 simp only [Y1w,Bool.not_eq_true',Y1g,beq_eq_false_iff_ne,beq_iff_eq] at this
 rcases this with h1 | h1
 ·rcases h with h | h
  ·exact absurd h h1.1
  ·exact absurd h h1.2
 ·exact h1
theorem Xkj (s:List UInt8) (k:Nat):low (s.drop k)=(low s).drop k:=by simp [low]
theorem Xf9 (s:List UInt8) (k:Nat):low (s.take k)=(low s).take k:=by simp [low]
theorem Xly:∀ (s:List UInt8),low s=[58,47,47]→s=[58,47,47]
 | [],h=>by simp [low] at h
 | [_],h=>by simp [low] at h
 | [_,_],h=>by simp [low] at h
 | [a,b,c],h=>by
  simp only [low,Y1c,Y3d,List.cons.injEq,and_true] at h
  obtain ⟨h1,h2,h3⟩:=h
  rw [Xde (.inl h1),h1,Xde (.inr h2),h2,Xde (.inr h3),h3]
 | _::_::_::_::_,h=>by simp [low] at h
abbrev SIGN:List UInt8:=[58,47,47]
theorem occ_of {s:List UInt8} {i:Nat} (h:(s.drop i).take 3=SIGN):Go.Lib.occAt s SIGN i=true:=by
 unfold Go.Lib.occAt
 rw [Y40]
 rw [← h]
 exact List.take_prefix _ _
theorem Xn3 {s:List UInt8} {i:Nat} (h:Go.Lib.occAt s SIGN i=true):(s.drop i).take 3=SIGN:=by
 unfold Go.Lib.occAt at h
 rw [Y40] at h
 obtain ⟨t,e⟩:=h
 rw [← e]; rfl
theorem Xif {s:List UInt8} {k:Nat} {h:List UInt8} (hk:h.length=k) (hl:low (s.take (k+3))=h ++ SIGN) (hh:h.all (· != 58)=true):Go.Lib.index s SIGN=k∧low (s.take k)=h:=by
 have e1:low (s.take k)=h:=by
  have:=congrArg (List.take k) hl
  rw [← Xf9,Y4k,Y31 (by omega),Y1y (by omega),Y11 (l:=h) (by omega)] at this
  exact this
 have e2:(s.drop k).take 3=SIGN:=by
  apply Xly
  have:=congrArg (List.drop k) hl
  rw [← Xkj,List.drop_take,show k+3 - k=3 by omega,Y1z (by omega),Y15 (l:=h) (by omega)] at this
  exact this
 have hlen:k≤s.length:=by
  have:=congrArg List.length e1
  rw [X1k,Yq,hk] at this
  omega
 refine ⟨Go.Lib.index_first hlen (occ_of e2) (fun j hj=>?_),e1⟩
 cases ho:Go.Lib.occAt s SIGN j with
 | false=>rfl
 | true =>
  have h3:=Xn3 ho
  have h0:s[j]?=some 58:=by
   have:=congrArg (fun l=>l[0]?) h3
   simpa [Y1v,Y1d] using this
  have h4:h[j]?=some 58:=by
   rw [← e1,low,Yx,Y1v,if_pos hj,h0]; rfl
  have:=Y18.1 hh 58 (Yr h4)
  simp at this
theorem Xgj (s:List UInt8):Xv s=(let c:=Go.Lib.cut s SIGN; if c.2.2=true∧(low c.1=Xcj∨low c.1=X3t) then some (low c.1,c.2.1) else none):=by
 have none_of:∀ (h:List UInt8) (k:Nat),h.length=k→Go.Lib.index s SIGN=(k:Nat)→low (s.take k)=h→low (s.take (k+3))=h ++ SIGN:=by
  intro h k hk hi e
  have ho:Go.Lib.occAt s SIGN k=true:=by
   rcases Go.Lib.index_spec s SIGN with ⟨h1,_⟩ | ⟨j,h1,_,h2,_⟩
   ·omega
   ·have:j=k:=by omega
    subst this; exact h2
  have h3:=Xn3 ho
  rw [List.take_add,low,Yy,h3]
  show low (s.take k) ++ _=_
  rw [e]; rfl
 simp only [Xv]
 split
 ·rename_i h
  obtain ⟨hi,e⟩:=Xif (s:=s) (k:=4) (h:=Xcj) rfl h (by decide)
  have hc:Go.Lib.cut s SIGN=(s.take 4,s.drop 7,true):=by
   unfold Go.Lib.cut
   rw [hi,if_pos (by decide)]; rfl
  rw [hc]
  simp only
  rw [if_pos ⟨trivial,.inl e⟩,e]
 ·rename_i hn
  split
  ·rename_i h
   obtain ⟨hi,e⟩:=Xif (s:=s) (k:=5) (h:=X3t) rfl h (by decide)
   have hc:Go.Lib.cut s SIGN=(s.take 5,s.drop 8,true):=by
    unfold Go.Lib.cut
    rw [hi,if_pos (by decide)]; rfl
   rw [hc]
   simp only
   rw [if_pos ⟨trivial,.inr e⟩,e]
  ·rename_i hn2
   refine (if_neg ?_).symm
   rintro ⟨hc,ho⟩
   unfold Go.Lib.cut at hc ho
   split at hc
   ·rename_i hi
    rw [if_pos hi] at ho
    obtain ⟨k,hk⟩:∃ k:Nat,Go.Lib.index s SIGN=k:=⟨(Go.Lib.index s SIGN).toNat,by omega⟩
    rw [hk,Yk] at ho
    simp only at ho
    have hkl:k≤s.length:=by
     have:=Go.Lib.index_le s SIGN
     omega
    have hlen:(low (s.take k)).length=k:=by rw [X1k,Yq]; omega
    rcases ho with ho | ho
    ·have k4:k=4:=by rw [← hlen,ho]; rfl
     subst k4
     exact hn (none_of Xcj 4 rfl hk ho)
    ·have k5:k=5:=by rw [← hlen,ho]; rfl
     subst k5
     exact hn2 (none_of X3t 5 rfl hk ho)
   ·cases hc
theorem Xnj (s:List UInt8) (c:UInt8):Go.Lib.cut s [c]=(upto [c] s,(X7 [c] s).drop 1,!(X7 [c] s).isEmpty):=by
 have hge:=Go.Lib.indexByte_ge s c
 have key:Go.Lib.indexAny s [c]=Go.Lib.indexByte s c:=by
  clear hge
  induction s with
  | nil=>rfl
  | cons b l ih =>
   rw [Go.Lib.indexAny,Go.Lib.indexByte,ih]
   have:([c].contains b)=(b == c):=by rw [Y47]; simp
   rw [this]
 unfold Go.Lib.cut
 rw [Go.Lib.index_one]
 by_cases e:Go.Lib.indexByte s c=-1
 ·rw [e,if_neg (by decide)]
  obtain ⟨h1,h2⟩:=X75 (s:=s) (ats:=[c]) (by rw [key]; exact e)
  rw [h1,h2]; rfl
 ·obtain ⟨k,hk⟩:∃ k:Nat,Go.Lib.indexByte s c=k:=⟨(Go.Lib.indexByte s c).toNat,by omega⟩
  obtain ⟨h1,h2,h3⟩:=Xam (s:=s) (ats:=[c]) (i:=k) (by rw [key]; exact hk)
  rw [hk,if_pos (by omega),h1,h2,Yk,Y1l]
  have:(s.drop k).isEmpty=false:=by
   cases hd:s.drop k with
   | nil =>
    have:=congrArg List.length hd
    rw [Yj,Yh] at this
    omega
   | cons a b=>rfl
  rw [this]
  rfl
theorem Xer (p:List UInt8):(X2z p).length≤p.length+1:=by
 cases p with
 | nil=>simp [X2z]
 | cons c r =>
  rw [X2z]
  split
  ·have h1:=X59 (spl r) []
   rw [X2x,show tot []=0 from rfl] at h1
   rw [Y0,X2p,Y6]
   have:(if (X1w ((spl r).getLastD []) || ((spl r).foldl keep []).length == 0)=true then [47] else ([]:List UInt8)).length≤1:=by split <;> simp
   omega
  ·simp
theorem X42 (a s:List UInt8):(upto a s).length≤s.length:=by
 have:=congrArg List.length (X22 a s)
 rw [Y0] at this; omega
theorem X3f (a s:List UInt8):(X7 a s).length≤s.length:=by
 have:=congrArg List.length (X22 a s)
 rw [Y0] at this; omega
theorem Xa8 {s t:List UInt8} (h:Xy s=some t):t.length≤s.length:=by
 unfold Xy at h
 split at h
 ·exact X9z s t h
 ·cases h
def X39 (u:U):Prop:=u.sch.length≤1000000∧u.host.length≤1000000∧u.port≤65535∧u.path.length≤10000000∧u.query.length≤10000000
theorem X9s:X39 U0:=⟨by decide,by decide,by decide,by decide,by decide⟩
theorem X9g (sch host:List UInt8) (port:Nat) (r:List UInt8) (h1:sch.length≤1000000) (h2:host.length≤1000000) (h3:port≤65535) (h4:r.length≤100000):X39 (X2k sch host port r).1:=by
 unfold X2k
 split
 ·exact X9s
 ·rename_i p hp
  split
  ·exact X9s
  ·rename_i q hq
   have a1:=Xa8 hp
   have a2:=Xa8 hq
   have a3:=X42 [63] r
   have a4:=X3f [63] r
   have a5:=Xer p
   rw [Yj] at a2
   refine ⟨h1,h2,h3,?_,by show q.length≤_; omega⟩
   show (if p=[] then [47] else X2z p).length≤_
   split
   ·simp
   ·omega
theorem Xjg {s sch:List UInt8} (hp:Xu s=true):X3k s sch≤65535:=by
 unfold X3k
 split
 ·decide
 ·unfold Xu at hp
  simp only [Yn,decide_eq_true_eq] at hp
  exact hp.2
theorem X7b (s:List UInt8):X39 (pU s).1:=by
 unfold pU
 split
 ·exact X9s
 ·split
  ·exact X9s
  ·rename_i sch r hs
   split
   ·have hr:r.length≤2000∧sch.length≤5:=by
     unfold Xv at hs
     split at hs
     ·injection hs with hs; injection hs with e1 e2; subst e1; subst e2; rw [Yj]; exact ⟨by omega,by decide⟩
     ·split at hs
      ·injection hs with hs; injection hs with e1 e2; subst e1; subst e2; rw [Yj]; exact ⟨by omega,by decide⟩
      ·cases hs
    have hh:(X16 r).length≤1000000:=by unfold X16; rw [X1k]; have:=X42 [47,63,35,58] r; omega
    have a3:=X3f [47,63,35,58] r
    unfold behind
    split
    ·split
     ·rename_i hp
      refine X9g _ _ _ _ (by omega) hh (Xjg hp) ?_
      have:=X3f [47,63,35] ((X7 [47,63,35,58] r).drop 1)
      rw [Yj] at this
      omega
     ·exact X9s
    ·exact X9g _ _ _ _ (by omega) hh (by decide) (by omega)
   ·exact X9s
theorem X85 (a s:List UInt8):s.take (upto a s).length=upto a s:=by
 have h:=Y3l (l₁:=upto a s) (l₂:=X7 a s)
 rw [X22] at h; exact h
theorem X5n (a s:List UInt8):s.drop (upto a s).length=X7 a s:=by
 have h:=List.drop_left (l₁:=upto a s) (l₂:=X7 a s)
 rw [X22] at h; exact h
theorem X2d (a s:List UInt8):(upto a s).length+(X7 a s).length=s.length:=by
 have:=congrArg List.length (X22 a s)
 rw [Y0] at this; omega
theorem Xeq {s X:List UInt8} {n:Nat} (hX:X.length=n):(decide ((n:Int)≤(s.length:Int)) && (low (s.take n) == X))=true ↔ low (s.take n)=X:=by
 constructor
 ·intro h
  simp only [Yn,beq_iff_eq] at h
  exact h.2
 ·intro h
  have:=congrArg List.length h
  rw [X1k,Yq,hX] at this
  simp only [Yn,beq_iff_eq,decide_eq_true_eq]
  exact ⟨by omega,h⟩
theorem Xkv {s:List UInt8} (h1:low (s.take 7)=[104,116,116,112,58,47,47]) (h2:low (s.take 8)=[104,116,116,112,115,58,47,47]):False:=by
 have:=congrArg (List.take 7) h2
 rw [← Xf9,Y4k,show min 7 8=7 from rfl,h1] at this
 simp at this
theorem Xax (d:UInt8):(((((decide (((lo d).toNat:Int)<97) || decide (122<((lo d).toNat:Int))) && (decide (((lo d).toNat:Int)<48) || decide (57<((lo d).toNat:Int)))) && (((lo d).toNat:Int) != 45)) && (((lo d).toNat:Int) != 46)))=!X73 (lo d) :=
 eq_of_beq (Xj (p:=fun d=>(((((decide (((lo d).toNat:Int)<97) || decide (122<((lo d).toNat:Int))) && (decide (((lo d).toNat:Int)<48) || decide (57<((lo d).toNat:Int)))) && (((lo d).toNat:Int) != 45)) && (((lo d).toNat:Int) != 46))) == !X73 (lo d)) (by decide +kernel) d)
theorem Xho (s:List UInt8) (i:Nat) (h:i<s.length):at_ (low s) (i:Int)=lo (at_ s (i:Int)):=by
 rw [at_,at_,Yk,low,Yd,Yx,Xq h,Yd,Xq h]
 rfl
theorem Xfn {c:UInt8} (h:X8u c=true):48≤c.toNat∧c.toNat≤57:=by
 simp only [X8u,Yn,decide_eq_true_eq,Y23] at h
 have e1:(48:UInt8).toNat=48:=rfl
 have e2:(57:UInt8).toNat=57:=rfl
 rw [e1,e2] at h; exact h
end Ul
namespace Go.Proofs.YtfibbpgikjggfaaGreatDoor
open Gk Pc Ul
theorem Xgk (n:Int) (w:World) :
  Calls Tryz.prog 176 [I64 n].toArray w (Ret fun v w'=>v=.bool (decide (8<n))∧w=w'):=by
 refine calls Tryz.func176 rfl Tryz.ntmps176 rfl (.seq (.q 1 rfl (.seq (.q 3 rfl (.ret (Xe Tryz.results176 rfl ?_))))))
 exact ⟨_,rfl,rfl,rfl⟩
theorem Xat (r:Int) (w:World):Calls Tryz.prog 213 [.int .i32 r].toArray w (Ret fun v w'=>v=.bool (Go.Lib.validRune r)∧w=w') :=
 (Tryz.utf8_ValidRune r w).mono fun e w' he=>by
  obtain ⟨rfl,rfl⟩:=he
  exact ⟨_,rfl,rfl,rfl⟩
theorem Xb3 (cs:List UInt8) (hca:Asc cs) (hl:cs.length≤1000) (r:Int) (h0:128≤r) (h1:r≤1114111) (B w:World) (I:Im) (As:List X9) (hS:Sat B w I As) :
  Calls Tryz.prog 175 [S cs,.int .i32 r].toArray w (Ret fun v w'=>v=I64 (-1)∧Sat B w' I As):=by
 refine calls Qf175 rfl Tryz.ntmps175 rfl (.seq (.q 1 rfl (.block (.seq (.t 3 rfl (.gval rfl rfl (fun hg1=>(.move (.of rfl))) rfl (.gval rfl rfl (fun hg1=>(.lss (.gd hg1 rfl) (.of rfl))) rfl (.val (.pand (.of rfl) (.of rfl) (.of rfl)) rfl (.q 1 rfl (.nil ?_))))))))))
 refine WC.cond rfl (fun hb160=>by exfalso; simp only [Y5] at hb160; omega) (fun hb160=>?_)
 have hc160:=hb160; try simp only [Y5] at hc160
 refine .seq (.q 3 rfl ?_)
 refine WC.cond rfl (fun hb171=>?_) (fun hb171=>?_)
 ·
  have hc171:=hb171; try simp only [Y5] at hc171
  refine .seq (.seq (.t 1 rfl (.range (s:=cs) hS (.of rfl) Qu9 rfl ?_)))
  clear hS; intro b175 w hS
  refine .nil (.block (.loop (σ:=Nat) (fun i=>[(175,ptr b175 0)]) (fun i w=>i≤cs.length∧Sat B w I (own b175 (.stringIter ⟨cs.toArray⟩ i)::As)) (fun i=>cs.length - i) 0 ⟨rfl,trivial⟩ ⟨Yp _,hS⟩ ?_))
  rintro i w ⟨hi,hS⟩
  change WC _ _ _ _ [(175,ptr b175 0)] w
  refine .seq (.region ?_)
  refine WL.next (i:=i) hS (k:=0) rfl (.of rfl) rfl (fun hn=>?_) (fun hn=>?_)
  ·
   refine .q 1 rfl (.nil (.seq (.condF (rfl) (.exit (.seq (.q 1 rfl (.ret (Xe Xk8 rfl ?_))))))))
   exact ⟨_,rfl,rfl,hS.drop (k:=0) rfl⟩
  ·
   rw [X7y cs i hn (hca i _ (Xq hn))]
   have hb7:=hca i _ (Xq hn)
   clear hS; intro w hS; try dsimp only [List.set] at hS
   refine .q 1 rfl (.nil (.seq (.condT (rfl) (.skip (.block (.seq (.q 4 rfl (.seq (.q 2 rfl ?_)))))))))
   refine WC.cond rfl (fun hb181=>by exfalso; simp only [Y5] at hb181; omega) (fun hb181=>?_)
   have hc181:=hb181; try simp only [Y5] at hc181
   refine .skip ?_
   exact ⟨i+1,⟨rfl,trivial⟩,⟨by omega,hS⟩,by omega⟩
 have hc171:=hb171; try simp only [Y5] at hc171
 refine .seq (.t 1 rfl (.call Qf213 rfl (X0 (.of rfl) X4) rfl (Xat r _) ?_))
 rintro _ _ ⟨rfl,rfl⟩
 refine .q 2 rfl (.nil ?_)
 refine WC.cond rfl (fun hb183=>?_) (fun hb183=>?_)
 ·
  have hc183:=hb183; try simp only [Y5] at hc183
  refine .seq (.q 1 rfl (.ret (Xe Xk8 rfl ?_)))
  exact ⟨_,rfl,rfl,hS⟩
 have hc183:=hb183; try simp only [Y5] at hc183
 refine .scope (.seq ?_)
 have hvv:Go.Utf8.valid r=true:=Xkf r (by simpa using hb183)
 obtain ⟨he2,he4,heb⟩:=Xhg r hvv h0
 refine .t 1 rfl ?_
 refine WL.val (.runeStr (.of rfl) (by rw [Qu21]; rfl) Qu9) rfl ?_
 refine .q 1 rfl (.nil (.seq (.region (.run 4 rfl ⟨Qu9,⟨by omega,by omega⟩,trivial⟩ (.nil (.seq (.q 2 rfl (.seq (.q 1 rfl (.seq (.block (.loop (σ:=Unit) (fun _=>[(0,S cs),(7,S (X76 r)),(8,I64 ((((X76 r).length:Nat):Int) - 1)),(9,I64 ((((X76 r).length:Nat):Int) - 1))]) (fun _ w=>Sat B w I As) (fun _=>0) () ⟨rfl,rfl,rfl,rfl,trivial⟩ hS ?_))))))))))))
 rintro _ w hS
 change WC _ _ _ _ [(0,S cs),(7,S (X76 r)),(8,I64 ((((X76 r).length:Nat):Int) - 1)),(9,I64 ((((X76 r).length:Nat):Int) - 1))] w
 refine .seq (.seq (.region (.run 4 rfl ⟨Qu9,trivial⟩ (.nil ?_))))
 refine WC.cond rfl (fun hb26=>?_) (fun hb26=>?_)
 ·
  have hc26:=hb26; try simp only [Y5] at hc26
  refine .skip (.block (.scope (.seq (.seq ?_))))
  have hA:(at_ cs ((((X76 r).length:Nat):Int) - 1)).toNat<128:=hca ((((X76 r).length:Nat):Int) - 1).toNat _ (by rw [at_,Yd,Y7 (by omega)]; rfl)
  refine .quiet (by kernel_rfl) (by kernel_rfl) hS (.val (fun w hS=>(.move (.of rfl))) rfl (.val (fun w hS=>(.move (.of rfl))) rfl (.val (fun w hS=>(.index (.of rfl) (.of rfl) (by omega) (by omega) Qu9)) rfl (.val (fun w hS=>(.move (.of rfl))) rfl (.val (fun w hS=>(.move (.of rfl))) rfl (.val (fun w hS=>(.index (.of rfl) (.of rfl) (by omega) (by omega) Qu9)) rfl (.val (fun w hS=>(.neq (.of rfl) (.of rfl))) rfl (.nil ?_))))))))
  clear hS; intro w hS
  refine WC.cond rfl (fun hb33=>?_) (fun hb33=>by exfalso; simp only [Y5] at hb33; omega)
  have hc33:=hb33; try simp only [Y5] at hc33
  refine .seq (.quiet (by kernel_rfl) (by kernel_rfl) hS (.val (fun w hS=>(.move (.of rfl))) rfl (.val (fun w hS=>(.move (.of rfl))) rfl (.val (fun w hS=>(.add (.of rfl) (.of rfl) ⟨by omega,by omega⟩)) rfl (.val (fun w hS=>(.subFrom (.of rfl) (.of rfl) (by omega) (by omega) Qu9)) rfl (.val (fun w hS=>(.move (.of rfl))) rfl (.val (fun w hS=>(.move (.of rfl))) rfl (.val (fun w hS=>(.index (.of rfl) (.of rfl) (by omega) (by omega) Qu9)) rfl (.call Qf179 rfl (X0 (.of rfl) (X0 (.of rfl) X4)) rfl (fun w hS=>X18 (X3l _ (at_ (X76 r) ((((X76 r).length:Nat):Int) - 1)) w) hS) (.val (fun w hS=>(.assign (.of rfl))) rfl (.nil ?_)))))))))))
  clear hS; intro w hS
  refine .seq (.seq ?_)
  have hN:=Xca (l:=cs.drop ((((X76 r).length:Nat):Int) - 1+1).toNat) (c:=at_ (X76 r) ((((X76 r).length:Nat):Int) - 1)) heb (fun j b h=>by rw [Y1d] at h; exact hca _ _ h)
  refine .q 2 rfl ?_
  refine WC.cond rfl (fun hb43=>?_) (fun hb43=>by exfalso; simp only [Y5] at hb43; omega)
  have hc43:=hb43; try simp only [Y5] at hc43
  refine .seq (.q 1 rfl (.ret (Xe Xk8 rfl ?_)))
  exact ⟨_,rfl,rfl,hS⟩
 have hc26:=hb26; try simp only [Y5] at hc26
 refine .exit (.seq (.seq (.q 1 rfl (.ret (Xe Xk8 rfl ?_)))))
 exact ⟨_,rfl,rfl,hS⟩
theorem Xan (cs:List UInt8) (hca:Asc cs) (hl:cs.length≤1000) (r:Nat) (h1:r≤1114111) (B w:World) (I:Im) (As:List X9) (hS:Sat B w I As):Calls Tryz.prog 175 [S cs,.int .i32 r].toArray w (Ret fun v w'=>v=I64 (if r<128 then Go.Lib.indexByte cs (UInt8.ofNat r) else -1)∧Sat B w' I As):=by
 rcases Yv r 128 with h | h
 ·refine (Tryz.strings_IndexRune_ascii ⟨cs.toArray⟩ r w (by omega) (by omega)).mono fun e w' he=>?_
  obtain ⟨rfl,rfl⟩:=he
  refine ⟨_,rfl,?_,hS⟩
  rw [if_pos h]
  simp
 ·rw [if_neg (by omega)]
  exact Xb3 cs hca hl r (by omega) (by omega) B w I As hS
theorem Xbz (s cs:List UInt8) (hca:Asc cs) (hl:cs.length≤1000) (h2:2≤cs.length) (h8:s.length≤8) (hne:(cs == [])=false) (B w:World) (I:Im) (As:List X9) (hS:Sat B w I As) :
  Calls Tryz.prog 137 [S s,S cs].toArray w (Ret fun v w'=>v=I64 (Go.Lib.indexAny s cs)∧Sat B w' I As):=by
 refine calls Tryz.func137 rfl Tryz.ntmps137 rfl (.seq (.q 1 rfl (.seq (.seq (.q 2 rfl ?_)))))
 refine WC.condF (by show some (Value.bool (cs == []))=_; rw [hne]) ?_
 refine .skip (.seq (.seq (.region (.run 3 rfl ⟨Qu9,trivial⟩ (.nil ?_)))))
 refine WC.cond rfl (fun hb15=>by exfalso; simp only [Y5] at hb15; omega) (fun hb15=>?_)
 have hc15:=hb15; try simp only [Y5] at hc15
 refine .skip (.seq (.seq (.region (.run 2 rfl ⟨Qu9,trivial⟩ (.call Tryz.func176 rfl (X0 (.of rfl) X4) rfl (Xgk _ _) ?_)))))
 rintro _ _ ⟨rfl,rfl⟩
 refine .nil ?_
 refine WC.cond rfl (fun hb26=>by exfalso; simp only [Y5] at hb26; omega) (fun hb26=>?_)
 have hc26:=hb26; try simp only [Y5] at hc26
 refine .skip (.seq (.seq (.t 1 rfl (.range (s:=s) hS (.of rfl) Qu9 rfl ?_))))
 clear hS; intro b45 w hS
 refine .nil (.block (.loop (σ:=Nat) (fun i=>[(1,S cs),(45,ptr b45 0)]) (fun i w=>i≤s.length∧Go.Lib.NoAny s cs i∧Sat B w I (own b45 (.stringIter ⟨s.toArray⟩ i)::As)) (fun i=>s.length - i) 0 ⟨rfl,rfl,trivial⟩ ⟨Yp _,Go.Lib.NoAny.zero _ _,hS⟩ ?_))
 rintro i w ⟨hi,hno,hS⟩
 change WC _ _ _ _ [(1,S cs),(45,ptr b45 0)] w
 refine .seq (.region ?_)
 refine WL.next (i:=i) hS (k:=0) rfl (.of rfl) rfl (fun hn=>?_) (fun hn=>?_)
 ·
  refine .q 1 rfl (.nil (.seq (.condF (rfl) (.exit (.seq (.q 1 rfl (.ret (Xe Tryz.results137 rfl ?_))))))))
  exact ⟨_,rfl,by rw [Go.Lib.indexAny_none (by rw [show s.length=i by omega]; exact hno)],hS.drop (k:=0) rfl⟩
 ·
  clear hS; intro w hS; try dsimp only [List.set] at hS
  refine .q 1 rfl (.nil (.seq (.condT (rfl) (.skip (.block (.seq ?_))))))
  have hdm:(Go.Utf8.decode ⟨s.toArray⟩ i).1≤1114111:=by
   rcases Yv (at_ s (i:Int)).toNat 128 with h | h
   ·rw [X7y s i hn h]; dsimp only; omega
   ·exact (Xb5 s i hn h).2.1
  obtain ⟨hyes,hnot⟩:=Xky hca hn hno
  unfold rv at hyes hnot
  refine .q 4 rfl (.seq (.t 2 rfl (.call Qf175 rfl (X0 (.of rfl) (X0 (.of rfl) X4)) rfl (Xan cs hca hl (Go.Utf8.decode ⟨s.toArray⟩ i).1 hdm B _ I _ hS) ?_)))
  clear hS
  rintro _ w ⟨rfl,hS⟩
  refine .q 1 rfl (.nil ?_)
  refine WC.cond rfl (fun hb53=>?_) (fun hb53=>?_)
  ·
   have hc53:=hb53; try simp only [Y5] at hc53
   refine .seq (.q 2 rfl (.ret (Xe Tryz.results137 rfl ?_)))
   refine ⟨_,rfl,?_,hS.drop (k:=0) rfl⟩
   rw [hyes (by omega)]
   rfl
  have hc53:=hb53; try simp only [Y5] at hc53
  refine .skip ?_
  obtain ⟨hn1,hn2,hn3⟩:=hnot (by omega)
  exact ⟨_,⟨rfl,rfl,trivial⟩,⟨hn2,hn1,hS⟩,by omega⟩
theorem Xc0 (s cs:List UInt8) (hs:s.length≤1000000) (hca:Asc cs) (hl:cs.length≤1000) (h2:2≤cs.length) (B w:World) (I:Im) (As:List X9) (hS:Sat B w I As):Calls Tryz.prog 137 [S s,S cs].toArray w (Ret fun v w'=>v=I64 (Go.Lib.indexAny s cs)∧Sat B w' I As):=by
 rcases Yv 8 s.length with h | h
 ·refine (Tryz.strings_IndexAny_long (zero_of_info (n:=256) (by kernel_rfl)).1 ⟨s.toArray⟩ ⟨cs.toArray⟩ w h2 h (by show s.length<_; omega) (by show cs.length<_; omega) hca).mono fun e w' he=>?_
  obtain ⟨rfl,rfl⟩:=he
  exact ⟨_,rfl,rfl,(((hS.alloc _).alloc _).drop (k:=0) rfl).drop (k:=0) rfl⟩
 ·exact Xbz s cs hca hl h2 h (by cases cs with | nil=>simp at h2 | cons a b=>rfl) B w I As hS
theorem Xhl (s cs:List UInt8) (hs:s.length≤1000000) (hca:Asc cs) (hl:cs.length≤1000) (h2:2≤cs.length) (B w:World) (I:Im) (As:List X9) (hS:Sat B w I As) :
  Calls Tryz.prog 88 [S s,S cs].toArray w (Ret fun v w'=>v=.tuple #[S (upto cs s),S (X7 cs s)]∧Sat B w' I As):=by
 refine calls Tryz.func88 rfl Tryz.ntmps88 rfl (.seq (.q 2 rfl (.seq (.seq (.t 2 rfl (.call Tryz.func137 rfl (X0 (.of rfl) (X0 (.of rfl) X4)) rfl (Xc0 s cs hs hca hl h2 B _ I As hS) ?_))))))
 clear hS
 rintro _ w ⟨rfl,hS⟩
 refine .q 1 rfl (.nil (.seq ?_))
 have hge:=Go.Lib.indexAny_ge cs s
 refine .q 2 rfl ?_
 refine WC.cond rfl (fun hb11=>?_) (fun hb11=>?_)
 ·
  have hc11:=hb11; try simp only [Y5] at hc11
  refine .seq ?_
  obtain ⟨k,hk⟩:∃ k:Nat,Go.Lib.indexAny s cs=k:=⟨(Go.Lib.indexAny s cs).toNat,by omega⟩
  obtain ⟨hc1,hc2,hc3⟩:=Xam hk
  rw [hk]
  refine .quiet (by kernel_rfl) (by kernel_rfl) hS (.val (fun w hS=>(.move (.of rfl))) rfl (.val (fun w hS=>(.move (.of rfl))) rfl (.val (fun w hS=>(.subTo (.of rfl) (.of rfl) (by omega) (by omega) Qu9)) rfl (.val (fun w hS=>(.move (.of rfl))) rfl (.val (fun w hS=>(.move (.of rfl))) rfl (.val (fun w hS=>(.subFrom (.of rfl) (.of rfl) (by omega) (by omega) Qu9)) rfl (.val (fun w hS=>(.assign (.of rfl))) rfl (.val (fun w hS=>(.assign (.of rfl))) rfl (.nil ?_)))))))))
  clear hS; intro w hS
  refine .ret (X1g Tryz.results88 rfl rfl ?_)
  exact ⟨_,rfl,by rw [hc1,hc2,Yk],hS⟩
 have hc11:=hb11; try simp only [Y5] at hc11
 refine .skip (.seq (.q 3 rfl (.ret (X1g Tryz.results88 rfl rfl ?_))))
 obtain ⟨hc1,hc2⟩:=X75 (s:=s) (ats:=cs) (by omega)
 exact ⟨_,rfl,by rw [hc1,hc2],hS⟩
theorem Xiv (s:List UInt8) (hl:s.length≤1000000) (B w:World) (I:Im) (hd:DigAt I) (As:List X9) (hS:Sat B w I As):Calls Tryz.prog 142 [S s].toArray w (Ret fun v w'=>∃ n1 e1,v=.tuple #[S n1,I64 e1]∧(match X2s s with | none=>n1=[]∧e1=11 | some t=>n1=t∧e1=0)∧Sat B w' I As) :=
 (Xcq s hl B w I hd As hS).mono fun e w' he=>by
  obtain ⟨v,rfl,rfl,h⟩:=he
  cases X2s s with
  | none=>exact ⟨_,rfl,_,_,rfl,⟨rfl,rfl⟩,h⟩
  | some t=>exact ⟨_,rfl,_,_,rfl,⟨rfl,rfl⟩,h⟩
theorem Xgg (s:List UInt8) (hl:s.length≤1000000) (B w:World) (I:Im) (hd:DigAt I) (As:List X9) (hS:Sat B w I As) :
  Calls Tryz.prog 92 [S s].toArray w (Ret fun v w'=>v=(match Xy s with | none=>.tuple #[S [],I64 15] | some t=>.tuple #[S t,I64 0])∧Sat B w' I As):=by
 refine calls Tryz.func92 rfl Tryz.ntmps92 rfl (.seq (.q 2 rfl (.seq (.seq (.t 1 rfl (.call Tryz.func141 rfl (X0 (.of rfl) X4) rfl (Xg3 s hl _) ?_))))))
 rintro _ _ ⟨rfl,rfl⟩
 refine .q 1 rfl (.nil ?_)
 refine WC.cond rfl (fun hb8=>?_) (fun hb8=>?_)
 ·
  have hc8:=hb8; try simp only [Y5] at hc8
  refine .seq (.q 2 rfl (.ret (X1g Tryz.results92 rfl rfl ?_)))
  exact ⟨_,rfl,by rw [Xy,if_neg (by rw [hc8]; decide)],hS⟩
 have hc8:=hb8; try simp only [Y5] at hc8
 refine .skip (.seq (.t 1 rfl (.call Tryz.func142 rfl (X0 (.of rfl) X4) rfl (Xiv s hl B _ I hd As hS) ?_)))
 clear hS
 rintro _ w ⟨n1,e1,rfl,hne,hS⟩
 refine .q 5 rfl (.nil (.seq (.seq (.q 2 rfl ?_))))
 refine WC.cond rfl (fun hb15=>?_) (fun hb15=>?_)
 ·
  have hc15:=hb15; try simp only [Y5] at hc15
  refine .seq (.q 2 rfl (.ret (X1g Tryz.results92 rfl rfl ?_)))
  refine ⟨_,rfl,?_,hS⟩
  rw [Xy,if_pos hc8]
  cases hn:X2s s with
  | none=>rfl
  | some t=>rw [hn] at hne; exact absurd hne.2 hc15
 have hc15:=hb15; try simp only [Y5] at hc15
 refine .skip (.seq (.q 3 rfl (.ret (X1g Tryz.results92 rfl rfl ?_))))
 refine ⟨_,rfl,?_,hS⟩
 rw [Xy,if_pos hc8]
 cases hn:X2s s with
 | none=>rw [hn] at hne; have:=hne.2; omega
 | some t=>rw [hn] at hne; obtain ⟨rfl,rfl⟩:=hne; rfl
end Go.Proofs.YtfibbpgikjggfaaGreatDoor
namespace Pat
open Go Gk
theorem Xae {α:Type} (enc:α→List Value) (s:Nat) (hs:∀ x,(enc x).length=s):∀ (l:List α) (r:List Value) (i j:Nat) (x:α),l[i]?=some x→j<s→(l.flatMap enc ++ r)[i*s+j]?=(enc x)[j]?
 | [],_,_,_,_,h,_=>by simp at h
 | y::l,r,0,j,x,h,hj=>by
  simp at h
  subst h
  simp only [Y2h,Y3c,Yf,Y8]
  rw [Yi (by rw [hs]; exact hj)]
 | y::l,r,i+1,j,x,h,hj=>by
  simp only [Y2h,Y8]
  rw [Yt (by rw [hs,Y2z]; omega),hs]
  have e:(i+1)*s+j - s=i*s+j:=by rw [Y2z]; omega
  rw [e]
  exact Xae enc s hs l r i j x (by simpa using h) hj
theorem Xel {α:Type} (enc:α→List Value) (s:Nat) (hs:∀ x,(enc x).length=s) (f:α→α) (j:Nat) (v:Value) (hf:∀ x,enc (f x)=(enc x).set j v) (hj:j<s):∀ (l:List α) (r:List Value) (i:Nat),i<l.length→(l.flatMap enc ++ r).set (i*s+j) v=(l.modify i f).flatMap enc ++ r
 | [],_,_,h=>by simp at h
 | y::l,r,0,_=>by
  simp only [Y2h,Y3c,Yf,Y8]
  rw [Y3p _ _ (by rw [hs]; exact hj)]
  simp [hf]
 | y::l,r,i+1,h=>by
  simp only [Y2h,Y8]
  rw [Y2f _ _ (by rw [hs,Y2z]; omega),hs]
  have e:(i+1)*s+j - s=i*s+j:=by rw [Y2z]; omega
  rw [e,Xel enc s hs f j v hf hj l r i (by simpa using h)]
  simp
theorem X5g {α:Type} (enc:α→List Value) (s:Nat) (hs:∀ x,(enc x).length=s):∀ (l:List α),(l.flatMap enc).length=l.length*s
 | []=>by simp
 | y::l=>by simp only [Y2h,Y0,hs,X5g enc s hs l,Y6,Y2z]; omega
abbrev X1v:=Int×Int×Value
abbrev Pl:=Int×Int×List Int
def enc (x:X1v):List Value:=[.int .u8 x.1,.int .u8 x.2.1,x.2.2]
theorem X1a (x:X1v):(enc x).length=3:=rfl
def X4i (P:List X1v) (i:Nat) (v:Value):List X1v:=P.modify i fun x=>(x.1,x.2.1,v)
def Xr (Q:List Pl) (i:Nat) (xs:List Int):List Pl:=Q.modify i fun x=>(x.1,x.2.1,xs)
theorem X5m (P:List X1v) (i:Nat) (v:Value):(X4i P i v).length=P.length:=by simp [X4i]
theorem to_get {P:List X1v} {i:Nat} {x:X1v} (h:P[i]?=some x) (r:List Value):(P.flatMap enc ++ r)[0+i*3+2]?=some x.2.2:=by
 rw [Yf,Xae enc 3 X1a P r i 2 x h (by omega)]; rfl
theorem Xml {P:List X1v} {i:Nat} (h:i<P.length) (r:List Value) (v:Value):(P.flatMap enc ++ r).set (0+i*3+2) v=(X4i P i v).flatMap enc ++ r:=by
 rw [Yf]; exact Xel enc 3 X1a (fun x=>(x.1,x.2.1,v)) 2 v (fun _=>rfl) (by omega) P r i h
def IntsI (I:Im) (v:Value) (xs:List Int):Prop:=(xs=[]→v=.slice none 0 0)∧∃ a c,v=.slice a xs.length c∧xs.length≤c∧RS I a 1 xs.length (xs.map I64)
theorem IntsI.mono {I J:Im} {v:Value} {xs:List Int} (h:IntsI I v xs) (hl:Le I J):IntsI J v xs:=let ⟨h0,a,c,e,hc,hr⟩:=h; ⟨h0,a,c,e,hc,hr.mono hl⟩
theorem IntsI.nil (I:Im):IntsI I (.slice none 0 0) []:=⟨fun _=>rfl,none,0,rfl,Ys _,RS.nil I 1⟩
def RelP (I:Im) (P:List X1v) (Q:List Pl):Prop:=P.length=Q.length∧∀ (i:Nat) (p:X1v) (q:Pl),P[i]?=some p→Q[i]?=some q→p.1=q.1∧p.2.1=q.2.1∧IntsI I p.2.2 q.2.2
theorem RelP.mono {I J:Im} {P:List X1v} {Q:List Pl} (h:RelP I P Q) (hl:Le I J):RelP J P Q:=⟨h.1,fun i p q hp hq=>let ⟨a,b,c⟩:=h.2 i p q hp hq; ⟨a,b,c.mono hl⟩⟩
theorem RelP.nil (I:Im):RelP I [] []:=⟨rfl,fun _ _ _ h=>by simp at h⟩
theorem RelP.snoc {I:Im} {P:List X1v} {Q:List Pl} (h:RelP I P Q) (k c:Int) (v:Value) (xs:List Int) (hv:IntsI I v xs):RelP I (P ++ [(k,c,v)]) (Q ++ [(k,c,xs)]):=by
 refine ⟨by simp [h.1],fun i p q hp hq=>?_⟩
 rcases Nat.lt_trichotomy i P.length with hi | hi | hi
 ·rw [Yi hi] at hp
  rw [Yi (by rw [← h.1]; exact hi)] at hq
  exact h.2 i p q hp hq
 ·subst hi
  rw [Yt (Ys _)] at hp
  rw [h.1,Yt (Ys _)] at hq
  simp at hp hq
  subst hp; subst hq
  exact ⟨rfl,rfl,hv⟩
 ·rw [Y1s (by simp; omega)] at hp
  cases hp
theorem RelP.set {I:Im} {P:List X1v} {Q:List Pl} (h:RelP I P Q) (i:Nat) (v:Value) (xs:List Int) (hv:IntsI I v xs):RelP I (X4i P i v) (Xr Q i xs):=by
 refine ⟨by simp [X4i,Xr,h.1],fun j p q hp hq=>?_⟩
 unfold X4i at hp
 unfold Xr at hq
 rw [Y1h] at hp hq
 by_cases e:i=j
 ·subst e
  simp only [if_true] at hp hq
  obtain ⟨p0,hp0,rfl⟩:=Y14.1 hp
  obtain ⟨q0,hq0,rfl⟩:=Y14.1 hq
  obtain ⟨a,b,_⟩:=h.2 i p0 q0 hp0 hq0
  exact ⟨a,b,hv⟩
 ·simp only [e,if_false] at hp hq
  exact h.2 j p q (by simpa using hp) (by simpa using hq)
def RelX (I:Im) (o:Nat) (P:List X1v) (Q:List Pl):Prop:=P.length=Q.length∧∀ (i:Nat) (p:X1v) (q:Pl),P[i]?=some p→Q[i]?=some q→p.1=q.1∧p.2.1=q.2.1∧(i≠o→IntsI I p.2.2 q.2.2)
theorem RelX.mono {I J:Im} {o:Nat} {P:List X1v} {Q:List Pl} (h:RelX I o P Q) (hl:Le I J):RelX J o P Q:=⟨h.1,fun i p q hp hq=>let ⟨a,b,c⟩:=h.2 i p q hp hq; ⟨a,b,fun hi=>(c hi).mono hl⟩⟩
theorem RelP.x {I:Im} {P:List X1v} {Q:List Pl} (h:RelP I P Q) (o:Nat):RelX I o P Q:=⟨h.1,fun i p q hp hq=>let ⟨a,b,c⟩:=h.2 i p q hp hq; ⟨a,b,fun _=>c⟩⟩
theorem RelX.setO {I:Im} {o:Nat} {P:List X1v} {Q:List Pl} (h:RelX I o P Q) (v:Value) (xs:List Int):RelX I o (X4i P o v) (Xr Q o xs):=by
 refine ⟨by simp [X4i,Xr,h.1],fun j p q hp hq=>?_⟩
 unfold X4i at hp
 unfold Xr at hq
 rw [Y1h] at hp hq
 by_cases e:o=j
 ·subst e
  simp only [if_true] at hp hq
  obtain ⟨p0,hp0,rfl⟩:=Y14.1 hp
  obtain ⟨q0,hq0,rfl⟩:=Y14.1 hq
  obtain ⟨a,b,_⟩:=h.2 o p0 q0 hp0 hq0
  exact ⟨a,b,fun hi=>absurd rfl hi⟩
 ·simp only [e,if_false] at hp hq
  exact h.2 j p q (by simpa using hp) (by simpa using hq)
theorem RelX.setB {I:Im} {o:Nat} {P:List X1v} {Q:List Pl} (h:RelX I o P Q) (b:Nat) (v:Value) (xs:List Int) (hv:IntsI I v xs):RelX I o (X4i P b v) (Xr Q b xs):=by
 refine ⟨by simp [X4i,Xr,h.1],fun j p q hp hq=>?_⟩
 unfold X4i at hp
 unfold Xr at hq
 rw [Y1h] at hp hq
 by_cases e:b=j
 ·subst e
  simp only [if_true] at hp hq
  obtain ⟨p0,hp0,rfl⟩:=Y14.1 hp
  obtain ⟨q0,hq0,rfl⟩:=Y14.1 hq
  obtain ⟨a,b,_⟩:=h.2 b p0 q0 hp0 hq0
  exact ⟨a,b,fun _=>hv⟩
 ·simp only [e,if_false] at hp hq
  exact h.2 j p q (by simpa using hp) (by simpa using hq)
theorem RelX.back {I:Im} {o:Nat} {P:List X1v} {Q:List Pl} (h:RelX I o P Q) (hv:∀ p q,P[o]?=some p→Q[o]?=some q→IntsI I p.2.2 q.2.2):RelP I P Q :=
 ⟨h.1,fun i p q hp hq=>by
  obtain ⟨a,b,c⟩:=h.2 i p q hp hq
  refine ⟨a,b,?_⟩
  by_cases e:i=o
  ·subst e; exact hv p q hp hq
  ·exact c e⟩
def X10 (n:Nat) (o:Nat):List Pl→List Int→List Nat→List Pl
 | Q,_,[]=>Q
 | Q,done,b::r=>X10 n o (Xr (Xr Q o (done ++ [(b:Int)+1])) b [(n:Int)]) (done ++ [(b:Int)+1]) r
theorem X2q (n o:Nat):∀ (r:List Nat) (Q:List Pl) (done:List Int),(X10 n o Q done r).length=Q.length
 | [],_,_=>rfl
 | b::r,Q,done=>by rw [X10,X2q n o r]; simp [Xr]
theorem Xg6 {B w:World} {I:Im} {As:List X9} {k E:Nat} {v:Value} {xs:List Int} (hS:Sat B w I As) (hk:As[k]?=some (Vec E 1 v xs.length (xs.map I64))) (hn:xs=[]→v=.slice none 0 0):∃ J,Le I J∧IntsI J v xs∧Sat B w J (As.eraseIdx k):=by
 rcases Y1k xs.length with h0 | h0
 ·have hx:xs=[]:=Ye h0
  subst hx
  obtain ⟨a,c,rfl,hc,_⟩:=hS.vecSlice hk
  exact ⟨I,Le.refl I,⟨hn,a,c,rfl,hc,by simp,fun h=>absurd h (by simp)⟩,hS.drop hk⟩
 ·obtain ⟨b,cap,r,rfl,h1,h2,_,_,hSo⟩:=hS.vecOpen hk h0
  have hlk:k<As.length:=(Y4.1 hk).1
  obtain ⟨J,hJ,hb,hS'⟩:=hSo.freeze (k:=k) (b:=b) (o:=Xh (xs.map I64 ++ r) E) (by simp [hlk,blk])
  refine ⟨J,hJ,⟨hn,_,_,rfl,h1,by simp,fun _=>⟨_,rfl,rfl,_,_,_,hb,?_⟩⟩,by simpa [Y34] using hS'⟩
  intro j u hj
  have hjl:j<(xs.map I64).length:=(Y4.1 hj).1
  simp only [Yf,List.getElem?_toArray]
  rw [Yi hjl]
  exact hj
abbrev PFr:=Nat×List Nat
def cmpGo:List UInt8→Int→List Pl→List PFr→List Int→Except (Int×Int) (List Pl)
 | [],_,Q,_,ats=>if 0<ats.length then .error (23,ats.getD (ats.length - 1) 0) else .ok (Q ++ [(7,0,[])])
 | c::r,i,Q,stk,ats =>
  if c.toNat=63 then cmpGo r (i+1) (Q ++ [(1,0,[])]) stk ats
  else if c.toNat=42 then (match r with
   | d::r'=>if d.toNat=42 then cmpGo r' (i+2) (Q ++ [(2,0,[])]) stk ats else cmpGo (d::r') (i+1) (Q ++ [(3,0,[])]) stk ats
   | []=>cmpGo [] (i+1) (Q ++ [(3,0,[])]) stk ats)
  else if c.toNat=40 then (if stk.length=4 then .error (24,i) else cmpGo r (i+1) (Q ++ [(4,0,[])]) ((Q.length,[])::stk) (ats ++ [i]))
  else if c.toNat=124 then (match stk with
   | []=>.error (10,i)
   | (o,bs)::rest=>cmpGo r (i+1) (Q ++ [(5,0,[])]) ((o,bs ++ [Q.length])::rest) ats)
  else if c.toNat=41 then (match stk with
   | []=>.error (10,i)
   | (o,bs)::rest=>cmpGo r (i+1) (X10 Q.length o Q [] bs ++ [(6,0,[])]) rest (ats.take rest.length))
  else if c.toNat=92 then (match r with | []=>.error (10,i) | d::r'=>cmpGo r' (i+2) (Q ++ [(0,(d.toNat:Int),[])]) stk ats)
  else cmpGo r (i+1) (Q ++ [(0,(c.toNat:Int),[])]) stk ats
theorem X3w (i:Int) (Q:List Pl) (stk:List PFr) (ats:List Int):cmpGo [] i Q stk ats=if 0<ats.length then .error (23,ats.getD (ats.length - 1) 0) else .ok (Q ++ [(7,0,[])]):=by rw [cmpGo.eq_def]
theorem Xg (c:UInt8) (r:List UInt8) (i:Int) (Q:List Pl) (stk:List PFr) (ats:List Int):cmpGo (c::r) i Q stk ats =
  if c.toNat=63 then cmpGo r (i+1) (Q ++ [(1,0,[])]) stk ats
  else if c.toNat=42 then (match r with
   | d::r'=>if d.toNat=42 then cmpGo r' (i+2) (Q ++ [(2,0,[])]) stk ats else cmpGo (d::r') (i+1) (Q ++ [(3,0,[])]) stk ats
   | []=>cmpGo [] (i+1) (Q ++ [(3,0,[])]) stk ats)
  else if c.toNat=40 then (if stk.length=4 then .error (24,i) else cmpGo r (i+1) (Q ++ [(4,0,[])]) ((Q.length,[])::stk) (ats ++ [i]))
  else if c.toNat=124 then (match stk with
   | []=>.error (10,i)
   | (o,bs)::rest=>cmpGo r (i+1) (Q ++ [(5,0,[])]) ((o,bs ++ [Q.length])::rest) ats)
  else if c.toNat=41 then (match stk with
   | []=>.error (10,i)
   | (o,bs)::rest=>cmpGo r (i+1) (X10 Q.length o Q [] bs ++ [(6,0,[])]) rest (ats.take rest.length))
  else if c.toNat=92 then (match r with | []=>.error (10,i) | d::r'=>cmpGo r' (i+2) (Q ++ [(0,(d.toNat:Int),[])]) stk ats)
  else cmpGo r (i+1) (Q ++ [(0,(c.toNat:Int),[])]) stk ats:=by rw [cmpGo.eq_def]
def cmp (l:List UInt8):Except (Int×Int) (List Pl):=if 200<l.length then .error (2,0) else cmpGo l 0 [] [] []
def Frames (Q:List Pl):Nat→List PFr→Prop
 | _,[]=>True
 | lim,(o,bs)::r=>o<lim∧Q[o]?=some (4,0,[])∧bs.length≤Q.length∧(∀ b∈bs,o<b∧b<Q.length)∧Frames Q o r
theorem Frames.grow {Q Q':List Pl}:∀ {stk:List PFr} {lim lim':Nat},Frames Q lim stk→lim≤lim'→Q.length≤Q'.length→(∀ i,i<lim→Q[i]?=some (4,0,[])→Q'[i]?=some (4,0,[]))→Frames Q' lim' stk
 | [],_,_,_,_,_,_=>trivial
 | (o,bs)::r,lim,lim',⟨h1,h2,h3,h4,h5⟩,hl,hq,hk =>
  ⟨by omega,hk o h1 h2,by omega,fun b hb=>⟨(h4 b hb).1,by have:=(h4 b hb).2; omega⟩,h5.grow (Ys _) hq fun i hi=>hk i (by omega)⟩
theorem Frames.app {Q:List Pl} {stk:List PFr} (h:Frames Q Q.length stk) (x:Pl):Frames (Q ++ [x]) (Q ++ [x]).length stk :=
 h.grow (by simp) (by simp) fun i hi hq=>by rw [Yi hi]; exact hq
theorem X7g (n o:Nat):∀ (bs:List Nat) (Q:List Pl) (done:List Int) (i:Nat),i≠o→(∀ b∈bs,b≠i)→(X10 n o Q done bs)[i]?=Q[i]?
 | [],_,_,_,_,_=>rfl
 | b::r,Q,done,i,h,hb=>by
  rw [X10,X7g n o r _ _ i h fun x hx=>hb x (Y2a _ hx)]
  have hbi:b≠i:=hb b (by simp)
  simp [Xr,Y1h,hbi,Ne.symm h]
theorem Frames.close {Q:List Pl} {o:Nat} {bs:List Nat} {rest:List PFr} (h:Frames Q Q.length ((o,bs)::rest)) (x:Pl):Frames (X10 Q.length o Q [] bs ++ [x]) (X10 Q.length o Q [] bs ++ [x]).length rest:=by
 obtain ⟨h1,h2,h3,h4,h5⟩:=h
 refine h5.grow (by simp [X2q]; omega) (by simp [X2q]) fun i hi hq=>?_
 rw [Yi (by rw [X2q]; omega),X7g _ _ _ _ _ _ (by omega) fun b hb=>by have:=(h4 b hb).1; omega]
 exact hq
def mks (f:PFr):List Int:=(f.1::f.2).map fun (x:Nat)=>(x:Int)
theorem Xet {st:List (Value×List Int)} {f:PFr} {rest:List PFr} (h:st.map (·.2)=(f::rest).reverse.map mks):∃ st0 mv,st=st0 ++ [(mv,mks f)]∧st0.map (·.2)=rest.reverse.map mks:=by
 have hne:st≠[]:=fun e=>by subst e; simp at h
 have hs:=Y2y hne
 rw [← hs,List.reverse_cons,Yy,Yy] at h
 simp only [Y1c,Y3d] at h
 have h2:=List.append_inj' h rfl
 refine ⟨st.dropLast,(st.getLast hne).1,?_,h2.1⟩
 have h3:(st.getLast hne).2=mks f:=by simpa using h2.2
 rw [← h3]
 exact hs.symm
theorem Xfi {B w:World} {I:Im} {As:List X9} (hS:Sat B w I As):Sat B w I (SepAll []::As):=by
 obtain ⟨h,hs,hg⟩:=hS
 exact ⟨h,⟨[],h,rfl,rfl,hs⟩,hg⟩
def PatI (I:Im) (p:Addr) (Q:List Pl) (n:Nat):Prop:=∃ a c P,At I p [.slice a P.length c,I64 n]∧P.length≤c∧RS I a 3 P.length (P.flatMap enc)∧RelP I P Q
theorem PatI.mono {I J:Im} {p:Addr} {Q:List Pl} {n:Nat} (h:PatI I p Q n) (hl:Le I J):PatI J p Q n:=let ⟨a,c,P,h1,h2,h3,h4⟩:=h; ⟨a,c,P,h1.mono hl,h2,h3.mono hl,h4.mono hl⟩
theorem RelP.nil_of {I:Im} {P:List X1v} {Q:List Pl} (h:RelP I P Q) {o:Nat} {k c:Int} (hq:Q[o]?=some (k,c,[])):P[o]?=some (k,c,.slice none 0 0):=by
 have hlt:o<Q.length:=(Y4.1 hq).1
 obtain ⟨⟨p1,p2,p3⟩,hp⟩:∃ p,P[o]?=some p:=⟨_,Y7 (by rw [h.1]; exact hlt)⟩
 obtain ⟨a,b,h0,_⟩:=h.2 o _ _ hp hq
 have h1:=h0 rfl
 simp only at a b h1
 subst a; subst b; subst h1
 exact hp
end Pat
namespace Pat
open Gk
def iter {β:Type} (f:β→Nat→β) (b:β):Nat→β
 | 0=>b
 | k+1=>f (iter f b k) k
def X1o (s p:List UInt8):Bool:=decide ((p.length:Int)≤(s.length:Int)) && (s.take (p.length:Int).toNat == p)
def chkGo:List UInt8→Int→List Int→Int×Int
 | [],_,o=>if 0<o.length then (23,o.getD (o.length - 1) 0) else (0,0)
 | c::r,i,o =>
  if c.toNat=40 then (if o.length=4 then (24,i) else chkGo r (i+1) (o ++ [i]))
  else if c.toNat=41 then (if o.length=0 then (10,i) else chkGo r (i+1) (o.take (o.length - 1)))
  else if c.toNat=124 then (if o.length=0 then (10,i) else chkGo r (i+1) o)
  else if c.toNat=92 then (match r with | []=>(10,i) | _::r'=>chkGo r' (i+2) o)
  else chkGo r (i+1) o
theorem Xh8 (i:Int) (o:List Int):chkGo [] i o=if 0<o.length then (23,o.getD (o.length - 1) 0) else (0,0):=by rw [chkGo.eq_def]
theorem X9e (c:UInt8) (r:List UInt8) (i:Int) (o:List Int):chkGo (c::r) i o=if c.toNat=40 then (if o.length=4 then (24,i) else chkGo r (i+1) (o ++ [i]))
  else if c.toNat=41 then (if o.length=0 then (10,i) else chkGo r (i+1) (o.take (o.length - 1)))
  else if c.toNat=124 then (if o.length=0 then (10,i) else chkGo r (i+1) o)
  else if c.toNat=92 then (match r with | []=>(10,i) | _::r'=>chkGo r' (i+2) o)
  else chkGo r (i+1) o:=by rw [chkGo.eq_def]
def chk (l:List UInt8):Int×Int:=if 200<l.length then (2,0) else chkGo l 0 []
end Pat
namespace Go.Proofs.YtfibbpgikjggfaaGreatDoor
open Gk Pat
def X31 (E:Nat) (st:List (Value×List Int)):X9:=SepAll (st.map fun x=>Vec E 1 x.1 x.2.length (x.2.map I64))
theorem Xie {o b:Nat} {bs pre r:List Nat} (h:bs=pre ++ b::r) (rm:List Value):(((o::bs).map fun (x:Nat)=>(x:Int)).map I64 ++ rm)[1+(pre.length:Int).toNat*1]?=some (I64 b):=by
 subst h
 rw [Yk,Y1i,Yi (by simp; omega)]
 simp [Y43 1]
theorem X2n:Tryz.prog.info? 3=some Tryz.t3:=by kernel_rfl
theorem X3h:Tryz.prog.info? 168=some Tryz.t168:=by kernel_rfl
theorem Xd3:Tryz.prog.info? 238=some Tryz.t238:=by kernel_rfl
theorem Xff:Bld Tryz.prog 238 [(0,1),(1,1),(2,1)] [.int .u8 0,.int .u8 0,.slice none 0 0]:=X2l X4r Xlx (fun w=>by simp [go_sem])
theorem X29 (bc n:Nat) (lv sv av:Value) (xs:List Value) (kd b:Int) (B w:World) (I:Im) (F:List X9) (hS:Sat B w I (blk bc [lv,sv,av] 267::Vec 238 3 lv n xs::F)) (hn:n≤1000) :
  Calls Tryz.prog 223 [ptr bc 0,.int .u8 kd,.int .u8 b].toArray w (Ret fun v w'=>v=.tuple #[]∧∃ lv',Sat B w' I (blk bc [lv',sv,av] 267::Vec 238 3 lv' (n+1) (xs ++ [.int .u8 kd,.int .u8 b,.slice none 0 0])::F)):=by
 refine calls X67 rfl Tryz.ntmps223 rfl (.t 3 rfl (.val (.fieldAddr 0 (.of rfl) X1c rfl rfl X56 rfl) rfl (.val (.ld (.of rfl) hS (k:=0) rfl X6k rfl) rfl (.q 2 rfl (.val (.build (cs:=[_,_,_]) (X5 (.of rfl) (X5 (.of rfl) X6)) Xff rfl) rfl (.buildSlice (cs:=[_,_,_]) hS (X5 (.of rfl) X6) X62 X8d Xlx rfl rfl rfl rfl ?_))))))
 clear hS; intro b14 w hS
 refine WL.append (size:=3) (bytes:=32) hS (.of rfl) (.of rfl) (k:=1) rfl X62 Xd3 rfl rfl rfl rfl rfl rfl rfl ⟨by omega,by unfold maxLen; omega⟩ rfl ?_
 clear hS; intro v15 w hS; try dsimp only [List.set] at hS
 obtain ⟨a15,c15,rfl,hcap15,_⟩:=hS.vecSlice (k:=1) (v:=v15) rfl
 refine .q 1 rfl (.val (.fieldAddr 0 (.of rfl) X1c rfl rfl X56 rfl) rfl (.st1 hS (k:=0) rfl (.of rfl) (.of rfl) rfl X56 (by simp) ?_))
 clear hS; intro w hS; try dsimp only [List.set] at hS
 refine .nil (X7d Tryz.results223 ?_)
 exact ⟨_,rfl,rfl,_,hS⟩
theorem Xdb (bc n:Nat) (lv sv av:Value) (xs:List Value) (st:List (Value×List Int)) (ats:List Int) (at_:Int) (B w:World) (I:Im) (F:List X9) (hS:Sat B w I (blk bc [lv,sv,av] 267::Vec 238 3 lv n xs::Vec 168 1 sv st.length (st.map (·.1))::Vec 3 1 av ats.length (ats.map I64)::X31 3 st::F)) (hn:n≤1000) (hd:st.length≤1000) (hd2:ats.length≤1000) :
  Calls Tryz.prog 224 [ptr bc 0,I64 at_].toArray w (Ret fun v w'=>v=.tuple #[]∧∃ lv' sv' av' mv,Sat B w' I (blk bc [lv',sv',av'] 267::Vec 238 3 lv' (n+1) (xs ++ [.int .u8 4,.int .u8 0,.slice none 0 0])::Vec 168 1 sv' (st.length+1) (st.map (·.1) ++ [mv])::Vec 3 1 av' (ats.length+1) (ats.map I64 ++ [I64 at_])::X31 3 (st ++ [(mv,[(n:Int)])])::F)):=by
 refine calls Tryz.func224 rfl Tryz.ntmps224 rfl (.seq ?_)
 obtain ⟨la,lc,rfl,hlc,_⟩:=hS.vecSlice (k:=1) rfl
 obtain ⟨sa,sc,rfl,hsc,_⟩:=hS.vecSlice (k:=2) rfl
 obtain ⟨aa,ac,rfl,hac,_⟩:=hS.vecSlice (k:=3) rfl
 refine .drawn (fun w=>∃ R,Sat B w I (blk bc [.slice la n lc,.slice sa st.length sc,.slice aa ats.length ac] 267::R)) (fun j=>!([23,26].contains j)) (by kernel_rfl) ?_
 replace hS:=hS.drew; generalize w.drew=w at hS ⊢
 have hH:∃ R,Sat B w I (blk bc [.slice la n lc,.slice sa st.length sc,.slice aa ats.length ac] 267::R):=⟨_,(hS.pick 0 rfl)⟩
 refine .tp (i:=0) rfl (by kernel_rfl) (fun w=>(.move (.of rfl))) rfl (.tp (i:=1) rfl (by kernel_rfl) (fun w=>(.move (.of rfl))) rfl (.tp (i:=2) rfl (by kernel_rfl) (fun w=>(.move (.of rfl))) rfl (.tp (i:=3) rfl (by kernel_rfl) (fun w=>(.nilCheck (.of rfl))) rfl (.tp (i:=4) rfl (by kernel_rfl) (fun w=>(.fieldAddr 1 (.of rfl) X1c rfl rfl X3u rfl)) rfl (.tk (i:=5) rfl (by kernel_rfl) hH (fun w ⟨R,hS⟩=>(.ld (.of rfl) hS (k:=0) rfl Xd8 rfl)) rfl (.tp (i:=6) rfl (by kernel_rfl) (fun w=>(.move (.of rfl))) rfl (.tp (i:=7) rfl (by kernel_rfl) (fun w=>(.nilCheck (.of rfl))) rfl (.tp (i:=8) rfl (by kernel_rfl) (fun w=>(.fieldAddr 0 (.of rfl) X1c rfl rfl X56 rfl)) rfl (.tk (i:=9) rfl (by kernel_rfl) hH (fun w ⟨R,hS⟩=>(.ld (.of rfl) hS (k:=0) rfl X6k rfl)) rfl (.tp (i:=10) rfl (by kernel_rfl) (fun w=>(.lenSlice (.of rfl) X62)) rfl (.tp (i:=14) rfl (by kernel_rfl) (fun w=>(.move (.of rfl))) rfl (.tp (i:=15) rfl (by kernel_rfl) (fun w=>(.nilCheck (.of rfl))) rfl (.tp (i:=16) rfl (by kernel_rfl) (fun w=>(.fieldAddr 2 (.of rfl) X1c rfl rfl X1n rfl)) rfl (.tk (i:=17) rfl (by kernel_rfl) hH (fun w ⟨R,hS⟩=>(.ld (.of rfl) hS (k:=0) rfl Xbv rfl)) rfl (.tp (i:=18) rfl (by kernel_rfl) (fun w=>(.move (.of rfl))) rfl ?_)))))))))))))))
 refine WD.branch [11,19] (by kernel_rfl) rfl (WO.cons rfl ?_ (WO.cons rfl ?_ (WO.nil)))
 ·
  refine .buildSlice (cs:=[_]) hS (X5 (.of rfl) X6) Xm Qs3 Qz3 rfl rfl rfl rfl ?_
  clear hS; intro b15 w hS
  refine .nil ?_
  clear hH
  have hH:∃ R,Sat B w I (blk bc [.slice la n lc,.slice sa st.length sc,.slice aa ats.length ac] 267::R):=⟨_,(hS.pick 1 rfl)⟩
  refine And.intro (by intro _ _; exact hH) ?_
  refine WD.branch [12,19] (by kernel_rfl) rfl (WO.cons rfl ?_ (WO.cons rfl ?_ (WO.nil)))
  ·
   refine .buildSlice (cs:=[_]) hS (X5 (.of rfl) X6) X68 X1n Xof rfl rfl rfl rfl ?_
   clear hS; intro b16 w hS
   refine .nil ?_
   clear hH
   have hH:∃ R,Sat B w I (blk bc [.slice la n lc,.slice sa st.length sc,.slice aa ats.length ac] 267::R):=⟨_,(hS.pick 2 rfl)⟩
   refine And.intro (by intro _ _; exact hH) ?_
   refine WD.branch [13,19] (by kernel_rfl) rfl (WO.cons rfl ?_ (WO.cons rfl ?_ (WO.nil)))
   ·
    refine WL.append (size:=1) (bytes:=24) hS (.of rfl) (.of rfl) (k:=3) rfl X68 X3h rfl rfl rfl rfl rfl rfl rfl ⟨by omega,by unfold maxLen; omega⟩ rfl ?_
    clear hS; intro v17 w hS; try dsimp only [List.set] at hS
    obtain ⟨a17,c17,rfl,hcap17,_⟩:=hS.vecSlice (k:=3) (v:=v17) rfl
    refine .nil ?_
    clear hH
    have hH:∃ R,Sat B w I (blk bc [.slice la n lc,.slice sa st.length sc,.slice aa ats.length ac] 267::R):=⟨_,(hS.pick 1 rfl)⟩
    refine And.intro (by intro _ _; exact hH) ?_
    refine WD.branch [19] (by kernel_rfl) rfl (WO.cons rfl ?_ (WO.nil))
    refine .buildSlice (cs:=[_]) hS (X5 (.of rfl) X6) Xm Qs3 Qz3 rfl rfl rfl rfl ?_
    clear hS; intro b23 w hS
    refine .nil ?_
    clear hH
    have hH:∃ R,Sat B w I (blk bc [.slice la n lc,.slice sa st.length sc,.slice aa ats.length ac] 267::R):=⟨_,(hS.pick 2 rfl)⟩
    refine And.intro (by intro _ _; exact hH) ?_
    refine WD.branch [20] (by kernel_rfl) rfl (WO.cons rfl ?_ (WO.nil))
    refine WL.append (size:=1) (bytes:=8) hS (.of rfl) (.of rfl) (k:=4) rfl Xm X2n rfl rfl rfl rfl rfl rfl rfl ⟨by omega,by unfold maxLen; omega⟩ rfl ?_
    clear hS; intro v24 w hS; try dsimp only [List.set] at hS
    obtain ⟨a24,c24,rfl,hcap24,_⟩:=hS.vecSlice (k:=4) (v:=v24) rfl
    refine .nil ?_
    clear hH
    have hH:∃ R,Sat B w I (blk bc [.slice la n lc,.slice sa st.length sc,.slice aa ats.length ac] 267::R):=⟨_,(hS.pick 1 rfl)⟩
    refine And.intro (by intro _ _; exact hH) ?_
    refine .tp (i:=21) rfl (by kernel_rfl) (fun w=>(.nilCheck (.of rfl))) rfl (.tp (i:=22) rfl (by kernel_rfl) (fun w=>(.fieldAddr 1 (.of rfl) X1c rfl rfl X3u rfl)) rfl ?_)
    refine WD.branch [23] (by kernel_rfl) rfl (WO.cons rfl ?_ (WO.nil))
    refine .st1 hS (k:=1) rfl (.of rfl) (.of rfl) rfl X3u (by simp) ?_
    clear hS; intro w hS; try dsimp only [List.set] at hS
    refine .nil ?_
    refine And.intro (by intro h; cases h) ?_
    refine .tp (i:=24) rfl (by kernel_rfl) (fun w=>(.nilCheck (.of rfl))) rfl (.tp (i:=25) rfl (by kernel_rfl) (fun w=>(.fieldAddr 2 (.of rfl) X1c rfl rfl X1n rfl)) rfl ?_)
    refine WD.branch [26] (by kernel_rfl) rfl (WO.cons rfl ?_ (WO.nil))
    refine .st1 hS (k:=1) rfl (.of rfl) (.of rfl) rfl X1n (by simp) ?_
    clear hS; intro w hS; try dsimp only [List.set] at hS
    refine .nil ?_
    refine And.intro (by intro h; cases h) ?_
    refine .done (by kernel_rfl) (.t 1 rfl ?_)
    replace hS:=hS.vecOf (k:=0) (E:=3) (size:=1) (n:=1) rfl rfl (by unfold maxLen; omega); try dsimp only [List.set] at hS
    replace hS:=hS.push (k:=4) rfl; try dsimp only [List.set] at hS
    refine .call X67 rfl (X0 (.of rfl) (X0 (.of rfl) (X0 (.of rfl) X4))) rfl (X29 _ _ _ _ _ _ _ _ _ _ _ _ hS (by omega)) ?_
    clear hS
    rintro _ w ⟨rfl,lv,hS⟩
    refine .nil (X7d Xl7 ?_)
    replace hS:=hS.say (k:=4) (A':=X31 3 (st ++ [(.slice (some (ad b15 0)) 1 1,[(n:Int)])])) rfl (fun h hh=>by rw [X31,Yy]; exact hh); try dsimp only [List.set] at hS
    exact ⟨_,rfl,rfl,_,_,_,_,hS⟩
   ·
    refine .buildSlice (cs:=[_]) hS (X5 (.of rfl) X6) Xm Qs3 Qz3 rfl rfl rfl rfl ?_
    clear hS; intro b23 w hS
    refine .nil ?_
    clear hH
    have hH:∃ R,Sat B w I (blk bc [.slice la n lc,.slice sa st.length sc,.slice aa ats.length ac] 267::R):=⟨_,(hS.pick 3 rfl)⟩
    refine And.intro (by intro _ _; exact hH) ?_
    refine WD.branch [13] (by kernel_rfl) rfl (WO.cons rfl ?_ (WO.nil))
    replace hS:=hS.pick 1 rfl; try dsimp only [List.eraseIdx] at hS
    refine WL.append (size:=1) (bytes:=24) hS (.of rfl) (.of rfl) (k:=4) rfl X68 X3h rfl rfl rfl rfl rfl rfl rfl ⟨by omega,by unfold maxLen; omega⟩ rfl ?_
    clear hS; intro v17 w hS; try dsimp only [List.set] at hS
    obtain ⟨a17,c17,rfl,hcap17,_⟩:=hS.vecSlice (k:=4) (v:=v17) rfl
    refine .nil ?_
    clear hH
    have hH:∃ R,Sat B w I (blk bc [.slice la n lc,.slice sa st.length sc,.slice aa ats.length ac] 267::R):=⟨_,(hS.pick 2 rfl)⟩
    refine And.intro (by intro _ _; exact hH) ?_
    refine WD.branch [20] (by kernel_rfl) rfl (WO.cons rfl ?_ (WO.nil))
    refine WL.append (size:=1) (bytes:=8) hS (.of rfl) (.of rfl) (k:=4) rfl Xm X2n rfl rfl rfl rfl rfl rfl rfl ⟨by omega,by unfold maxLen; omega⟩ rfl ?_
    clear hS; intro v24 w hS; try dsimp only [List.set] at hS
    obtain ⟨a24,c24,rfl,hcap24,_⟩:=hS.vecSlice (k:=4) (v:=v24) rfl
    refine .nil ?_
    clear hH
    have hH:∃ R,Sat B w I (blk bc [.slice la n lc,.slice sa st.length sc,.slice aa ats.length ac] 267::R):=⟨_,(hS.pick 1 rfl)⟩
    refine And.intro (by intro _ _; exact hH) ?_
    refine .tp (i:=21) rfl (by kernel_rfl) (fun w=>(.nilCheck (.of rfl))) rfl (.tp (i:=22) rfl (by kernel_rfl) (fun w=>(.fieldAddr 1 (.of rfl) X1c rfl rfl X3u rfl)) rfl ?_)
    refine WD.branch [23] (by kernel_rfl) rfl (WO.cons rfl ?_ (WO.nil))
    refine .st1 hS (k:=1) rfl (.of rfl) (.of rfl) rfl X3u (by simp) ?_
    clear hS; intro w hS; try dsimp only [List.set] at hS
    refine .nil ?_
    refine And.intro (by intro h; cases h) ?_
    refine .tp (i:=24) rfl (by kernel_rfl) (fun w=>(.nilCheck (.of rfl))) rfl (.tp (i:=25) rfl (by kernel_rfl) (fun w=>(.fieldAddr 2 (.of rfl) X1c rfl rfl X1n rfl)) rfl ?_)
    refine WD.branch [26] (by kernel_rfl) rfl (WO.cons rfl ?_ (WO.nil))
    refine .st1 hS (k:=1) rfl (.of rfl) (.of rfl) rfl X1n (by simp) ?_
    clear hS; intro w hS; try dsimp only [List.set] at hS
    refine .nil ?_
    refine And.intro (by intro h; cases h) ?_
    refine .done (by kernel_rfl) (.t 1 rfl ?_)
    replace hS:=hS.vecOf (k:=0) (E:=3) (size:=1) (n:=1) rfl rfl (by unfold maxLen; omega); try dsimp only [List.set] at hS
    replace hS:=hS.push (k:=4) rfl; try dsimp only [List.set] at hS
    refine .call X67 rfl (X0 (.of rfl) (X0 (.of rfl) (X0 (.of rfl) X4))) rfl (X29 _ _ _ _ _ _ _ _ _ _ _ _ hS (by omega)) ?_
    clear hS
    rintro _ w ⟨rfl,lv,hS⟩
    refine .nil (X7d Xl7 ?_)
    replace hS:=hS.say (k:=4) (A':=X31 3 (st ++ [(.slice (some (ad b15 0)) 1 1,[(n:Int)])])) rfl (fun h hh=>by rw [X31,Yy]; exact hh); try dsimp only [List.set] at hS
    exact ⟨_,rfl,rfl,_,_,_,_,hS⟩
  ·
   refine .buildSlice (cs:=[_]) hS (X5 (.of rfl) X6) Xm Qs3 Qz3 rfl rfl rfl rfl ?_
   clear hS; intro b23 w hS
   refine .nil ?_
   clear hH
   have hH:∃ R,Sat B w I (blk bc [.slice la n lc,.slice sa st.length sc,.slice aa ats.length ac] 267::R):=⟨_,(hS.pick 2 rfl)⟩
   refine And.intro (by intro _ _; exact hH) ?_
   refine WD.branch [12] (by kernel_rfl) rfl (WO.cons rfl ?_ (WO.nil))
   refine .buildSlice (cs:=[_]) hS (X5 (.of rfl) X6) X68 X1n Xof rfl rfl rfl rfl ?_
   clear hS; intro b16 w hS
   refine .nil ?_
   clear hH
   have hH:∃ R,Sat B w I (blk bc [.slice la n lc,.slice sa st.length sc,.slice aa ats.length ac] 267::R):=⟨_,(hS.pick 3 rfl)⟩
   refine And.intro (by intro _ _; exact hH) ?_
   refine WD.branch [13] (by kernel_rfl) rfl (WO.cons rfl ?_ (WO.nil))
   refine WL.append (size:=1) (bytes:=24) hS (.of rfl) (.of rfl) (k:=4) rfl X68 X3h rfl rfl rfl rfl rfl rfl rfl ⟨by omega,by unfold maxLen; omega⟩ rfl ?_
   clear hS; intro v17 w hS; try dsimp only [List.set] at hS
   obtain ⟨a17,c17,rfl,hcap17,_⟩:=hS.vecSlice (k:=4) (v:=v17) rfl
   refine .nil ?_
   clear hH
   have hH:∃ R,Sat B w I (blk bc [.slice la n lc,.slice sa st.length sc,.slice aa ats.length ac] 267::R):=⟨_,(hS.pick 2 rfl)⟩
   refine And.intro (by intro _ _; exact hH) ?_
   refine WD.branch [20] (by kernel_rfl) rfl (WO.cons rfl ?_ (WO.nil))
   refine WL.append (size:=1) (bytes:=8) hS (.of rfl) (.of rfl) (k:=4) rfl Xm X2n rfl rfl rfl rfl rfl rfl rfl ⟨by omega,by unfold maxLen; omega⟩ rfl ?_
   clear hS; intro v24 w hS; try dsimp only [List.set] at hS
   obtain ⟨a24,c24,rfl,hcap24,_⟩:=hS.vecSlice (k:=4) (v:=v24) rfl
   refine .nil ?_
   clear hH
   have hH:∃ R,Sat B w I (blk bc [.slice la n lc,.slice sa st.length sc,.slice aa ats.length ac] 267::R):=⟨_,(hS.pick 1 rfl)⟩
   refine And.intro (by intro _ _; exact hH) ?_
   refine .tp (i:=21) rfl (by kernel_rfl) (fun w=>(.nilCheck (.of rfl))) rfl (.tp (i:=22) rfl (by kernel_rfl) (fun w=>(.fieldAddr 1 (.of rfl) X1c rfl rfl X3u rfl)) rfl ?_)
   refine WD.branch [23] (by kernel_rfl) rfl (WO.cons rfl ?_ (WO.nil))
   refine .st1 hS (k:=1) rfl (.of rfl) (.of rfl) rfl X3u (by simp) ?_
   clear hS; intro w hS; try dsimp only [List.set] at hS
   refine .nil ?_
   refine And.intro (by intro h; cases h) ?_
   refine .tp (i:=24) rfl (by kernel_rfl) (fun w=>(.nilCheck (.of rfl))) rfl (.tp (i:=25) rfl (by kernel_rfl) (fun w=>(.fieldAddr 2 (.of rfl) X1c rfl rfl X1n rfl)) rfl ?_)
   refine WD.branch [26] (by kernel_rfl) rfl (WO.cons rfl ?_ (WO.nil))
   refine .st1 hS (k:=1) rfl (.of rfl) (.of rfl) rfl X1n (by simp) ?_
   clear hS; intro w hS; try dsimp only [List.set] at hS
   refine .nil ?_
   refine And.intro (by intro h; cases h) ?_
   refine .done (by kernel_rfl) (.t 1 rfl ?_)
   replace hS:=hS.vecOf (k:=0) (E:=3) (size:=1) (n:=1) rfl rfl (by unfold maxLen; omega); try dsimp only [List.set] at hS
   replace hS:=hS.push (k:=4) rfl; try dsimp only [List.set] at hS
   refine .call X67 rfl (X0 (.of rfl) (X0 (.of rfl) (X0 (.of rfl) X4))) rfl (X29 _ _ _ _ _ _ _ _ _ _ _ _ hS (by omega)) ?_
   clear hS
   rintro _ w ⟨rfl,lv,hS⟩
   refine .nil (X7d Xl7 ?_)
   replace hS:=hS.say (k:=4) (A':=X31 3 (st ++ [(.slice (some (ad b15 0)) 1 1,[(n:Int)])])) rfl (fun h hh=>by rw [X31,Yy]; exact hh); try dsimp only [List.set] at hS
   exact ⟨_,rfl,rfl,_,_,_,_,hS⟩
 ·
  refine .buildSlice (cs:=[_]) hS (X5 (.of rfl) X6) Xm Qs3 Qz3 rfl rfl rfl rfl ?_
  clear hS; intro b23 w hS
  refine .nil ?_
  clear hH
  have hH:∃ R,Sat B w I (blk bc [.slice la n lc,.slice sa st.length sc,.slice aa ats.length ac] 267::R):=⟨_,(hS.pick 1 rfl)⟩
  refine And.intro (by intro _ _; exact hH) ?_
  refine WD.branch [11] (by kernel_rfl) rfl (WO.cons rfl ?_ (WO.nil))
  refine .buildSlice (cs:=[_]) hS (X5 (.of rfl) X6) Xm Qs3 Qz3 rfl rfl rfl rfl ?_
  clear hS; intro b15 w hS
  refine .nil ?_
  clear hH
  have hH:∃ R,Sat B w I (blk bc [.slice la n lc,.slice sa st.length sc,.slice aa ats.length ac] 267::R):=⟨_,(hS.pick 2 rfl)⟩
  refine And.intro (by intro _ _; exact hH) ?_
  refine WD.branch [12] (by kernel_rfl) rfl (WO.cons rfl ?_ (WO.nil))
  refine .buildSlice (cs:=[_]) hS (X5 (.of rfl) X6) X68 X1n Xof rfl rfl rfl rfl ?_
  clear hS; intro b16 w hS
  refine .nil ?_
  clear hH
  have hH:∃ R,Sat B w I (blk bc [.slice la n lc,.slice sa st.length sc,.slice aa ats.length ac] 267::R):=⟨_,(hS.pick 3 rfl)⟩
  refine And.intro (by intro _ _; exact hH) ?_
  refine WD.branch [13] (by kernel_rfl) rfl (WO.cons rfl ?_ (WO.nil))
  refine WL.append (size:=1) (bytes:=24) hS (.of rfl) (.of rfl) (k:=4) rfl X68 X3h rfl rfl rfl rfl rfl rfl rfl ⟨by omega,by unfold maxLen; omega⟩ rfl ?_
  clear hS; intro v17 w hS; try dsimp only [List.set] at hS
  obtain ⟨a17,c17,rfl,hcap17,_⟩:=hS.vecSlice (k:=4) (v:=v17) rfl
  refine .nil ?_
  clear hH
  have hH:∃ R,Sat B w I (blk bc [.slice la n lc,.slice sa st.length sc,.slice aa ats.length ac] 267::R):=⟨_,(hS.pick 2 rfl)⟩
  refine And.intro (by intro _ _; exact hH) ?_
  refine WD.branch [20] (by kernel_rfl) rfl (WO.cons rfl ?_ (WO.nil))
  replace hS:=hS.pick 1 rfl; try dsimp only [List.eraseIdx] at hS
  refine WL.append (size:=1) (bytes:=8) hS (.of rfl) (.of rfl) (k:=4) rfl Xm X2n rfl rfl rfl rfl rfl rfl rfl ⟨by omega,by unfold maxLen; omega⟩ rfl ?_
  clear hS; intro v24 w hS; try dsimp only [List.set] at hS
  obtain ⟨a24,c24,rfl,hcap24,_⟩:=hS.vecSlice (k:=4) (v:=v24) rfl
  refine .nil ?_
  clear hH
  have hH:∃ R,Sat B w I (blk bc [.slice la n lc,.slice sa st.length sc,.slice aa ats.length ac] 267::R):=⟨_,(hS.pick 1 rfl)⟩
  refine And.intro (by intro _ _; exact hH) ?_
  refine .tp (i:=21) rfl (by kernel_rfl) (fun w=>(.nilCheck (.of rfl))) rfl (.tp (i:=22) rfl (by kernel_rfl) (fun w=>(.fieldAddr 1 (.of rfl) X1c rfl rfl X3u rfl)) rfl ?_)
  refine WD.branch [23] (by kernel_rfl) rfl (WO.cons rfl ?_ (WO.nil))
  refine .st1 hS (k:=1) rfl (.of rfl) (.of rfl) rfl X3u (by simp) ?_
  clear hS; intro w hS; try dsimp only [List.set] at hS
  refine .nil ?_
  refine And.intro (by intro h; cases h) ?_
  refine .tp (i:=24) rfl (by kernel_rfl) (fun w=>(.nilCheck (.of rfl))) rfl (.tp (i:=25) rfl (by kernel_rfl) (fun w=>(.fieldAddr 2 (.of rfl) X1c rfl rfl X1n rfl)) rfl ?_)
  refine WD.branch [26] (by kernel_rfl) rfl (WO.cons rfl ?_ (WO.nil))
  refine .st1 hS (k:=1) rfl (.of rfl) (.of rfl) rfl X1n (by simp) ?_
  clear hS; intro w hS; try dsimp only [List.set] at hS
  refine .nil ?_
  refine And.intro (by intro h; cases h) ?_
  refine .done (by kernel_rfl) (.t 1 rfl ?_)
  replace hS:=hS.vecOf (k:=0) (E:=3) (size:=1) (n:=1) rfl rfl (by unfold maxLen; omega); try dsimp only [List.set] at hS
  replace hS:=hS.push (k:=4) rfl; try dsimp only [List.set] at hS
  refine .call X67 rfl (X0 (.of rfl) (X0 (.of rfl) (X0 (.of rfl) X4))) rfl (X29 _ _ _ _ _ _ _ _ _ _ _ _ hS (by omega)) ?_
  clear hS
  rintro _ w ⟨rfl,lv,hS⟩
  refine .nil (X7d Xl7 ?_)
  replace hS:=hS.say (k:=4) (A':=X31 3 (st ++ [(.slice (some (ad b15 0)) 1 1,[(n:Int)])])) rfl (fun h hh=>by rw [X31,Yy]; exact hh); try dsimp only [List.set] at hS
  exact ⟨_,rfl,rfl,_,_,_,_,hS⟩
theorem Xjo (bc:Nat) (lv sv av mv:Value) (P0:List X1v) (Q0:List Pl) (st:List (Value×List Int)) (o:Nat) (bs:List Nat) (ats:List Int) (B w:World) (I:Im) (F:List X9)
  (hS:Sat B w I (blk bc [lv,sv,av] 267::Vec 238 3 lv P0.length (P0.flatMap enc)::Vec 168 1 sv (st.length+1) (st.map (·.1) ++ [mv])::Vec 3 1 av ats.length (ats.map I64)::X31 3 (st ++ [(mv,(o::bs).map fun (x:Nat)=>(x:Int))])::F))
  (hR:RelP I P0 Q0) (hob:∀ b∈bs,b≠o∧b<P0.length) (ho:o<P0.length) (ko co:Int) (hPo:P0[o]?=some (ko,co,.slice none 0 0)) (hQo:Q0[o]?=some (ko,co,[])) (hn:P0.length≤1000) (hd:st.length≤1000) (hd2:ats.length=st.length+1) (hbl:bs.length≤1000) :
  Calls Tryz.prog 225 [ptr bc 0].toArray w (Ret fun v w'=>v=.tuple #[]∧∃ lv' sv' av' P' J,Le I J∧RelP J P' (X10 P0.length o Q0 [] bs ++ [(6,0,[])]) ∧
   Sat B w' J (blk bc [lv',sv',av'] 267::Vec 238 3 lv' P'.length (P'.flatMap enc)::Vec 168 1 sv' st.length (st.map (·.1))::Vec 3 1 av' st.length ((ats.take st.length).map I64)::X31 3 st::F)):=by
 refine calls Tryz.func225 rfl Tryz.ntmps225 rfl (.seq ?_)
 have hcl:=hob
 obtain ⟨gl,cl,rl,rfl,hcl1,hcl2,hcl3,hcl4,hS⟩:=hS.vecOpen (k:=1) rfl (by omega); try dsimp only [List.set] at hS
 obtain ⟨gs,sc,rs,rfl,hsc1,hsc2,hsc3,hsc4,hS⟩:=hS.vecOpen (k:=2) rfl (by omega); try dsimp only [List.set] at hS
 obtain ⟨aa,ac,rfl,hac,_⟩:=hS.vecSlice (k:=3) rfl
 refine .t 2 rfl (.val (.fieldAddr 1 (.of rfl) X1c rfl rfl X3u rfl) rfl (.val (.ld (.of rfl) hS (k:=0) rfl Xd8 rfl) rfl (.run 1 rfl ⟨⟨_,X68⟩,trivial⟩ (.val (.sub (.of rfl) (.of rfl) ⟨by omega,by omega⟩) rfl ?_))))
 rw [show ((st.length+1:Nat):Int) - 1=(st.length:Int) by omega]
 refine .q 1 rfl (.nil (.seq (.t 2 rfl (.val (.fieldAddr 1 (.of rfl) X1c rfl rfl X3u rfl) rfl (.val (.ld (.of rfl) hS (k:=0) rfl Xd8 rfl) rfl (.q 1 rfl (.val (.indexAddr (.of rfl) (.of rfl) (by omega) (by omega) X68 X1n) rfl (.val (.ld (.of rfl) hS (k:=2) rfl Xbv (v:=mv) (by simp)) rfl (.q 1 rfl (.nil (.seq (.drawn (fun w=>∃ R,Sat B w I (blk bc [.slice (some (ad gl 0)) P0.length cl,.slice (some (ad gs 0)) (st.length+1) sc,.slice aa ats.length ac] 267::R)) (fun j=>!([16,19].contains j)) (by kernel_rfl) ?_))))))))))))
 replace hS:=hS.drew; generalize w.drew=w at hS ⊢
 have hH:∃ R,Sat B w I (blk bc [.slice (some (ad gl 0)) P0.length cl,.slice (some (ad gs 0)) (st.length+1) sc,.slice aa ats.length ac] 267::R):=⟨_,(hS.pick 0 rfl)⟩
 refine .tp (i:=0) rfl (by kernel_rfl) (fun w=>(.move (.of rfl))) rfl (.tp (i:=1) rfl (by kernel_rfl) (fun w=>(.move (.of rfl))) rfl (.tp (i:=2) rfl (by kernel_rfl) (fun w=>(.move (.of rfl))) rfl (.tp (i:=3) rfl (by kernel_rfl) (fun w=>(.nilCheck (.of rfl))) rfl (.tp (i:=4) rfl (by kernel_rfl) (fun w=>(.fieldAddr 1 (.of rfl) X1c rfl rfl X3u rfl)) rfl (.tk (i:=5) rfl (by kernel_rfl) hH (fun w ⟨R,hS⟩=>(.ld (.of rfl) hS (k:=0) rfl Xd8 rfl)) rfl (.tp (i:=6) rfl (by kernel_rfl) (fun w=>(.move (.of rfl))) rfl (.tp (i:=7) rfl (by kernel_rfl) (fun w=>(.slcTo (.of rfl) (.of rfl) (by omega) (by omega) X68 X1n)) rfl (.tp (i:=8) rfl (by kernel_rfl) (fun w=>(.move (.of rfl))) rfl (.tp (i:=9) rfl (by kernel_rfl) (fun w=>(.nilCheck (.of rfl))) rfl (.tp (i:=10) rfl (by kernel_rfl) (fun w=>(.fieldAddr 2 (.of rfl) X1c rfl rfl X1n rfl)) rfl (.tk (i:=11) rfl (by kernel_rfl) hH (fun w ⟨R,hS⟩=>(.ld (.of rfl) hS (k:=0) rfl Xbv rfl)) rfl (.tp (i:=12) rfl (by kernel_rfl) (fun w=>(.move (.of rfl))) rfl (.tp (i:=13) rfl (by kernel_rfl) (fun w=>(.slcTo (.of rfl) (.of rfl) (by omega) (by omega) Xm Qs3)) rfl (.tp (i:=14) rfl (by kernel_rfl) (fun w=>(.nilCheck (.of rfl))) rfl (.tp (i:=15) rfl (by kernel_rfl) (fun w=>(.fieldAddr 1 (.of rfl) X1c rfl rfl X3u rfl)) rfl ?_)))))))))))))))
 refine WD.branch [16] (by kernel_rfl) rfl (WO.cons rfl ?_ (WO.nil))
 refine .st1 hS (k:=0) rfl (.of rfl) (.of rfl) rfl X3u (by simp) ?_
 clear hS; intro w hS; try dsimp only [List.set] at hS
 refine .nil ?_
 refine And.intro (by intro h; cases h) ?_
 refine .tp (i:=17) rfl (by kernel_rfl) (fun w=>(.nilCheck (.of rfl))) rfl (.tp (i:=18) rfl (by kernel_rfl) (fun w=>(.fieldAddr 2 (.of rfl) X1c rfl rfl X1n rfl)) rfl ?_)
 refine WD.branch [19] (by kernel_rfl) rfl (WO.cons rfl ?_ (WO.nil))
 refine .st1 hS (k:=0) rfl (.of rfl) (.of rfl) rfl X1n (by simp) ?_
 clear hS; intro w hS; try dsimp only [List.set] at hS
 refine .nil ?_
 refine And.intro (by intro h; cases h) ?_
 refine .done (by kernel_rfl) (.seq (.seq ?_))
 replace hS:=hS.vecShut (k:=2) (n:=st.length+1) (cap:=sc) rfl hsc1 hsc2 hsc3 hsc4; try dsimp only [List.set] at hS
 replace hS:=hS.vecTake (k:=2) (m:=(st.length:Int).toNat) rfl (by simp); try dsimp only [List.set] at hS
 obtain ⟨a2,c2,e2,hS⟩:=hS.vecTakeI (k:=3) (f:=I64) (m:=(st.length:Int).toNat) rfl (by simp; omega); try dsimp only [List.set] at hS
 have e3:(st.map (·.1) ++ [mv]).take ((st.length:Int).toNat*1)=st.map (·.1):=by rw [Y1i]; exact List.take_left' (by simp)
 rw [e3] at hS; rw [e2] at hS
 have e4:X31 3 (st ++ [(mv,(o::bs).map fun (x:Nat)=>(x:Int))])=SepAll ((st.map fun x=>Vec 3 1 x.1 x.2.length (x.2.map I64)) ++ [Vec 3 1 mv ((o::bs).map fun (x:Nat)=>(x:Int)).length (((o::bs).map fun (x:Nat)=>(x:Int)).map I64)]):=by rw [X31,Yy]; rfl
 rw [e4] at hS
 replace hS:=hS.pop (k:=4) rfl; try dsimp only [List.set] at hS
 obtain ⟨gm,cm,rm,hmv,hcm1,hcm2,hcm3,hcm4,hT⟩:=hS.vecOpen (k:=0) rfl (by simp)
 have hml:((o::bs).map fun (x:Nat)=>(x:Int)).length=bs.length+1:=by simp
 rw [hml] at hmv; subst hmv; have hS:=hT; clear hT; try dsimp only [List.set] at hS
 generalize sliced (some (ad gs 0)) 0 (st.length:Int).toNat sc 1=sv2 at hS
 generalize Value.slice a2 (ats.take (st.length:Int).toNat).length c2=av2 at hS
 refine .t 1 rfl (.val (.slcFrom (.of rfl) (.of rfl) (by omega) (by omega) Xm Qs3) rfl ?_)
 obtain ⟨ao,hao,e38⟩:∃ ao,(0<bs.length→ao=some (ad gm 1))∧sliced (some (ad gm 0)) (1:Int).toNat (bs.length+1) cm 1=.slice ao bs.length (cm - 1):=⟨if cm=1 then some (ad gm 0) else some (ad gm 1),fun h=>if_neg (by omega),by simp [sliced,Xt]⟩
 rw [e38]
 refine .run 2 rfl ⟨⟨_,Xm⟩,trivial⟩ (.nil (.block (.loop (σ:=List Nat×List Nat×List X1v×List Pl×Value×Im) (fun ⟨pre,rem,P,Q,tv,J⟩=>[(0,ptr bc 0),(3,.slice (some (ad gm 0)) (bs.length+1) cm),(38,.slice ao bs.length (cm - 1)),(39,I64 bs.length),(40,I64 pre.length)]) (fun ⟨pre,rem,P,Q,tv,J⟩ w=>bs=pre ++ rem∧Le I J∧RelX J o P Q∧P.length=P0.length∧(∃ k c,P[o]?=some (k,c,tv))∧(∃ k c,Q[o]?=some (k,c,pre.map fun (x:Nat)=>(x:Int)+1))∧(pre=[]→tv=.slice none 0 0)∧X10 P0.length o Q (pre.map fun (x:Nat)=>(x:Int)+1) rem=X10 P0.length o Q0 [] bs∧Sat B w J (Vec 3 1 tv pre.length ((pre.map fun (x:Nat)=>(x:Int)+1).map I64)::blk gm (((o::bs).map fun (x:Nat)=>(x:Int)).map I64 ++ rm) 3::blk bc [.slice (some (ad gl 0)) P0.length cl,sv2,av2] 267::blk gl (P.flatMap enc ++ rl) 238::Vec 168 1 sv2 (st.length:Int).toNat (st.map (·.1))::Vec 3 1 av2 (ats.take (st.length:Int).toNat).length ((ats.take (st.length:Int).toNat).map I64)::X31 3 st::F)) (fun ⟨pre,rem,P,Q,tv,J⟩=>rem.length) ([],bs,P0,Q0,.slice none 0 0,I) ⟨rfl,rfl,rfl,rfl,rfl,trivial⟩ ⟨rfl,Le.refl I,hR.x o,rfl,⟨_,_,hPo⟩,⟨_,_,hQo⟩,fun _=>rfl,rfl,hS.vecNil _ _⟩ ?_)))
 rintro ⟨pre,rem,P,Q,tv,J⟩ w ⟨hbs,hJ,hX,hPl,⟨ko,co,hPo⟩,⟨kq,cq,hQo⟩,htv,hgo,hS⟩
 change WC _ _ _ _ [(0,ptr bc 0),(3,.slice (some (ad gm 0)) (bs.length+1) cm),(38,.slice ao bs.length (cm - 1)),(39,I64 bs.length),(40,I64 pre.length)] w
 have hlen:bs.length=pre.length+rem.length:=by rw [hbs,Y0]
 refine .seq (.q 1 rfl (.seq ?_))
 refine WC.cond rfl (fun hb41=>?_) (fun hb41=>?_)
 ·
  have hc41:=hb41; try simp only [Y5] at hc41
  refine .skip (.seq (.block (.seq (.region ?_))))
  obtain ⟨b,r,rfl⟩:∃ b r,rem=b::r:=by
   cases rem with
   | nil=>simp at hlen; omega
   | cons b r=>exact ⟨b,r,rfl⟩
  have hao2:=hao (by omega); subst hao2
  have hbo:=(hob b (by rw [hbs]; simp)).1
  have hbl2:=(hob b (by rw [hbs]; simp)).2
  have hpre:pre.length≤1000:=by omega
  refine .val (.indexAddr (.of rfl) (.of rfl) (by omega) (by omega) Xm Qs3) rfl (.val (.ld (.of rfl) hS (k:=1) rfl Qg3 (v:=I64 b) (Xie hbs rm)) rfl (.q 1 rfl (.nil (.seq (.drawn (fun w=>∃ R,Sat B w J (blk gm (((o::bs).map fun (x:Nat)=>(x:Int)).map I64 ++ rm) 3::blk bc [.slice (some (ad gl 0)) P0.length cl,sv2,av2] 267::blk gl (P.flatMap enc ++ rl) 238::R)) (fun j=>!([23].contains j)) (by kernel_rfl) ?_)))))
  replace hS:=hS.drew; generalize w.drew=w at hS ⊢
  have hH:∃ R,Sat B w J (blk gm (((o::bs).map fun (x:Nat)=>(x:Int)).map I64 ++ rm) 3::blk bc [.slice (some (ad gl 0)) P0.length cl,sv2,av2] 267::blk gl (P.flatMap enc ++ rl) 238::R):=⟨_,(((hS.pick 3 rfl).pick 3 rfl).pick 3 rfl)⟩
  refine .tp (i:=0) rfl (by kernel_rfl) (fun w=>(.move (.of rfl))) rfl (.tp (i:=1) rfl (by kernel_rfl) (fun w=>(.nilCheck (.of rfl))) rfl (.tp (i:=2) rfl (by kernel_rfl) (fun w=>(.fieldAddr 0 (.of rfl) X1c rfl rfl X56 rfl)) rfl (.tk (i:=3) rfl (by kernel_rfl) hH (fun w ⟨R,hS⟩=>(.ld (.of rfl) hS (k:=1) rfl X6k rfl)) rfl (.tp (i:=4) rfl (by kernel_rfl) (fun w=>(.move (.of rfl))) rfl (.tp (i:=5) rfl (by kernel_rfl) (fun w=>(.indexAddr (.of rfl) (.of rfl) (by omega) (by omega) Xm Qs3)) rfl (.tk (i:=6) rfl (by kernel_rfl) hH (fun w ⟨R,hS⟩=>.ld (.of rfl) hS (k:=0) rfl Qg3 (v:=I64 (o:Nat)) rfl) rfl (.tp (i:=7) rfl (by kernel_rfl) (fun w=>(.move (.of rfl))) rfl (.tp (i:=8) rfl (by kernel_rfl) (fun w=>(.nilCheck (.of rfl))) rfl (.tp (i:=9) rfl (by kernel_rfl) (fun w=>(.fieldAddr 0 (.of rfl) X1c rfl rfl X56 rfl)) rfl (.tk (i:=10) rfl (by kernel_rfl) hH (fun w ⟨R,hS⟩=>(.ld (.of rfl) hS (k:=1) rfl X6k rfl)) rfl (.tp (i:=11) rfl (by kernel_rfl) (fun w=>(.move (.of rfl))) rfl (.tp (i:=12) rfl (by kernel_rfl) (fun w=>(.indexAddr (.of rfl) (.of rfl) (by omega) (by omega) Xm Qs3)) rfl (.tk (i:=13) rfl (by kernel_rfl) hH (fun w ⟨R,hS⟩=>.ld (.of rfl) hS (k:=0) rfl Qg3 (v:=I64 (o:Nat)) rfl) rfl (.tp (i:=14) rfl (by kernel_rfl) (fun w=>(.indexAddr (.of rfl) (.of rfl) (by omega) (by omega) X62 X8d)) rfl (.tp (i:=15) rfl (by kernel_rfl) (fun w=>(.fieldAddr 2 (.of rfl) X4r rfl rfl X1n rfl)) rfl (.tk (i:=16) rfl (by kernel_rfl) hH (fun w ⟨R,hS⟩=>.ld (.of rfl) hS (k:=2) rfl Xbv (v:=tv) (to_get hPo rl)) rfl (.tp (i:=17) rfl (by kernel_rfl) (fun w=>(.move (.of rfl))) rfl (.tp (i:=18) rfl (by kernel_rfl) (fun w=>(.add (.of rfl) (.of rfl) ⟨by omega,by omega⟩)) rfl ?_))))))))))))))))))
  refine WD.branch [19] (by kernel_rfl) rfl (WO.cons rfl ?_ (WO.nil))
  refine .buildSlice (cs:=[_]) hS (X5 (.of rfl) X6) Xm Qs3 Qz3 rfl rfl rfl rfl ?_
  clear hS; intro b63 w hS
  refine .nil ?_
  clear hH
  have hH:∃ R,Sat B w J (blk gm (((o::bs).map fun (x:Nat)=>(x:Int)).map I64 ++ rm) 3::blk bc [.slice (some (ad gl 0)) P0.length cl,sv2,av2] 267::blk gl (P.flatMap enc ++ rl) 238::R):=⟨_,(((hS.pick 4 rfl).pick 4 rfl).pick 4 rfl)⟩
  refine And.intro (by intro _ _; exact hH) ?_
  refine WD.branch [20] (by kernel_rfl) rfl (WO.cons rfl ?_ (WO.nil))
  refine WL.append (size:=1) (bytes:=8) hS (.of rfl) (.of rfl) (k:=0) rfl Xm X2n rfl rfl rfl rfl rfl rfl rfl ⟨by omega,by unfold maxLen; omega⟩ rfl ?_
  clear hS; intro v64 w hS; try dsimp only [List.set] at hS
  obtain ⟨a64,c64,rfl,hcap64,_⟩:=hS.vecSlice (k:=0) (v:=v64) rfl
  refine .nil ?_
  clear hH
  have hH:∃ R,Sat B w J (blk gm (((o::bs).map fun (x:Nat)=>(x:Int)).map I64 ++ rm) 3::blk bc [.slice (some (ad gl 0)) P0.length cl,sv2,av2] 267::blk gl (P.flatMap enc ++ rl) 238::R):=⟨_,(((hS.pick 3 rfl).pick 3 rfl).pick 3 rfl)⟩
  refine And.intro (by intro _ _; exact hH) ?_
  refine .tp (i:=21) rfl (by kernel_rfl) (fun w=>(.indexAddr (.of rfl) (.of rfl) (by omega) (by omega) X62 X8d)) rfl (.tp (i:=22) rfl (by kernel_rfl) (fun w=>(.fieldAddr 2 (.of rfl) X4r rfl rfl X1n rfl)) rfl ?_)
  refine WD.branch [23] (by kernel_rfl) rfl (WO.cons rfl ?_ (WO.nil))
  refine WL.st1 hS (k:=3) rfl (.of rfl) (.of rfl) rfl X1n (by rw [Y0,X5g enc 3 X1a]; (try simp only [X5m]); omega) ?_
  clear hS; intro w hS; try dsimp only [List.set] at hS
  simp only [Yk] at hS
  rw [Xml (by (try simp only [X5m]); omega)] at hS
  refine .nil ?_
  refine And.intro (by intro h; cases h) ?_
  refine .done (by kernel_rfl) (.drawn (fun w=>∃ R,Sat B w J (blk bc [.slice (some (ad gl 0)) P0.length cl,sv2,av2] 267::R)) (fun j=>!([13].contains j)) (by kernel_rfl) ?_)
  replace hS:=hS.drew; generalize w.drew=w at hS ⊢
  have hH:∃ R,Sat B w J (blk bc [.slice (some (ad gl 0)) P0.length cl,sv2,av2] 267::R):=⟨_,(hS.pick 2 rfl)⟩
  refine .tp (i:=0) rfl (by kernel_rfl) (fun w=>(.move (.of rfl))) rfl (.tp (i:=1) rfl (by kernel_rfl) (fun w=>(.nilCheck (.of rfl))) rfl (.tp (i:=2) rfl (by kernel_rfl) (fun w=>(.fieldAddr 0 (.of rfl) X1c rfl rfl X56 rfl)) rfl (.tk (i:=3) rfl (by kernel_rfl) hH (fun w ⟨R,hS⟩=>(.ld (.of rfl) hS (k:=0) rfl X6k rfl)) rfl (.tp (i:=4) rfl (by kernel_rfl) (fun w=>(.move (.of rfl))) rfl (.tp (i:=5) rfl (by kernel_rfl) (fun w=>(.move (.of rfl))) rfl (.tp (i:=6) rfl (by kernel_rfl) (fun w=>(.nilCheck (.of rfl))) rfl (.tp (i:=7) rfl (by kernel_rfl) (fun w=>(.fieldAddr 0 (.of rfl) X1c rfl rfl X56 rfl)) rfl (.tk (i:=8) rfl (by kernel_rfl) hH (fun w ⟨R,hS⟩=>(.ld (.of rfl) hS (k:=0) rfl X6k rfl)) rfl (.tp (i:=9) rfl (by kernel_rfl) (fun w=>(.lenSlice (.of rfl) X62)) rfl ?_)))))))))
  refine WD.branch [10] (by kernel_rfl) rfl (WO.cons rfl ?_ (WO.nil))
  refine .buildSlice (cs:=[_]) hS (X5 (.of rfl) X6) Xm Qs3 Qz3 rfl rfl rfl rfl ?_
  clear hS; intro b77 w hS
  refine .nil ?_
  clear hH
  have hH:∃ R,Sat B w J (blk bc [.slice (some (ad gl 0)) P0.length cl,sv2,av2] 267::R):=⟨_,(hS.pick 3 rfl)⟩
  refine And.intro (by intro _ _; exact hH) ?_
  refine .tp (i:=11) rfl (by kernel_rfl) (fun w=>(.indexAddr (.of rfl) (.of rfl) (by omega) (by omega) X62 X8d)) rfl (.tp (i:=12) rfl (by kernel_rfl) (fun w=>(.fieldAddr 2 (.of rfl) X4r rfl rfl X1n rfl)) rfl ?_)
  refine WD.branch [13] (by kernel_rfl) rfl (WO.cons rfl ?_ (WO.nil))
  refine WL.st1 hS (k:=4) rfl (.of rfl) (.of rfl) rfl X1n (by rw [Y0,X5g enc 3 X1a]; (try simp only [X5m]); omega) ?_
  clear hS; intro w hS; try dsimp only [List.set] at hS
  simp only [Yk] at hS
  rw [Xml (by (try simp only [X5m]); omega)] at hS
  obtain ⟨J2,hJ2,hb2,hS⟩:=hS.freeze (k:=0) rfl; try dsimp only [List.eraseIdx] at hS
  have hI2:IntsI J2 (.slice (some (ad b77 0)) 1 1) [(P0.length:Int)]:=⟨(fun h=>by cases h),_,_,rfl,Ys _,rfl,fun _=>⟨_,rfl,rfl,_,_,_,hb2,fun j u hj=>by simpa using hj⟩⟩
  refine .nil ?_
  refine And.intro (by intro h; cases h) ?_
  refine .done (by kernel_rfl) (.region ?_)
  skip
  refine .val (.add (.of rfl) (.of rfl) ⟨by omega,by omega⟩) rfl ?_
  rw [show ((pre.length:Nat):Int)+1=((pre ++ [b]).length:Nat) by simp]
  refine .q 1 rfl (.nil ?_)
  refine ⟨(pre ++ [b],r,X4i (X4i P o (.slice a64 (pre.length+1) c64)) b (.slice (some (ad b77 0)) 1 1),Xr (Xr Q o (pre.map (fun (x:Nat)=>(x:Int)+1) ++ [(b:Int)+1])) b [(P0.length:Int)],.slice a64 (pre.length+1) c64,J2),⟨rfl,rfl,rfl,rfl,rfl,trivial⟩,⟨by rw [hbs]; simp,hJ.trans hJ2,((hX.setO _ _).mono hJ2).setB _ _ _ hI2,by simp [X4i,hPl],⟨ko,co,?_⟩,⟨kq,cq,?_⟩,fun h=>by simp at h,?_,?_⟩,by simp⟩
  ·simp [X4i,Y1h,hPo,hbo]
  ·simp [Xr,Y1h,hQo,hbo]
  ·rw [← hgo,X10]; simp
  ·simpa using hS
 have hc41:=hb41; try simp only [Y5] at hc41
 refine .exit ?_
 have hrem:rem=[]:=by
  cases rem with
  | nil=>rfl
  | cons b r=>simp at hlen; omega
 subst hrem
 replace hS:=hS.drop (k:=1) rfl; try dsimp only [List.eraseIdx] at hS
 obtain ⟨J2,hJ2,hI2,hS⟩:=Xg6 (k:=0) (xs:=pre.map fun (x:Nat)=>(x:Int)+1) hS (by rw [Y13]; rfl) (fun h=>htv (by simpa using h)); try dsimp only [List.eraseIdx] at hS
 replace hS:=hS.vecShut (k:=1) (n:=P.length) (cap:=cl) rfl (by omega) hcl2 (by rw [X5g enc 3 X1a]) (by rw [X5g enc 3 X1a] at hcl4 ⊢; omega); try dsimp only [List.set] at hS
 rw [← hPl] at hS ⊢
 refine .t 1 rfl (.call X67 rfl (X0 (.of rfl) (X0 (.of rfl) (X0 (.of rfl) X4))) rfl (X29 _ _ _ _ _ _ _ _ _ _ _ _ hS (by omega)) ?_)
 clear hS
 rintro _ w ⟨rfl,lv2,hS⟩
 refine .nil (X7d Tryz.results225 ?_)
 replace hS:=hS.say (k:=1) (A':=Vec 238 3 lv2 (P.length+1) ((P ++ [((6:Int),(0:Int),Value.slice none 0 0)]).flatMap enc)) rfl (fun h hh=>by rw [Y1o]; exact hh); try dsimp only [List.set] at hS
 refine ⟨_,rfl,rfl,lv2,sv2,av2,P ++ [(6,0,.slice none 0 0)],J2,hJ.trans hJ2,?_,?_⟩
 ·rw [hPl,← hgo,X10]
  exact ((hX.mono hJ2).back (fun p q hp hq=>by rw [hPo] at hp; rw [hQo] at hq; cases hp; cases hq; exact hI2)).snoc 6 0 _ _ (IntsI.nil _)
 ·have e5:(ats.take (st.length:Int).toNat).length=st.length:=by rw [Yk,Yq]; omega
  rw [e5] at hS
  rw [Y0]
  exact hS
theorem X8g (s p:List UInt8) (w:World) (hs:s.length≤140737488351232) (hp:p.length≤140737488351232) :
  Calls Tryz.prog 139 [S s,S p].toArray w (Ret fun v w'=>v=.bool (X1o s p)∧w=w'):=by
 refine calls Tryz.func139 rfl Tryz.ntmps139 rfl (.seq (.q 1 rfl (.seq (.region (.run 6 rfl ⟨Qu9,Qu9,trivial⟩ (.gval rfl rfl (fun hg1=>(.move (.of rfl))) rfl (.gval rfl rfl (fun hg1=>(.move (.of rfl))) rfl (.gval rfl rfl (fun hg1=>(.len (.gd hg1 rfl) Qu9)) rfl ?_))))))))
 refine WL.gval rfl rfl (fun hg1=>(.subTo (.gd hg1 rfl) (.gd hg1 rfl) (by (try simp only [Y5] at hg1); omega) (by (try simp only [Y5] at hg1); omega) Qu9)) rfl ?_
 refine .gval rfl rfl (fun hg1=>(.move (.of rfl))) rfl (.gval rfl rfl (fun hg1=>(.eqs (.gd hg1 rfl) (.gd hg1 rfl))) rfl (.val (.pand (.of rfl) (.of rfl) (.of rfl)) rfl (.q 1 rfl (.nil (.ret (Xe Tryz.results139 rfl ?_))))))
 exact ⟨_,rfl,rfl,rfl⟩
theorem X1m (s p:List UInt8) (w:World) (hs:s.length≤140737488351232) (hp:p.length≤140737488351232) :
  Calls Tryz.prog 90 [S s,S p].toArray w (Ret fun v w'=>v=.bool (X1o s p)∧w=w'):=by
 refine calls Qf90 rfl Tryz.ntmps90 rfl (.seq (.q 1 rfl (.seq (.t 2 rfl (.call Tryz.func139 rfl (X0 (.of rfl) (X0 (.of rfl) X4)) rfl (X8g _ _ _ hs hp) ?_)))))
 rintro _ _ ⟨rfl,rfl⟩
 refine .q 1 rfl (.nil (.ret (Xe Tryz.results90 rfl ?_)))
 exact ⟨_,rfl,rfl,rfl⟩
end Go.Proofs.YtfibbpgikjggfaaGreatDoor
namespace Go.Proofs.YtfibbpgikjggfaaGreatDoor
open Gk Pc Ul Pat
theorem X1h:Tryz.prog.info? 9=some Tryz.t9:=by kernel_rfl
structure Known (I:Im):Prop where
 dig:DigAt I
 pow : ∀ (B w : World) (As : List X9), Sat B w I As → Go.Lib.TabIs Tryz.prog w "internal/strconv.uint64pow10" .u64 Go.Lib.pow10Tab
 max:∀ (B w:World) (As:List X9),Sat B w I As→∃ m,w.cell? ⟨1,0,none⟩=some (.int .i64 m)
theorem Known.mono {I J:Im} (h:Known I) (hl:Le I J):Known J :=
 have e:∀ (B w:World) (As:List X9),Sat B w J As→Sat B w I As:=fun B w As ⟨g,h1,h2⟩=>⟨g,h1,h2.os,h2.tape,h2.output,fun b o hi=>h2.imm b o (hl b o hi),h2.own,h2.nodup,fun b o hm=>by
  cases hi:I b with
  | none=>rfl
  | some x=>have:=h2.apart b o hm; rw [hl b x hi] at this; cases this⟩
 ⟨h.dig.mono hl,fun B w As s=>h.pow B w As (e B w As s),fun B w As s=>h.max B w As (e B w As s)⟩
theorem X7u {B w:World} {I:Im} {As:List X9} (hS:Sat B w I As) (n:Nat):Sat B (w.drewN n) I As:=hS.world rfl rfl rfl rfl
theorem Xm6 {B w:World} {I:Im} {As:List X9} (hS:Sat B w I As) (os:Array Obj):Sat B (Go.Sort.grow w os) I As :=
 hS.grown ⟨rfl,rfl,rfl,by simp [Go.Sort.grow],fun k hk=>by simp [Go.Sort.grow,Array.getElem?_append,hk]⟩
theorem Xlo (n:Nat) (hn:n≤65535) (B w:World) (I:Im) (hK:Known I) (As:List X9) (hS:Sat B w I As):Calls Tryz.prog 94 [I64 (n:Nat)].toArray w (Ret fun v w'=>v=S (Go.Lib.decDigits n)∧Sat B w' I As) :=
 (Tryz.strconv_Itoa n (by omega) (by omega) w (hK.pow B w As hS)).mono fun e w' he=>by
  obtain ⟨rfl,k,os,rfl⟩:=he
  refine ⟨_,rfl,?_,Xm6 (X7u hS k) os⟩
  unfold Go.Lib.itoa
  rw [if_neg (by omega),Yk]
theorem Xda (s:List UInt8) (hs:s.length≤1000000) (B w:World) (I:Im) (hK:Known I) (As:List X9) (hS:Sat B w I As):Calls Tryz.prog 86 [S s,S SIGN].toArray w (Ret fun v w'=>v=.tuple #[S (Go.Lib.cut s SIGN).1,S (Go.Lib.cut s SIGN).2.1,.bool (Go.Lib.cut s SIGN).2.2]∧Sat B w' I As):=by
 obtain ⟨m,hm⟩:=hK.max B w As hS
 refine (Tryz.strings_Cut ⟨s.toArray⟩ ⟨SIGN.toArray⟩ m w (by show s.length<_; omega) hm).mono fun e w' he=>?_
 obtain ⟨rfl,n,rfl⟩:=he
 exact ⟨_,rfl,rfl,X7u hS n⟩
theorem X61 (s:List UInt8) (c:UInt8) (hs:s.length≤1000000) (B w:World) (I:Im) (hK:Known I) (As:List X9) (hS:Sat B w I As):Calls Tryz.prog 86 [S s,S [c]].toArray w (Ret fun v w'=>v=.tuple #[S (upto [c] s),S ((X7 [c] s).drop 1),.bool (!(X7 [c] s).isEmpty)]∧Sat B w' I As):=by
 obtain ⟨m,hm⟩:=hK.max B w As hS
 refine (Tryz.strings_Cut ⟨s.toArray⟩ ⟨[c].toArray⟩ m w (by show s.length<_; omega) hm).mono fun e w' he=>?_
 obtain ⟨rfl,n,rfl⟩:=he
 refine ⟨_,rfl,?_,X7u hS n⟩
 show Value.tuple #[S (Go.Lib.cut s [c]).1,S (Go.Lib.cut s [c]).2.1,.bool (Go.Lib.cut s [c]).2.2]=_
 rw [Xnj]
theorem Xia (l:List ByteArray):l.map Value.string=(l.map (·.data.toList)).map S:=by
 rw [List.map_map]
 rfl
theorem Xjd (s:List UInt8) (hs:s.length≤1000000) (B w:World) (I:Im) (hK:Known I) (As:List X9) (hS:Sat B w I As):Calls Tryz.prog 143 [S s,S [47]].toArray w (Ret fun v w'=>∃ b,v=.slice (some (ad b 0)) (spl s).length (spl s).length∧Sat B w' I (blk b ((spl s).map S) 9::As)):=by
 obtain ⟨m,hm⟩:=hK.max B w As hS
 refine (Tryz.strings_Split ⟨s.toArray⟩ ⟨[47].toArray⟩ m w (by show s.length<_; omega) hm (by decide)).mono fun e w' he=>?_
 obtain ⟨rfl,rfl⟩:=he
 have e1:(spl s).length=Go.Lib.countB ⟨s.toArray⟩ ⟨[47].toArray⟩+1:=Xoy _ s (Ys _)
 have e2:(Go.Lib.splitB ⟨[47].toArray⟩ 0 (Go.Lib.countB ⟨s.toArray⟩ ⟨[47].toArray⟩) ⟨s.toArray⟩).map Value.string=(spl s).map S:=by
  rw [Xia,Go.Lib.splitB_data]
  show List.map S (Go.Lib.splitK [47] 0 (Go.Lib.count s [47]) s)=_
  rw [Xfx _ s (Ys _)]
 refine ⟨_,rfl,w.heap.size,by rw [e1],?_⟩
 rw [e2]
 exact hS.alloc _
set_option maxHeartbeats 800000 in
theorem Xka (p:List UInt8) (hl:p.length≤1000000) (B w:World) (I:Im) (hK:Known I) (As:List X9) (hS:Sat B w I As) :
  Calls Tryz.prog 93 [S p].toArray w (Ret fun v w'=>v=S (X2z p)∧Sat B w' I As):=by
 refine calls Tryz.func93 rfl Tryz.ntmps93 rfl (.seq (.q 1 rfl (.scope (.seq (.seq (.t 1 rfl (.call Qf90 rfl (X0 (.of rfl) (X0 (.of rfl) X4)) rfl (X1m p [47] _ (by omega) (by decide)) ?_)))))))
 rintro _ _ ⟨rfl,rfl⟩
 refine .q 1 rfl (.nil ?_)
 refine WC.cond rfl (fun hb12=>?_) (fun hb12=>?_)
 ·
  have hc12:=hb12; try simp only [Y5] at hc12
  refine .seq (.q 2 rfl (.ret (Xe Tryz.results93 rfl ?_)))
  refine ⟨_,rfl,?_,hS⟩
  cases p with
  | nil=>rfl
  | cons a b=>rw [X2z,if_neg (fun e=>by subst e; simp [X1o] at hb12; omega)]
 have hc12:=hb12; try simp only [Y5] at hc12
 refine .skip (.seq (.q 1 rfl (.seq (.q 1 rfl (.seq (.label (.seq (.seq ?_))))))))
 have hp1:1≤p.length:=by cases p with | nil=>simp [X1o] at hb12 | cons a b=>simp
 have hpn:=X27 (spl (p.drop 1))
 rw [X2x,Yj] at hpn
 refine .t 1 rfl (.val (.subFrom (.of rfl) (.of rfl) (by omega) (by omega) Qu9) rfl ?_)
 refine WL.call Tryz.func143 rfl (X0 (.of rfl) (X0 (.of rfl) X4)) rfl (Xjd (p.drop 1) (by rw [Yj]; omega) B _ I hK As hS) ?_
 clear hS
 rintro _ w ⟨b16,rfl,hS⟩
 refine .run 2 rfl ⟨⟨_,X1f⟩,trivial⟩ (.nil (.block ?_))
 replace hS:=hS.vecNil 9 1
 refine .loop (σ:=Value×Nat) (fun ⟨kv,i⟩=>[(3,kv),(4,.bool (decide (0<i) && X1w ((spl (p.drop 1)).getD (i - 1) []))),(16,.slice (some (ad b16 0)) (spl (p.drop 1)).length (spl (p.drop 1)).length),(17,I64 ((spl (p.drop 1)).length:Nat)),(18,I64 (i:Nat))]) (fun ⟨kv,i⟩ w=>i≤(spl (p.drop 1)).length∧Sat B w I (Vec 9 1 kv (List.foldl keep [] ((spl (p.drop 1)).take i)).length ((List.foldl keep [] ((spl (p.drop 1)).take i)).map S)::blk b16 ((spl (p.drop 1)).map S) 9::As)) (fun ⟨kv,i⟩=>(spl (p.drop 1)).length - i) (.slice none 0 0,0) ⟨rfl,rfl,rfl,rfl,rfl,trivial⟩ ⟨Yp _,hS⟩ ?_
 rintro ⟨kv,i⟩ w ⟨hi,hS⟩
 change WC _ _ _ _ [(3,kv),(4,.bool (decide (0<i) && X1w ((spl (p.drop 1)).getD (i - 1) []))),(16,.slice (some (ad b16 0)) (spl (p.drop 1)).length (spl (p.drop 1)).length),(17,I64 ((spl (p.drop 1)).length:Nat)),(18,I64 (i:Nat))] w
 refine .seq (.q 1 rfl (.seq ?_))
 refine WC.cond rfl (fun hb19=>?_) (fun hb19=>?_)
 ·
  have hc19:=hb19; try simp only [Y5] at hc19
  refine .skip (.seq (.block (.seq ?_)))
  obtain ⟨x,hx⟩:∃ x,(spl (p.drop 1))[i]?=some x:=⟨_,Y7 (by omega)⟩
  have hKn:(List.foldl keep [] ((spl (p.drop 1)).take (i+1)))=keep (List.foldl keep [] ((spl (p.drop 1)).take i)) x:=by rw [Y1a,hx,Y33]; rfl
  have hgd:(spl (p.drop 1)).getD i []=x:=by rw [Yd,hx]; rfl
  have hop:(decide (0<i+1) && X1w ((spl (p.drop 1)).getD (i+1 - 1) []))=X1w x:=by rw [Nat.add_sub_cancel,hgd,decide_eq_true (by omega),Y3h]
  obtain ⟨ka,kc,rfl,hkc,_⟩:=hS.vecSlice (k:=0) (v:=kv) rfl
  have hKl:(List.foldl keep [] ((spl (p.drop 1)).take i)).length≤1000001:=by
   have h1:=X27 (List.foldl keep [] ((spl (p.drop 1)).take i))
   have h2:=X59 ((spl (p.drop 1)).take i) []
   have h3:tot (spl (p.drop 1))=tot ((spl (p.drop 1)).take i)+tot ((spl (p.drop 1)).drop i):=by rw [← X64,Yw]
   have h4:=X2x (p.drop 1)
   rw [Yj] at h4
   rw [show tot []=0 from rfl] at h2
   omega
  refine .region (.val (.indexAddr (.of rfl) (.of rfl) (by omega) (by omega) X1f Qs9) rfl ?_)
  refine WL.val (.ld (v:=S x) (.of rfl) hS (k:=1) rfl Qg9 (by rw [Yf,Yk,Y1i,Yx,hx]; rfl)) rfl ?_
  refine .q 1 rfl (.nil (.seq (.q 1 rfl (.seq (.seq (.q 1 rfl (.block (.seq (.q 2 rfl ?_)))))))))
  refine WC.cond rfl (fun hb23=>?_) (fun hb23=>?_)
  ·
   have hc23:=hb23; try simp only [Y5] at hc23
   refine .exit (.region (.run 2 rfl ⟨⟨by omega,by omega⟩,trivial⟩ (.nil ?_)))
   refine ⟨(_,i+1),⟨rfl,by show some (Value.bool _)=some _; rw [hop]; rw [show x=[46] by simpa using hb23]; rfl,rfl,rfl,rfl,trivial⟩,⟨by omega,?_⟩,by (try dsimp only); omega⟩
   rw [hKn,keep,if_pos (by simpa using hb23)]
   exact hS
  have hc23:=hb23; try simp only [Y5] at hc23
  refine .seq (.q 2 rfl ?_)
  refine WC.cond rfl (fun hb25=>?_) (fun hb25=>?_)
  ·
   have hc25:=hb25; try simp only [Y5] at hc25
   refine .seq (.region (.run 4 rfl ⟨⟨_,X1f⟩,⟨by omega,by omega⟩,trivial⟩ (.val (.max2 (.of rfl) (.of rfl)) rfl (.val (.slcTo (.of rfl) (.of rfl) (by omega) (by omega) X1f Qs9) rfl ?_))))
   obtain ⟨a2,c2,e2,hS⟩:=hS.vecTakeI (m:=(max 0 (((List.foldl keep [] ((spl (p.drop 1)).take i)).length:Int) - 1)).toNat) (l:=(List.foldl keep [] ((spl (p.drop 1)).take i))) (k:=0) rfl (by omega)
   rw [e2]
   rw [show (max 0 (((List.foldl keep [] ((spl (p.drop 1)).take i)).length:Int) - 1)).toNat=(List.foldl keep [] ((spl (p.drop 1)).take i)).length - 1 by omega] at hS ⊢
   refine .q 1 rfl (.nil (.exit (.region (.run 2 rfl ⟨⟨by omega,by omega⟩,trivial⟩ (.nil ?_)))))
   refine ⟨(_,i+1),⟨rfl,by show some (Value.bool _)=some _; rw [hop]; rw [show x=[46,46] by simpa using hb25]; rfl,rfl,rfl,rfl,trivial⟩,⟨by omega,?_⟩,by (try dsimp only); omega⟩
   rw [hKn,keep,if_neg (by simpa using hb23),if_pos (by simpa using hb25),List.dropLast_eq_take]
   exact hS
  have hc25:=hb25; try simp only [Y5] at hc25
  refine .skip (.seq (.q 1 rfl (.t 2 rfl (.buildSlice (cs:=[_]) hS (X5 (.of rfl) X6) X1f Qs9 Qz9 rfl rfl rfl rfl ?_))))
  clear hS; intro b35 w hS
  refine WL.append (size:=1) (bytes:=16) hS (.of rfl) (.of rfl) (k:=0) rfl X1f X1h rfl rfl rfl rfl rfl rfl rfl ⟨by omega,by unfold maxLen; omega⟩ rfl ?_
  clear hS; intro v36 w hS; try dsimp only [List.set] at hS
  obtain ⟨a36,c36,rfl,hcap36,_⟩:=hS.vecSlice (k:=0) (v:=v36) rfl
  refine .q 1 rfl (.nil (.region (.run 2 rfl ⟨⟨by omega,by omega⟩,trivial⟩ (.nil ?_))))
  refine ⟨(_,i+1),⟨rfl,by show some (Value.bool _)=some _; rw [hop]; rw [X1w,show (x == [46])=false by simpa using hb23,show (x == [46,46])=false by simpa using hb25]; rfl,rfl,rfl,rfl,trivial⟩,⟨by omega,?_⟩,by (try dsimp only); omega⟩
  rw [hKn,keep,if_neg (by simpa using hb23),if_neg (by simpa using hb25),Yy,Y0]
  exact hS
 have hc19:=hb19; try simp only [Y5] at hc19
 refine .exit (.seq ?_)
 have hin:i=(spl (p.drop 1)).length:=by omega
 subst hin
 rw [Y1b] at hS
 obtain ⟨ka,kc,rfl,hkc,_⟩:=hS.vecSlice (k:=0) (v:=kv) rfl
 have htot:=X59 (spl (p.drop 1)) []
 rw [X2x,show tot []=0 from rfl,Yf,Yj] at htot
 have hkt:=X27 (List.foldl keep [] (spl (p.drop 1)))
 refine .q 1 rfl (.seq (.seq (.region (.run 3 rfl ⟨⟨_,X1f⟩,trivial⟩ (.nil (.block (.loop (σ:=Nat) (fun j=>[(3,.slice ka (List.foldl keep [] (spl (p.drop 1))).length kc),(4,.bool (decide (0<(spl (p.drop 1)).length) && X1w ((spl (p.drop 1)).getD ((spl (p.drop 1)).length - 1) []))),(38,.slice ka (List.foldl keep [] (spl (p.drop 1))).length kc),(39,I64 ((List.foldl keep [] (spl (p.drop 1))).length:Nat)),(40,I64 (j:Nat)),(7,S (Xf ((List.foldl keep [] (spl (p.drop 1))).take j)))]) (fun j w=>j≤(List.foldl keep [] (spl (p.drop 1))).length∧Sat B w I (Vec 9 1 (.slice ka (List.foldl keep [] (spl (p.drop 1))).length kc) (List.foldl keep [] (spl (p.drop 1))).length ((List.foldl keep [] (spl (p.drop 1))).map S)::blk b16 ((spl (p.drop 1)).map S) 9::As)) (fun j=>(List.foldl keep [] (spl (p.drop 1))).length - j) 0 ⟨rfl,rfl,rfl,rfl,rfl,rfl,trivial⟩ ⟨Yp _,hS⟩ ?_)))))))
 rintro j w ⟨hj,hS⟩
 change WC _ _ _ _ [(3,.slice ka (List.foldl keep [] (spl (p.drop 1))).length kc),(4,.bool (decide (0<(spl (p.drop 1)).length) && X1w ((spl (p.drop 1)).getD ((spl (p.drop 1)).length - 1) []))),(38,.slice ka (List.foldl keep [] (spl (p.drop 1))).length kc),(39,I64 ((List.foldl keep [] (spl (p.drop 1))).length:Nat)),(40,I64 (j:Nat)),(7,S (Xf ((List.foldl keep [] (spl (p.drop 1))).take j)))] w
 refine .seq (.q 1 rfl (.seq ?_))
 refine WC.cond rfl (fun hb41=>?_) (fun hb41=>?_)
 ·
  have hc41:=hb41; try simp only [Y5] at hc41
  refine .skip (.seq (.block (.seq ?_)))
  obtain ⟨x,hx⟩:∃ x,(List.foldl keep [] (spl (p.drop 1)))[j]?=some x:=⟨_,Y7 (by omega)⟩
  have hsn:Xf ((List.foldl keep [] (spl (p.drop 1))).take (j+1))=Xf ((List.foldl keep [] (spl (p.drop 1))).take j) ++ 47::x:=by rw [Y1a,hx]; exact X3d _ _
  have hsl:(Xf ((List.foldl keep [] (spl (p.drop 1))).take j)).length+(x.length+1)≤tot (List.foldl keep [] (spl (p.drop 1))):=by
   rw [show x.length+1=(47::x).length from rfl,← Y0,← hsn,X2p]
   have:tot (List.foldl keep [] (spl (p.drop 1)))=tot ((List.foldl keep [] (spl (p.drop 1))).take (j+1))+tot ((List.foldl keep [] (spl (p.drop 1))).drop (j+1)):=by rw [← X64,Yw]
   omega
  obtain ⟨g19,rest19,hS19⟩:∃ g rest,ka=some (ad g 0)∧Sat B w I (blk g ((List.foldl keep [] (spl (p.drop 1))).map S ++ rest) 9::blk b16 ((spl (p.drop 1)).map S) 9::As):=by
   obtain ⟨g,c,rest,hv,_,_,_,_,hs⟩:=hS.vecOpen (k:=0) rfl (by omega)
   injection hv with hv1 hv2 hv3
   exact ⟨g,rest,hv1,hs⟩
  obtain ⟨rfl,hS19⟩:=hS19
  refine .region (.val (.indexAddr (b:=g19) (o:=0) (.of rfl) (.of rfl) (by omega) (by omega) X1f Qs9) rfl ?_)
  refine WL.val (.ld (v:=S x) (.of rfl) hS19 (k:=0) rfl Qg9 (by rw [Yf,Yk,Y1i,Yi (by rw [Y13]; omega),Yx,hx]; rfl)) rfl ?_
  clear hS19
  refine .q 1 rfl (.nil (.region ?_))
  refine WL.run 5 rfl ⟨by (try simp only [Y0,Y6,Yh]); omega,by (try simp only [Y0,Y6,Yh]); omega,trivial⟩ ?_
  refine .nil (.region (.run 2 rfl ⟨⟨by omega,by omega⟩,trivial⟩ (.nil ?_)))
  refine ⟨j+1,⟨rfl,rfl,rfl,rfl,rfl,by show some (S _)=some _; rw [hsn]; simp,trivial⟩,⟨by omega,hS⟩,by omega⟩
 have hc41:=hb41; try simp only [Y5] at hc41
 refine .exit (.seq (.seq ?_))
 have hjn:(List.foldl keep [] (spl (p.drop 1))).take j=(List.foldl keep [] (spl (p.drop 1))):=Y11 (by omega)
 have hsl2:(Xf ((List.foldl keep [] (spl (p.drop 1))).take j)).length≤tot (List.foldl keep [] (spl (p.drop 1))):=by rw [hjn,X2p]; exact Ys _
 refine .t 2 rfl (.gval rfl rfl (fun hg1=>(.move (.of rfl))) rfl (.gval rfl rfl (fun hg1=>(.lenSlice (.gd hg1 rfl) X1f)) rfl (.gval rfl rfl (fun hg1=>(.eql (.gd hg1 rfl) (.of rfl))) rfl (.val (.por (.of rfl) (.of rfl) (.of rfl)) rfl (.nil ?_)))))
 refine WC.cond rfl (fun hb54=>?_) (fun hb54=>?_)
 ·
  have hc54:=hb54; try simp only [Y5] at hc54
  refine .region ?_
  refine WL.run 3 rfl ⟨by (try simp only [Y0,Y6,Yh]); omega,trivial⟩ ?_
  refine .nil (.seq (.q 2 rfl (.ret (Xe Tryz.results93 rfl ?_))))
  have hjn:(List.foldl keep [] (spl (p.drop 1))).take j=(List.foldl keep [] (spl (p.drop 1))):=Y11 (by omega)
  rw [hjn]
  have hlast:(decide (0<(spl (p.drop 1)).length) && X1w ((spl (p.drop 1)).getD ((spl (p.drop 1)).length - 1) []))=X1w ((spl (p.drop 1)).getLastD []):=by
   have hne:=X7n (p.drop 1)
   have hp0:0<(spl (p.drop 1)).length:=Y1q.2 hne
   rw [decide_eq_true hp0,Y3h]
   congr 1
   rw [Y2p,Y37,Yd]
  have hpc:p=47::p.drop 1:=by
   cases p with
   | nil=>simp [X1o] at hb12
   | cons a b=>simp [X1o] at hb12; rw [hb12.2]; rfl
  have hall:X2z p=Xf (List.foldl keep [] (spl (p.drop 1))) ++ (if X1w ((spl (p.drop 1)).getLastD []) || (List.foldl keep [] (spl (p.drop 1))).length == 0 then [47] else []):=by rw [hpc,X2z,if_pos rfl]; rfl
  refine ⟨_,rfl,?_,(hS.drop (k:=0) rfl).drop (k:=0) rfl⟩
  rw [hall]
  rw [if_pos (by rw [← hlast]; simpa using hb54)]
 have hc54:=hb54; try simp only [Y5] at hc54
 refine .skip (.seq (.q 2 rfl (.ret (Xe Tryz.results93 rfl ?_))))
 have hjn:(List.foldl keep [] (spl (p.drop 1))).take j=(List.foldl keep [] (spl (p.drop 1))):=Y11 (by omega)
 rw [hjn]
 have hlast:(decide (0<(spl (p.drop 1)).length) && X1w ((spl (p.drop 1)).getD ((spl (p.drop 1)).length - 1) []))=X1w ((spl (p.drop 1)).getLastD []):=by
  have hne:=X7n (p.drop 1)
  have hp0:0<(spl (p.drop 1)).length:=Y1q.2 hne
  rw [decide_eq_true hp0,Y3h]
  congr 1
  rw [Y2p,Y37,Yd]
 have hpc:p=47::p.drop 1:=by
  cases p with
  | nil=>simp [X1o] at hb12
  | cons a b=>simp [X1o] at hb12; rw [hb12.2]; rfl
 have hall:X2z p=Xf (List.foldl keep [] (spl (p.drop 1))) ++ (if X1w ((spl (p.drop 1)).getLastD []) || (List.foldl keep [] (spl (p.drop 1))).length == 0 then [47] else []):=by rw [hpc,X2z,if_pos rfl]; rfl
 refine ⟨_,rfl,?_,(hS.drop (k:=0) rfl).drop (k:=0) rfl⟩
 rw [hall]
 rw [if_neg (by rw [← hlast,Y2g]; simpa using hb54),Yg]
theorem Xw:Bld Tryz.prog 63 [(0,1),(1,1),(2,1),(3,1),(4,1),(5,1)] [S [],S [],.int .i64 0,S [],S [],.bool false]:=X2l X3r Xjx (fun w=>by simp [go_sem])
theorem X52 (n:Nat) (h:n≤65535):(Go.Lib.decDigits n).length≤5:=by
 rw [Go.Lib.decDigits_length]
 have step:∀ k m,m<10 ^ (k+1)→Go.Lib.nDigits m≤k+1:=by
  intro k
  induction k with
  | zero=>intro m hm; rw [Go.Lib.nDigits_small (by simpa using hm)]; exact Ys _
  | succ k ih =>
   intro m hm
   by_cases h10:m<10
   ·rw [Go.Lib.nDigits_small h10]; omega
   ·rw [Go.Lib.nDigits_big h10]
    have:=ih (m / 10) (by rw [Y3n] at hm; omega)
    omega
 exact step 4 n (by omega)
theorem X8h (u:U) (hu:X39 u) (B w:World) (I:Im) (hK:Known I) (As:List X9) (hS:Sat B w I As) :
  Calls Tryz.prog 39 [.agg [S u.sch,S u.host,I64 (u.port:Nat),S u.path,S u.query,.bool u.ask].toArray].toArray w (Ret fun v w'=>v=S (X30 u)∧Sat B w' I As):=by
 refine calls Tryz.func39 rfl Tryz.ntmps39 rfl (.seq (.region (.boxA (cs:=[_,_,_,_,_,_]) hS (.of rfl) rfl ?_)))
 clear hS; intro b1 w hS
 refine .q 1 rfl (.nil (.seq ?_))
 obtain ⟨hs1,hs2,hp,hs4,hs5⟩:=hu
 have hd5:=X52 u.port hp
 refine .region (.val (.fieldAddr 0 (.of rfl) X3r rfl rfl Qs9 rfl) rfl (.val (.ld (.of rfl) hS (k:=0) rfl Qg9 rfl) rfl ?_))
 refine WL.run 1 rfl ⟨by (try simp only [Y0,Y6,Yh]); omega,trivial⟩ ?_
 refine .val (.fieldAddr 1 (.of rfl) X3r rfl rfl Qs9 rfl) rfl (.val (.ld (.of rfl) hS (k:=0) rfl Qg9 rfl) rfl ?_)
 refine WL.run 2 rfl ⟨by (try simp only [Y0,Y6,Yh]); omega,trivial⟩ ?_
 refine .nil (.seq (.seq (.region (.val (.fieldAddr 2 (.of rfl) X3r rfl rfl Qs3 rfl) rfl (.val (.ld (.of rfl) hS (k:=0) rfl Qg3 rfl) rfl (.q 1 rfl (.nil ?_)))))))
 refine WC.cond rfl (fun hb12=>?_) (fun hb12=>?_)
 ·
  have hc12:=hb12; try simp only [Y5] at hc12
  refine .t 1 rfl (.val (.fieldAddr 2 (.of rfl) X3r rfl rfl Qs3 rfl) rfl (.val (.ld (.of rfl) hS (k:=0) rfl Qg3 rfl) rfl (.call Tryz.func94 rfl (X0 (.of rfl) X4) rfl (Xlo u.port hp B _ I hK _ hS) ?_)))
  clear hS
  rintro _ w ⟨rfl,hS⟩
  refine WL.run 3 rfl ⟨by (try simp only [Y0,Y6,Yh]); omega,by (try simp only [Y0,Y6,Yh]); omega,trivial⟩ ?_
  refine .nil (.seq (.q 2 rfl (.ret (Xe Tryz.results39 rfl ?_))))
  refine ⟨_,rfl,?_,hS.drop (k:=0) rfl⟩
  rw [X30,if_neg (by omega)]
  simp [Y8]
 have hc12:=hb12; try simp only [Y5] at hc12
 refine .skip (.seq (.q 2 rfl (.ret (Xe Tryz.results39 rfl ?_))))
 refine ⟨_,rfl,?_,hS.drop (k:=0) rfl⟩
 rw [X30,if_pos (by omega)]
 simp [Y8]
theorem Xfy (u:U) (hu:X39 u):(X30 u).length≤3000000:=by
 obtain ⟨hs1,hs2,hp,hs4,hs5⟩:=hu
 have hd5:=X52 u.port hp
 unfold X30
 split <;> simp only [Y0,Y6,Yh] <;> omega
theorem X7j (u:U) (hu:X39 u) (B w:World) (I:Im) (hK:Known I) (As:List X9) (hS:Sat B w I As) :
  Calls Tryz.prog 74 [.agg [S u.sch,S u.host,I64 (u.port:Nat),S u.path,S u.query,.bool u.ask].toArray].toArray w (Ret fun v w'=>v=S (Xav u)∧Sat B w' I As):=by
 refine calls Tryz.func74 rfl Tryz.ntmps74 rfl (.seq (.region (.boxA (cs:=[_,_,_,_,_,_]) hS (.of rfl) rfl ?_)))
 clear hS; intro b1 w hS
 refine .q 1 rfl (.nil (.seq ?_))
 have hol:=Xfy u hu
 obtain ⟨hs1,hs2,hp,hs4,hs5⟩:=id hu
 refine .drawn (fun w=>∃ R,Sat B w I (blk b1 [S u.sch,S u.host,I64 (u.port:Nat),S u.path,S u.query,.bool u.ask] 63::R)) (fun j=>!([].contains j)) (by kernel_rfl) ?_
 replace hS:=hS.drew; generalize w.drew=w at hS ⊢
 have hH:∃ R,Sat B w I (blk b1 [S u.sch,S u.host,I64 (u.port:Nat),S u.path,S u.query,.bool u.ask] 63::R):=⟨_,(hS.pick 0 rfl)⟩
 refine .tk (i:=0) rfl (by kernel_rfl) hH (fun w ⟨R,hS⟩=>(.ldsW (cs:=[_,_,_,_,_,_]) (.of rfl) hS (k:=0) rfl X58 X1r rfl)) rfl (.tp (i:=2) rfl (by kernel_rfl) (fun w=>(.fieldAddr 3 (.of rfl) X3r rfl rfl Qs9 rfl)) rfl (.tk (i:=3) rfl (by kernel_rfl) hH (fun w ⟨R,hS⟩=>(.ld (.of rfl) hS (k:=0) rfl Qg9 rfl)) rfl ?_))
 refine WD.branch [1] (by kernel_rfl) rfl (WO.cons rfl ?_ (WO.nil))
 refine .call Tryz.func39 rfl (X0 (.of rfl) X4) rfl (X8h u hu B _ I hK _ hS) ?_
 clear hS
 rintro _ w ⟨rfl,hS⟩
 refine .nil ?_
 clear hH
 have hH:∃ R,Sat B w I (blk b1 [S u.sch,S u.host,I64 (u.port:Nat),S u.path,S u.query,.bool u.ask] 63::R):=⟨_,(hS.pick 0 rfl)⟩
 refine And.intro (by intro _ _; exact hH) ?_
 refine WD.tp (i:=4) rfl (by kernel_rfl) (fun w=>(.cat (.of rfl) (.of rfl) (by (try simp only [Y0,Y6,Yh]); omega))) rfl ?_
 refine .tp (i:=5) rfl (by kernel_rfl) (fun w=>(.assign (.of rfl))) rfl (.done (by kernel_rfl) (.seq (.seq (.region (.val (.fieldAddr 5 (.of rfl) X3r rfl rfl Qs4 rfl) rfl (.val (.ld (.of rfl) hS (k:=0) rfl Qg4 rfl) rfl (.nil ?_)))))))
 refine WC.cond rfl (fun hb10=>?_) (fun hb10=>?_)
 ·
  have hc10:=hb10; try simp only [Y5] at hc10
  refine .t 1 rfl (.val (.fieldAddr 4 (.of rfl) X3r rfl rfl Qs9 rfl) rfl (.val (.ld (.of rfl) hS (k:=0) rfl Qg9 rfl) rfl ?_))
  refine WL.run 3 rfl ⟨by (try simp only [Y0,Y6,Yh]); omega,by (try simp only [Y0,Y6,Yh]); omega,trivial⟩ ?_
  refine .nil (.seq (.q 2 rfl (.ret (Xe Tryz.results74 rfl ?_))))
  refine ⟨_,rfl,?_,hS.drop (k:=0) rfl⟩
  rw [Xav,if_pos hc10]
  simp [Y8]
 have hc10:=hb10; try simp only [Y5] at hc10
 refine .skip (.seq (.q 2 rfl (.ret (Xe Tryz.results74 rfl ?_))))
 refine ⟨_,rfl,?_,hS.drop (k:=0) rfl⟩
 rw [Xav,if_neg (by rw [hc10]; decide),Yg]
theorem Xin (s sep:List UInt8):(Go.Lib.cut s sep).1.length≤s.length∧(Go.Lib.cut s sep).2.1.length≤s.length:=by
 unfold Go.Lib.cut
 split
 ·simp only [Yq,Yj]; omega
 ·simp
theorem Xi5 (s:List UInt8) (hs:s.length≤1000000) (B w:World) (I:Im) (hK:Known I) (As:List X9) (hS:Sat B w I As):Calls Tryz.prog 86 [S s,S SIGN].toArray w (Ret fun v w'=>∃ sc rs ok,v=.tuple #[S sc,S rs,.bool ok]∧Xv s=(if ok=true∧(low sc=Xcj∨low sc=X3t) then some (low sc,rs) else none)∧sc.length≤s.length∧rs.length≤s.length∧Sat B w' I As) :=
 (Xda s hs B w I hK As hS).mono fun e w' he=>by
  obtain ⟨v,rfl,rfl,h⟩:=he
  obtain ⟨h1,h2⟩:=Xin s SIGN
  exact ⟨_,rfl,_,_,_,rfl,Xgj s,h1,h2,h⟩
theorem Xi2 {s t:List UInt8} (h:Xy s=some t):t.length≤s.length:=by
 unfold Xy at h
 split at h
 ·exact X9z s t h
 ·cases h
theorem Xek (s:List UInt8) (hl:s.length≤1000000) (B w:World) (I:Im) (hK:Known I) (As:List X9) (hS:Sat B w I As):Calls Tryz.prog 92 [S s].toArray w (Ret fun v w'=>∃ n1 e1,v=.tuple #[S n1,I64 e1]∧(match Xy s with | none=>n1=[]∧e1=15 | some t=>n1=t∧e1=0)∧n1.length≤s.length∧Sat B w' I As) :=
 (Xgg s hl B w I hK.dig As hS).mono fun e w' he=>by
  obtain ⟨v,rfl,rfl,h⟩:=he
  cases hp:Xy s with
  | none=>exact ⟨_,rfl,_,_,rfl,⟨rfl,rfl⟩,Yp _,h⟩
  | some t=>exact ⟨_,rfl,_,_,rfl,⟨rfl,rfl⟩,Xi2 hp,h⟩
theorem port_e (s sch:List UInt8) (hl:s.length≤1000000) (w:World):Calls Tryz.prog 91 [S s,S sch].toArray w (Ret fun v w'=>(∃ pn:Nat,v=.tuple #[I64 (pn:Nat),.bool (Xu s)]∧pn≤65535∧(Xu s=true→pn=X3k s sch))∧w=w') :=
 (Xm1 s sch hl w).mono fun e w' he=>by
  obtain ⟨v,rfl,rfl,h⟩:=he
  refine ⟨_,rfl,?_,h⟩
  cases hp:Xu s with
  | false=>exact ⟨0,rfl,by decide,fun e=>by cases e⟩
  | true =>
   refine ⟨X3k s sch,rfl,?_,fun _=>rfl⟩
   unfold X3k
   split
   ·decide
   ·unfold Xu at hp
    simp only [Yn,decide_eq_true_eq] at hp
    exact hp.2
theorem upto_len (a s:List UInt8):(upto a s).length≤s.length:=by
 have:=congrArg List.length (X22 a s)
 rw [Y0] at this; omega
theorem X3j (a s:List UInt8):(X7 a s).length≤s.length:=by
 have:=congrArg List.length (X22 a s)
 rw [Y0] at this; omega
theorem asc4:Asc [47,63,35,58]:=fun j b h=>by
 match j,h with
 | 0,h=>cases h; decide
 | 1,h=>cases h; decide
 | 2,h=>cases h; decide
 | 3,h=>cases h; decide
 | _+4,h=>simp at h
theorem asc3:Asc [47,63,35]:=fun j b h=>by
 match j,h with
 | 0,h=>cases h; decide
 | 1,h=>cases h; decide
 | 2,h=>cases h; decide
 | _+3,h=>simp at h
theorem Xf5 (r:List UInt8):X1o r [58]=true ↔ r.take 1=[58]:=by
 cases r with
 | nil=>simp [X1o]
 | cons a b=>simp [X1o]; intro _; omega
set_option maxHeartbeats 800000 in
theorem X6j (s:List UInt8) (hl:s.length≤1000000) (B w:World) (I:Im) (hK:Known I) (As:List X9) (hS:Sat B w I As) :
  Calls Tryz.prog 38 [S s].toArray w (Ret fun v w'=>v=.tuple #[.agg (uc (pU s).1).toArray,I64 ((pU s).2:Nat)]∧Sat B w' I As):=by
 refine calls Qf38 rfl Tryz.ntmps38 rfl (.seq (.region (.allocA (cs:=[_,_,_,_,_,_]) hS Xjx rfl ?_)))
 clear hS; intro b2 w hS
 refine .q 1 rfl (.nil (.seq (.seq (.region (.run 3 rfl ⟨Qu9,trivial⟩ (.nil ?_))))))
 refine WC.cond rfl (fun hb15=>?_) (fun hb15=>?_)
 ·
  have hc15:=hb15; try simp only [Y5] at hc15
  refine .seq (.region (.val (.build (cs:=[_,_,_,_,_,_]) X6 Xw rfl) rfl (.stA hS (k:=0) rfl (.of rfl) (.of rfl) rfl X1r rfl (by simp) ?_)))
  clear hS; intro w hS; try dsimp only [List.set] at hS
  try simp only [Ym,Yc,Yg,Y9,Yl,Yo,Yf] at hS
  refine .q 1 rfl (.nil (.ret (X1j (b:=_) (cs:=[_,_,_,_,_,_]) Xmz hS (k:=0) rfl X58 X1r rfl rfl rfl ?_)))
  exact ⟨_,rfl,by rw [pU,if_pos (by omega)]; rfl,(hS.drop (k:=0) rfl)⟩
 have hc15:=hb15; try simp only [Y5] at hc15
 refine .skip (.seq (.t 1 rfl (.call Qf86 rfl (X0 (.of rfl) (X0 (.of rfl) X4)) rfl (Xi5 s (by omega) B _ I hK _ hS) ?_)))
 clear hS
 rintro _ w ⟨sc,rs,ok,rfl,hsc,hscl,hrsl,hS⟩
 refine .q 7 rfl (.nil (.seq (.t 1 rfl (.call Tryz.func87 rfl (X0 (.of rfl) X4) rfl (Xby sc (by omega) B _ I _ hS) ?_))))
 clear hS
 rintro _ w ⟨rfl,hS⟩
 refine .q 1 rfl (.nil (.seq (.seq (.t 3 rfl (.gval rfl rfl (fun hg1=>(.move (.of rfl))) rfl (.gval rfl rfl (fun hg1=>(.nes (.gd hg1 rfl) (.of rfl))) rfl (.gval rfl rfl (fun hg1=>(.move (.gd hg1 rfl))) rfl (.gval2 rfl rfl rfl (fun hg1 hg2=>(.move (.of rfl))) rfl (.gval2 rfl rfl rfl (fun hg1 hg2=>(.nes (.gd2 hg1 hg2 rfl) (.of rfl))) rfl (.gval rfl rfl (fun hg1=>(.pand (.gd hg1 rfl) (.gd hg1 rfl) (.of rfl))) rfl (.val (.por (.of rfl) (.of rfl) (.of rfl)) rfl (.nil ?_))))))))))))
 refine WC.cond rfl (fun hb34=>?_) (fun hb34=>?_)
 ·
  have hc34:=hb34; try simp only [Y5] at hc34
  refine .seq (.region (.val (.build (cs:=[_,_,_,_,_,_]) X6 Xw rfl) rfl (.stA hS (k:=0) rfl (.of rfl) (.of rfl) rfl X1r rfl (by simp) ?_)))
  clear hS; intro w hS; try dsimp only [List.set] at hS
  try simp only [Ym,Yc,Yg,Y9,Yl,Yo,Yf] at hS
  refine .q 1 rfl (.nil (.ret (X1j (b:=_) (cs:=[_,_,_,_,_,_]) Xmz hS (k:=0) rfl X58 X1r rfl rfl rfl ?_)))
  refine ⟨_,rfl,?_,(hS.drop (k:=0) rfl)⟩
  rw [pU,if_neg (by omega),hsc,if_neg]
  ·rfl
  ·rintro ⟨h1,h2⟩
   rw [h1] at hb34
   rcases h2 with h | h <;> rw [h] at hb34 <;> simp [Xcj,X3t] at hb34
 have hc34:=hb34; try simp only [Y5] at hc34
 refine .skip (.seq ?_)
 have hok:ok=true∧(low sc=Xcj∨low sc=X3t):=hc34
 rw [if_pos hok] at hsc
 have hlow:=X1k sc
 refine .t 1 rfl (.val (.build (cs:=[_,_,_,_,_,_]) (X5 (.of rfl) X6) Xw rfl) rfl (.allocA (cs:=[_,_,_,_,_,_]) hS Xjx rfl ?_))
 clear hS; intro b7 w hS
 refine .stA hS (k:=0) rfl (.of rfl) (.of rfl) rfl X1r rfl (by simp) ?_
 clear hS; intro w hS; try dsimp only [List.set] at hS
 try simp only [Ym,Yc,Yg,Y9,Yl,Yo,Yf] at hS
 refine .nil (.seq (.t 1 rfl (.call Tryz.func88 rfl (X0 (.of rfl) (X0 (.of rfl) X4)) rfl (Xhl rs [47,63,35,58] (by omega) asc4 (by decide) (by decide) B _ I _ hS) ?_)))
 clear hS
 rintro _ w ⟨rfl,hS⟩
 refine .q 3 rfl (.val (.fieldAddr 1 (.of rfl) X3r rfl rfl Qs9 rfl) rfl (.st1 hS (k:=0) rfl (.of rfl) (.of rfl) rfl Qs9 (by simp) ?_))
 clear hS; intro w hS; try dsimp only [List.set] at hS
 refine .q 1 rfl (.nil (.seq (.seq (.region (.val (.fieldAddr 1 (.of rfl) X3r rfl rfl Qs9 rfl) rfl (.val (.ld (.of rfl) hS (k:=0) rfl Qg9 rfl) rfl ?_))))))
 refine WL.call Tryz.func87 rfl (X0 (.of rfl) X4) rfl (Xby _ (by have:=upto_len [47,63,35,58] rs; omega) B _ I _ hS) ?_
 clear hS
 rintro _ w ⟨rfl,hS⟩
 refine .val (.fieldAddr 1 (.of rfl) X3r rfl rfl Qs9 rfl) rfl (.st1 hS (k:=0) rfl (.of rfl) (.of rfl) rfl Qs9 (by simp) ?_)
 clear hS; intro w hS; try dsimp only [List.set] at hS
 refine .nil (.seq (.region (.val (.fieldAddr 1 (.of rfl) X3r rfl rfl Qs9 rfl) rfl (.val (.ld (.of rfl) hS (k:=0) rfl Qg9 rfl) rfl (.call Tryz.func89 rfl (X0 (.of rfl) X4) rfl (Xli _ _) ?_)))))
 rintro _ _ ⟨rfl,rfl⟩
 refine .q 1 rfl (.nil ?_)
 refine WC.cond rfl (fun hb51=>?_) (fun hb51=>?_)
 ·
  have hc51:=hb51; try simp only [Y5] at hc51
  refine .seq (.region (.val (.build (cs:=[_,_,_,_,_,_]) X6 Xw rfl) rfl (.stA hS (k:=1) rfl (.of rfl) (.of rfl) rfl X1r rfl (by simp) ?_)))
  clear hS; intro w hS; try dsimp only [List.set] at hS
  try simp only [Ym,Yc,Yg,Y9,Yl,Yo,Yf] at hS
  refine .q 1 rfl (.nil (.ret (X1j (b:=_) (cs:=[_,_,_,_,_,_]) Xmz hS (k:=1) rfl X58 X1r rfl rfl rfl ?_)))
  refine ⟨_,rfl,?_,((hS.drop (k:=0) rfl).drop (k:=0) rfl)⟩
  rw [pU,if_neg (by omega),hsc]
  simp only
  rw [X16,if_neg (by simpa using hb51)]; rfl
 have hc51:=hb51; try simp only [Y5] at hc51
 refine .skip ?_
 refine WC.cutS (σ:=Nat×List UInt8) (fun ⟨port,r⟩=>[(2,ptr b2 0),(5,S r),(7,ptr b7 0)]) (fun ⟨port,r⟩ w=>pU s=X2k (low sc) (low (upto [47,63,35,58] rs)) port r∧port≤65535∧r.length≤2000∧Sat B w I (blk b7 [S (low sc),S (low (upto [47,63,35,58] rs)),I64 (port:Nat),S [],S [],.bool false] 63::blk b2 [S [],S [],I64 0,S [],S [],.bool false] 63::As)) ?_ ?_
 ·
  refine .seq (.t 1 rfl ?_)
  refine WL.call Qf90 rfl (X0 (.of rfl) (X0 (.of rfl) X4)) rfl (X1m _ [58] _ (by have:=X3j [47,63,35,58] rs; omega) (by decide)) ?_
  rintro _ _ ⟨rfl,rfl⟩
  refine .nil ?_
  refine WC.cond rfl (fun hb54=>?_) (fun hb54=>?_)
  ·
   have hc54:=hb54; try simp only [Y5] at hc54
   refine .seq ?_
   have htk:=(Xf5 _).1 hb54
   have hfl:=X3j [47,63,35,58] rs
   have hr1:1≤(X7 [47,63,35,58] rs).length:=by
    have:=congrArg List.length htk
    rw [Yq,Y6,Yh] at this; omega
   refine .q 1 rfl (.seq (.t 1 rfl (.val (.subFrom (.of rfl) (.of rfl) (by omega) (by omega) Qu9) rfl ?_)))
   refine WL.call Tryz.func88 rfl (X0 (.of rfl) (X0 (.of rfl) X4)) rfl (Xhl ((X7 [47,63,35,58] rs).drop 1) [47,63,35] (by rw [Yj]; have:=X3j [47,63,35,58] rs; omega) asc3 (by decide) (by decide) B _ I _ hS) ?_
   clear hS
   rintro _ w ⟨rfl,hS⟩
   refine .q 5 rfl (.nil (.seq (.t 2 rfl ?_)))
   refine WL.call Tryz.func91 rfl (X0 (.of rfl) (X0 (.of rfl) X4)) rfl (port_e _ (low sc) (by have:=upto_len [47,63,35] ((X7 [47,63,35,58] rs).drop 1); have:=X3j [47,63,35,58] rs; rw [Yj] at *; omega) _) ?_
   rintro _ _ ⟨⟨pn,rfl,hpn,hpv⟩,rfl⟩
   refine .q 3 rfl (.val (.fieldAddr 2 (.of rfl) X3r rfl rfl Qs3 rfl) rfl (.st1 hS (k:=0) rfl (.of rfl) (.of rfl) rfl Qs3 (by simp) ?_))
   clear hS; intro w hS; try dsimp only [List.set] at hS
   refine .q 1 rfl (.nil (.seq (.q 2 rfl ?_)))
   refine WC.cond rfl (fun hb69=>?_) (fun hb69=>?_)
   ·
    have hc69:=hb69; try simp only [Y5] at hc69
    refine .seq (.region (.val (.build (cs:=[_,_,_,_,_,_]) X6 Xw rfl) rfl (.stA hS (k:=1) rfl (.of rfl) (.of rfl) rfl X1r rfl (by simp) ?_)))
    clear hS; intro w hS; try dsimp only [List.set] at hS
    try simp only [Ym,Yc,Yg,Y9,Yl,Yo,Yf] at hS
    refine .q 1 rfl (.nil (.ret (X1j (b:=_) (cs:=[_,_,_,_,_,_]) Xmz hS (k:=1) rfl X58 X1r rfl rfl rfl ?_)))
    refine ⟨_,rfl,?_,((hS.drop (k:=0) rfl).drop (k:=0) rfl)⟩
    rw [pU,if_neg (by omega),hsc]
    simp only
    rw [X16,if_pos (by simpa using hb51),behind,if_pos htk,if_neg (by simpa using hb69)]; rfl
   have hc69:=hb69; try simp only [Y5] at hc69
   refine .skip ?_
   have hok2:Xu (upto [47,63,35] ((X7 [47,63,35,58] rs).drop 1))=true:=by simpa using hb69
   have hpp:=hpv hok2
   refine ⟨(pn,_),⟨rfl,rfl,rfl,trivial⟩,?_,hpn,?_,hS⟩
   ·rw [pU,if_neg (by omega),hsc]
    simp only
    rw [X16,if_pos (by simpa using hb51),behind,if_pos htk,if_pos hok2,hpp]
   ·have:=X3j [47,63,35] ((X7 [47,63,35,58] rs).drop 1)
    rw [Yj] at this
    omega
  have hc54:=hb54; try simp only [Y5] at hc54
  refine .skip ?_
  refine ⟨(0,_),⟨rfl,rfl,rfl,trivial⟩,?_,by decide,?_,hS⟩
  ·rw [pU,if_neg (by omega),hsc]
   simp only
   rw [X16,if_pos (by simpa using hb51),behind,if_neg (fun e=>by rw [(Xf5 _).2 e] at hb54; cases hb54)]
  ·have:=X3j [47,63,35,58] rs
   omega
 rintro ⟨port,r⟩ w ⟨hpu,hport,hrl,hS⟩
 change WC _ _ _ _ [(2,ptr b2 0),(5,S r),(7,ptr b7 0)] w
 refine .seq (.t 1 rfl (.call Qf86 rfl (X0 (.of rfl) (X0 (.of rfl) X4)) rfl (X61 r 63 (by omega) B _ I hK _ hS) ?_))
 clear hS
 rintro _ w ⟨rfl,hS⟩
 refine .q 7 rfl (.nil (.seq (.t 1 rfl ?_)))
 refine WL.call Tryz.func92 rfl (X0 (.of rfl) X4) rfl (Xek _ (by have:=upto_len [63] r; omega) B _ I hK _ hS) ?_
 clear hS
 rintro _ w ⟨p1,e1,rfl,hp1,hp1l,hS⟩
 refine .q 5 rfl (.nil (.seq (.seq (.q 2 rfl ?_))))
 refine WC.cond rfl (fun hb83=>?_) (fun hb83=>?_)
 ·
  have hc83:=hb83; try simp only [Y5] at hc83
  refine .seq (.region (.val (.build (cs:=[_,_,_,_,_,_]) X6 Xw rfl) rfl (.q 1 rfl (.stA hS (k:=1) rfl (.of rfl) (.of rfl) rfl X1r rfl (by simp) ?_))))
  clear hS; intro w hS; try dsimp only [List.set] at hS
  try simp only [Ym,Yc,Yg,Y9,Yl,Yo,Yf] at hS
  refine .q 1 rfl (.nil (.ret (X1j (b:=_) (cs:=[_,_,_,_,_,_]) Xmz hS (k:=1) rfl X58 X1r rfl rfl rfl ?_)))
  refine ⟨_,rfl,?_,((hS.drop (k:=0) rfl).drop (k:=0) rfl)⟩
  rw [hpu,X2k]
  cases hp:Xy (upto [63] r) with
  | none=>rw [hp] at hp1; rw [hp1.2]; rfl
  | some t=>rw [hp] at hp1; exact absurd hp1.2 hc83
 have hc83:=hb83; try simp only [Y5] at hc83
 refine .skip (.seq (.t 1 rfl ?_))
 refine WL.call Tryz.func92 rfl (X0 (.of rfl) X4) rfl (Xek _ (by have:=X3j [63] r; rw [Yj]; omega) B _ I hK _ hS) ?_
 clear hS
 rintro _ w ⟨q1,e2,rfl,hq1,hq1l,hS⟩
 refine .q 3 rfl (.val (.fieldAddr 4 (.of rfl) X3r rfl rfl Qs9 rfl) rfl (.st1 hS (k:=0) rfl (.of rfl) (.of rfl) rfl Qs9 (by simp) ?_))
 clear hS; intro w hS; try dsimp only [List.set] at hS
 refine .q 1 rfl (.nil (.seq (.seq (.q 2 rfl ?_))))
 refine WC.cond rfl (fun hb93=>?_) (fun hb93=>?_)
 ·
  have hc93:=hb93; try simp only [Y5] at hc93
  refine .seq (.region (.val (.build (cs:=[_,_,_,_,_,_]) X6 Xw rfl) rfl (.q 1 rfl (.stA hS (k:=1) rfl (.of rfl) (.of rfl) rfl X1r rfl (by simp) ?_))))
  clear hS; intro w hS; try dsimp only [List.set] at hS
  try simp only [Ym,Yc,Yg,Y9,Yl,Yo,Yf] at hS
  refine .q 1 rfl (.nil (.ret (X1j (b:=_) (cs:=[_,_,_,_,_,_]) Xmz hS (k:=1) rfl X58 X1r rfl rfl rfl ?_)))
  refine ⟨_,rfl,?_,((hS.drop (k:=0) rfl).drop (k:=0) rfl)⟩
  rw [hpu,X2k]
  cases hp:Xy (upto [63] r) with
  | none=>rw [hp] at hp1; have:=hp1.2; omega
  | some t =>
   cases hq:Xy ((X7 [63] r).drop 1) with
   | none=>rw [hq] at hq1; rw [hq1.2]; rfl
   | some t=>rw [hq] at hq1; exact absurd hq1.2 hc93
 have hc93:=hb93; try simp only [Y5] at hc93
 refine .skip (.seq (.t 1 rfl ?_))
 refine WL.call Tryz.func93 rfl (X0 (.of rfl) X4) rfl (Xka p1 (by have:=upto_len [63] r; omega) B _ I hK _ hS) ?_
 clear hS
 rintro _ w ⟨rfl,hS⟩
 refine .q 1 rfl (.val (.fieldAddr 3 (.of rfl) X3r rfl rfl Qs9 rfl) rfl (.st1 hS (k:=0) rfl (.of rfl) (.of rfl) rfl Qs9 (by simp) ?_))
 clear hS; intro w hS; try dsimp only [List.set] at hS
 refine .val (.fieldAddr 5 (.of rfl) X3r rfl rfl Qs4 rfl) rfl (.st1 hS (k:=0) rfl (.of rfl) (.of rfl) rfl Qs4 (by simp) ?_)
 clear hS; intro w hS; try dsimp only [List.set] at hS
 refine .nil (.seq (.seq (.region (.val (.fieldAddr 3 (.of rfl) X3r rfl rfl Qs9 rfl) rfl (.val (.ld (.of rfl) hS (k:=0) rfl Qg9 rfl) rfl (.q 1 rfl (.nil ?_)))))))
 refine WC.cond rfl (fun hb103=>?_) (fun hb103=>?_)
 ·
  have hc103:=hb103; try simp only [Y5] at hc103
  refine .region (.val (.fieldAddr 3 (.of rfl) X3r rfl rfl Qs9 rfl) rfl (.st1 hS (k:=0) rfl (.of rfl) (.of rfl) rfl Qs9 (by simp) ?_))
  clear hS; intro w hS; try dsimp only [List.set] at hS
  refine .nil (.seq (.region (.val (.ldsW (cs:=[_,_,_,_,_,_]) (.of rfl) hS (k:=0) rfl X58 X1r rfl) rfl (.stA hS (k:=1) rfl (.of rfl) (.of rfl) rfl X1r rfl (by simp) ?_))))
  clear hS; intro w hS; try dsimp only [List.set] at hS
  try simp only [Ym,Yc,Yg,Y9,Yl,Yo,Yf] at hS
  refine .q 1 rfl (.nil (.ret (X1j (b:=_) (cs:=[_,_,_,_,_,_]) Xmz hS (k:=1) rfl X58 X1r rfl rfl rfl ?_)))
  refine ⟨_,rfl,?_,((hS.drop (k:=0) rfl).drop (k:=0) rfl)⟩
  rw [hpu,X2k]
  cases hp:Xy (upto [63] r) with
  | none=>rw [hp] at hp1; have:=hp1.2; omega
  | some t =>
   cases hq:Xy ((X7 [63] r).drop 1) with
   | none=>rw [hq] at hq1; have:=hq1.2; omega
   | some q =>
    rw [hp] at hp1; rw [hq] at hq1
    obtain ⟨rfl,_⟩:=hp1
    obtain ⟨rfl,_⟩:=hq1
    have hif:(if p1=[] then [47] else X2z p1)=[47]:=if_pos (by have:=Xk2 p1; rw [hb103] at this; simpa using this.symm)
    show _=Value.tuple #[.agg #[S (low sc),S (low (upto [47,63,35,58] rs)),I64 (port:Nat),S (if p1=[] then [47] else X2z p1),S q1,.bool (!(X7 [63] r).isEmpty)],I64 0]
    rw [hif]
    rfl
 have hc103:=hb103; try simp only [Y5] at hc103
 refine .skip (.seq (.region (.val (.ldsW (cs:=[_,_,_,_,_,_]) (.of rfl) hS (k:=0) rfl X58 X1r rfl) rfl (.stA hS (k:=1) rfl (.of rfl) (.of rfl) rfl X1r rfl (by simp) ?_))))
 clear hS; intro w hS; try dsimp only [List.set] at hS
 try simp only [Ym,Yc,Yg,Y9,Yl,Yo,Yf] at hS
 refine .q 1 rfl (.nil (.ret (X1j (b:=_) (cs:=[_,_,_,_,_,_]) Xmz hS (k:=1) rfl X58 X1r rfl rfl rfl ?_)))
 refine ⟨_,rfl,?_,((hS.drop (k:=0) rfl).drop (k:=0) rfl)⟩
 rw [hpu,X2k]
 cases hp:Xy (upto [63] r) with
 | none=>rw [hp] at hp1; have:=hp1.2; omega
 | some t =>
  cases hq:Xy ((X7 [63] r).drop 1) with
  | none=>rw [hq] at hq1; have:=hq1.2; omega
  | some q =>
   rw [hp] at hp1; rw [hq] at hq1
   obtain ⟨rfl,_⟩:=hp1
   obtain ⟨rfl,_⟩:=hq1
   have hif:(if p1=[] then [47] else X2z p1)=X2z p1:=if_neg (fun e=>by rw [e] at hb103; simp [X2z] at hb103)
   show _=Value.tuple #[.agg #[S (low sc),S (low (upto [47,63,35,58] rs)),I64 (port:Nat),S (if p1=[] then [47] else X2z p1),S q1,.bool (!(X7 [63] r).isEmpty)],I64 0]
   rw [hif]
   rfl
theorem X8n (s:List UInt8) (hl:s.length≤1000000) (B w:World) (I:Im) (hK:Known I) (As:List X9) (hS:Sat B w I As) :
  Calls Tryz.prog 108 [S s].toArray w (Ret fun v w'=>v=.tuple #[S (nU s).1,I64 ((nU s).2:Nat)]∧Sat B w' I As):=by
 refine calls Tryz.func108 rfl Tryz.ntmps108 rfl (.seq (.q 2 rfl (.seq (.t 1 rfl (.call Qf38 rfl (X0 (.of rfl) X4) rfl (X6j s hl B _ I hK _ hS) ?_)))))
 clear hS
 rintro _ w ⟨rfl,hS⟩
 refine .q 3 rfl (.allocA (cs:=[_,_,_,_,_,_]) hS Xjx rfl ?_)
 clear hS; intro b4 w hS
 refine .stA hS (k:=0) rfl (.of rfl) (.of rfl) rfl X1r rfl (by simp) ?_
 clear hS; intro w hS; try dsimp only [List.set] at hS
 try simp only [Ym,Yc,Yg,Y9,Yl,Yo,Yf] at hS
 refine .q 1 rfl (.nil (.seq (.seq (.q 2 rfl ?_))))
 refine WC.cond rfl (fun hb12=>?_) (fun hb12=>?_)
 ·
  have hc12:=hb12; try simp only [Y5] at hc12
  refine .seq (.q 3 rfl (.ret (X1g Tryz.results108 rfl rfl ?_)))
  refine ⟨_,rfl,?_,hS.drop (k:=0) rfl⟩
  rw [nU,if_neg (by omega)]
  rfl
 have hc12:=hb12; try simp only [Y5] at hc12
 refine .skip (.seq (.region (.val (.ldsW (cs:=[_,_,_,_,_,_]) (.of rfl) hS (k:=0) rfl X58 X1r rfl) rfl (.call Tryz.func74 rfl (X0 (.of rfl) X4) rfl (X7j (pU s).1 (X7b s) B _ I hK _ hS) ?_))))
 clear hS
 rintro _ w ⟨rfl,hS⟩
 refine .q 2 rfl (.nil (.ret (X1g Tryz.results108 rfl rfl ?_)))
 refine ⟨_,rfl,?_,hS.drop (k:=0) rfl⟩
 rw [nU,if_pos (by omega)]
 rfl
end Go.Proofs.YtfibbpgikjggfaaGreatDoor
