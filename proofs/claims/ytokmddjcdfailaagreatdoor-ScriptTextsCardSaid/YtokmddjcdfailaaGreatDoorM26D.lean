/- Part 4 of what the proof stands on: SxY, SxZ, SyA, SyD, SyF, SyB, SxW, Pct, W18b, Url, Shelf, W18d, Urn, PatM, Pat, W18f, W18g, Uid, Fm, Xm, GkZ, GkO, GkN, Tk, Tre, W23a, W21a, W21b, W18k, W18h, Rk, Srt, W16c, W18l, W18n, PatN, PatT, PatU, PatV, PatW, PatR, PatQ, PatL, W18o, W18r, W21c, W21e. -/
import Derived.Test.YtokmddjcdfailaaGreatDoorM26C
import Derived.KernelRfl
import Derived.Test.YtokmddjcdfailaaGreatDoorChecked
import Derived.Lib.IndexAny
import Derived.Lib.IndexLaws
import Derived.Shelf.Strings.Builder1
import Derived.Shelf.Strings.Builder2
import Derived.Shelf.Small.Utf8
import Derived.Shelf.Small.Strs
import Derived.Shelf.Small.Wraps
import Derived.Shelf.Utf8.RuneCount
import Derived.Shelf.Strconv.Itoa0
import Derived.Shelf.Strconv.Itoa1
import Derived.Shelf.LaysM
import Derived.Shelf.Strconv.Itoa2
import Derived.Shelf.Strconv.Itoa3
import Derived.Shelf.Strings.Search1
import Derived.Shelf.Strings.Search2
import Derived.Shelf.Strings.Search3
import Derived.Shelf.Strings.Cut
import Derived.Shelf.Strings.Count
import Derived.Shelf.Strings.Shaped
import Derived.Shelf.Strings.Prefix
import Derived.Shelf.Strings.Split
import Derived.Shelf.Strings.Replace
import Derived.Shelf.Strings.SplitShaped
import Derived.Shelf.Unicode.Decode
import Derived.Shelf.Strings.Runes
import Derived.Shelf.Strings.RuneCount
import Derived.Shelf.Strings.IndexAny
import Derived.Shelf.Strings.AsciiSet
import Derived.Shelf.Strings.IndexAnyAll
import Derived.Shelf.Unicode.DecodeSlow
import Derived.Shelf.Unicode.DecodeAny
import Derived.Ground.Names2Prog
import Derived.Shelf.Slices.Clone
import Derived.Test.YtokmddjcdfailaaGreatDoorProg
import Derived.Lib.CountLaws
import Derived.Lib.Split
import Derived.Lib.ItoaNum
import Derived.Lib.IndexBytes
import Derived.Lib.Replace
import Derived.Below
import Derived.ChangeSame
import Derived.Carry
import Derived.ChangeSlices
import Derived.Deep.Strs
import Derived.DataElems
import Derived.Lib.LaidTab
import Derived.Lib.LazyBuf
set_option linter.unusedVariables false
set_option linter.unusedSimpArgs false
namespace Sx
open Go Gk
noncomputable section
def kn:IntKind→Nat
 | .i8=>0
 | .i16=>1
 | .i32=>2
 | .i64=>3
 | .u8=>4
 | .u16=>5
 | .u32=>6
 | .u64=>7
theorem Xgz {k j:IntKind} (h:Nat.beq (kn k) (kn j)=true):k=j:=by
 have h:=Y4 h
 cases k <;> cases j <;> first | rfl | (simp only [kn] at h; omega)
def Xaw:IntKind→Nat
 | .i8=>128
 | .i16=>32768
 | .i32=>2147483648
 | .i64=>9223372036854775808
 | .u8=>256
 | .u16=>65536
 | .u32=>4294967296
 | .u64=>18446744073709551616
def lx:IntKind→Nat
 | .i8=>7
 | .i16=>15
 | .i32=>31
 | .i64=>63
 | .u8=>8
 | .u16=>16
 | .u32=>32
 | .u64=>64
theorem Xij (k:IntKind):Xaw k=2 ^ lx k:=by cases k <;> rfl
theorem Xil (k:IntKind):2 ^ lx k≤2 ^ k.bits:=by cases k <;> decide
theorem X1h {k:IntKind} {n:Nat} (h:n<Xaw k):k.wrap (n:Int)=n:=by
 cases k <;> simp only [Xaw] at h <;> simp [IntKind.wrap,IntKind.bits,IntKind.signed] <;> omega
def X2h (op:BinOp) (k:IntKind) (a:Int) (k':IntKind) (b:Int):Option AV:=Xgf (binOp op 0 (.int k a) (.int k' b))
theorem Xgi {op:BinOp} {t:Nat} {k k':IntKind} {a b:Int}:X2h op k a k' b=Xgf (binOp op t (.int k a) (.int k' b)):=by cases op <;> rfl
def Good (op:BinOp) (s:Bool) (f:IntKind→Nat→Nat→Option AV):Prop:=∀ k k' i j α,(s=true∨k=k')→f k i j=some α→X2h op k (.ofNat i) k' (.ofNat j)=some α
def Xiq (op:BinOp) (k:IntKind) (i:Nat) (k':IntKind) (j:Nat) (r:Option AV):Option AV:=Option.rec (motive:=fun _=>Option AV) (X2h op k (.ofNat i) k' (.ofNat j)) some r
abbrev X6g:=IntKind→Int→IntKind→Int→Option AV
def natI2 (op:BinOp) (s:Bool) (f:IntKind→Nat→Nat→Option AV) (k:IntKind) (i:Nat) (k':IntKind) (b:Int):Option AV :=
 Int.rec (motive:=fun _=>Option AV) (fun j=>Xr (Xiq op k i k' j (f k i j)) (X2h op k (.ofNat i) k' (.ofNat j)) (Xr true (Nat.beq (kn k) (kn k')) s)) (fun j=>X2h op k (.ofNat i) k' (.negSucc j)) b
def Xb2 (op:BinOp) (s:Bool) (f:IntKind→Nat→Nat→Option AV):X6g:=fun k a k' b =>
 Int.rec (motive:=fun _=>Option AV) (fun i=>natI2 op s f k i k' b) (fun i=>X2h op k (.negSucc i) k' b) a
theorem X1g {op:BinOp} {s:Bool} {f:IntKind→Nat→Nat→Option AV} (hg:Good op s f) (k:IntKind) (a:Int) (k':IntKind) (b:Int):Xb2 op s f k a k' b=X2h op k a k' b:=by
 cases a with
 | negSucc i=>rfl
 | ofNat i =>
  cases b with
  | negSucc j=>rfl
  | ofNat j =>
   show Xr _ _ _=_
   rw [X7]
   cases hb:Xr true (Nat.beq (kn k) (kn k')) s with
   | false=>rfl
   | true =>
    have hk:s=true∨k=k':=by
     rw [X7] at hb
     cases s with
     | true=>exact .inl rfl
     | false=>exact .inr (Xgz hb)
    show Xiq _ _ _ _ _ _=_
    unfold Xiq
    cases hf:f k i j with
    | none=>rfl
    | some α=>exact (hg k k' i j α hk hf).symm
def fit1 (k:IntKind) (n:Nat):Option AV:=Xr (some (.v (.int k (.ofNat n)))) none (Nat.blt n (Xaw k))
def fit (k:IntKind) (n:Nat):Option AV:=frc (fit1 k) n
theorem X88 {k:IntKind} {n:Nat} {α:AV} (h:fit k n=some α):n<Xaw k∧α=.v (.int k (n:Int)):=by
 unfold fit at h
 rw [X4d,fit1,X7] at h
 cases hb:Nat.blt n (Xaw k) with
 | false=>rw [hb] at h; cases h
 | true=>rw [hb] at h; cases h; exact ⟨Y1 hb,rfl⟩
theorem X73 {op:BinOp} {k:IntKind} {a b c:Int} (ho:op=.add∧c=a+b∨op=.sub∧c=a - b∨op=.mul∧c=a*b):X2h op k a k b=some (.v (.int k (k.wrap c))):=by
 unfold X2h
 rcases ho with ⟨rfl,rfl⟩ | ⟨rfl,rfl⟩ | ⟨rfl,rfl⟩ <;> (simp only [binOp,Op.intArith,ne_eq,not_true_eq_false,if_false]; rfl)
def addN (k:IntKind) (i j:Nat):Option AV:=fit k (Nat.add i j)
theorem Xhp:Good .add false addN:=by
 rintro k k' i j α (h | rfl) hf
 ·cases h
 obtain ⟨h1,rfl⟩:=X88 hf
 rw [X73 (c:=((Nat.add i j:Nat):Int)) (.inl ⟨rfl,rfl⟩)]
 rw [X1h h1]
def subN (k:IntKind) (i j:Nat):Option AV:=Xr (fit k (Nat.sub i j)) none (Nat.ble j i)
theorem Xj8:Good .sub false subN:=by
 rintro k k' i j α (h | rfl) hf
 ·cases h
 unfold subN at hf
 rw [X7] at hf
 cases hb:Nat.ble j i with
 | false=>rw [hb] at hf; cases hf
 | true =>
  rw [hb] at hf
  have hle:=Y1 hb
  obtain ⟨h1,rfl⟩:=X88 hf
  rw [X73 (a:=Int.ofNat i) (b:=Int.ofNat j) (c:=((Nat.sub i j:Nat):Int)) (.inr (.inl ⟨rfl,(Int.ofNat_sub hle)⟩))]
  rw [X1h h1]
def mulN (k:IntKind) (i j:Nat):Option AV:=fit k (Nat.mul i j)
theorem Xin:Good .mul false mulN:=by
 rintro k k' i j α (h | rfl) hf
 ·cases h
 obtain ⟨h1,rfl⟩:=X88 hf
 rw [X73 (c:=((Nat.mul i j:Nat):Int)) (.inr (.inr ⟨rfl,rfl⟩))]
 rw [X1h h1]
def Xgp (f:Nat→Nat→Nat) (k:IntKind) (i j:Nat):Option AV:=Xr (Xr (fit k (f i j)) none (Nat.blt j (Xaw k))) none (Nat.blt i (Xaw k))
theorem X96 {f:Nat→Nat→Nat} {k:IntKind} {i j:Nat} {α:AV} (h:Xgp f k i j=some α):i<Xaw k∧j<Xaw k∧f i j<Xaw k∧α=.v (.int k (f i j:Nat)):=by
 unfold Xgp at h
 rw [X7,X7] at h
 cases h1:Nat.blt i (Xaw k) with
 | false=>rw [h1] at h; cases h
 | true =>
  rw [h1] at h
  cases h2:Nat.blt j (Xaw k) with
  | false=>rw [h2] at h; cases h
  | true =>
   rw [h2] at h
   obtain ⟨h3,h4⟩:=X88 h
   exact ⟨Y1 h1,Y1 h2,h3,h4⟩
theorem X2x {k:IntKind} {i:Nat} (h:i<Xaw k):(BitVec.ofInt k.bits (.ofNat i)).toNat=i:=by
 have h2:i<2 ^ k.bits:=by have:=Xil k; rw [← Xij] at this; omega
 show (BitVec.ofInt k.bits (i:Int)).toNat=i
 rw [BitVec.ofInt_natCast,BitVec.toNat_ofNat,Y2k h2]
theorem Xhq:Good .and false (Xgp Nat.land):=by
 rintro k k' i j α (h | rfl) hf
 ·cases h
 obtain ⟨h1,h2,h3,rfl⟩:=X96 hf
 have:k.wrap ((BitVec.ofInt k.bits (.ofNat i) &&& BitVec.ofInt k.bits (.ofNat j)).toNat:Int)=(Nat.land i j:Nat):=by
  rw [BitVec.toNat_and,X2x h1,X2x h2]; exact X1h h3
 simp only [X2h,binOp,Op.intBits,ne_eq,not_true_eq_false,if_false,this]
 rfl
theorem orN_ok:Good .or false (Xgp Nat.lor):=by
 rintro k k' i j α (h | rfl) hf
 ·cases h
 obtain ⟨h1,h2,h3,rfl⟩:=X96 hf
 have:k.wrap ((BitVec.ofInt k.bits (.ofNat i) ||| BitVec.ofInt k.bits (.ofNat j)).toNat:Int)=(Nat.lor i j:Nat):=by
  rw [BitVec.toNat_or,X2x h1,X2x h2]; exact X1h h3
 simp only [X2h,binOp,Op.intBits,ne_eq,not_true_eq_false,if_false,this]
 rfl
theorem Xje:Good .xor false (Xgp Nat.xor):=by
 rintro k k' i j α (h | rfl) hf
 ·cases h
 obtain ⟨h1,h2,h3,rfl⟩:=X96 hf
 have:k.wrap ((BitVec.ofInt k.bits (.ofNat i) ^^^ BitVec.ofInt k.bits (.ofNat j)).toNat:Int)=(Nat.xor i j:Nat):=by
  rw [BitVec.toNat_xor,X2x h1,X2x h2]; exact X1h h3
 simp only [X2h,binOp,Op.intBits,ne_eq,not_true_eq_false,if_false,this]
 rfl
def shrN (k:IntKind) (i j:Nat):Option AV:=Xr (frc (fun n=>some (.v (.int k (.ofNat n)))) (Nat.shiftRight i j)) none (Nat.ble j (kbits k))
where kbits:IntKind→Nat
 | .i8=>8
 | .u8=>8
 | .i16=>16
 | .u16=>16
 | .i32=>32
 | .u32=>32
 | .i64=>64
 | .u64=>64
theorem Xj5:Good .shr true shrN:=by
 rintro k k' i j α - hf
 unfold shrN at hf
 rw [X7,X4d] at hf
 cases hb:Nat.ble j (shrN.kbits k) with
 | false=>rw [hb] at hf; cases hf
 | true =>
  rw [hb] at hf
  cases hf
  have hle:j≤k.bits:=by have:=Y1 hb; cases k <;> exact this
  have h0:¬ ((Int.ofNat j)<0):=by simp
  have h1:min (Int.ofNat j).toNat k.bits=j:=Y2e hle
  have h2:(Int.ofNat i).fdiv ((2:Int) ^ j)=Int.ofNat (Nat.shiftRight i j):=by
   have e:((2:Int) ^ j)=((2 ^ j:Nat):Int):=by simp
   rw [e]
   have e2:Nat.shiftRight i j=i / 2 ^ j:=Nat.shiftRight_eq_div_pow i j
   rw [e2,Y37 _ (Ys _)]
   rfl
  simp only [X2h,binOp,Op.shift,if_neg h0,h1,h2]
  rfl
def Xai (f:Nat→Nat→Bool) (k:IntKind) (i j:Nat):Option AV:=Xr (some (.v (.bool true))) (some (.v (.bool false))) (f i j)
theorem X3y {f:Nat→Nat→Bool} {k:IntKind} {i j:Nat} {α:AV} (h:Xai f k i j=some α):α=.v (.bool (f i j)):=by
 unfold Xai at h
 cases hb:f i j with
 | true=>rw [hb] at h; cases h; rfl
 | false=>rw [hb] at h; cases h; rfl
theorem X4x {op:BinOp} {k:IntKind} {a b:Int} {r:Bool} (ho:op=.eql∧r=(a == b)∨op=.neq∧r=(a != b)∨op=.lss∧r=decide (a<b)∨op=.leq∧r=decide (a≤b)∨op=.gtr∧r=decide (a > b)∨op=.geq∧r=decide (a ≥ b)):X2h op k a k b=some (.v (.bool r)):=by
 unfold X2h
 rcases ho with ⟨rfl,rfl⟩ | ⟨rfl,rfl⟩ | ⟨rfl,rfl⟩ | ⟨rfl,rfl⟩ | ⟨rfl,rfl⟩ | ⟨rfl,rfl⟩ <;> (simp only [binOp,Op.intCmp,ne_eq,not_true_eq_false,if_false]; rfl)
def nneq (i j:Nat):Bool:=Xr false true (Nat.beq i j)
def ngt (i j:Nat):Bool:=Nat.blt j i
def nge (i j:Nat):Bool:=Nat.ble j i
theorem nbeq (i j:Nat):Nat.beq i j=((Int.ofNat i) == (Int.ofNat j)):=by
 rw [Y28,beq_iff_eq]
 constructor
 ·intro h; rw [Y4 h]
 ·intro h; cases h; exact Y2d i
theorem eqN_ok:Good .eql false (Xai Nat.beq):=by
 rintro k k' i j α (h | rfl) hf
 ·cases h
 rw [X3y hf]
 exact X4x (.inl ⟨rfl,nbeq i j⟩)
theorem neN_ok:Good .neq false (Xai nneq):=by
 rintro k k' i j α (h | rfl) hf
 ·cases h
 rw [X3y hf]
 exact X4x (.inr (.inl ⟨rfl,by unfold nneq; rw [X7,nbeq,bne]; cases (Int.ofNat i == Int.ofNat j) <;> rfl⟩))
theorem nlt (i j:Nat):Nat.blt i j=decide (Int.ofNat i<Int.ofNat j):=by
 rw [Y28,decide_eq_true_iff]
 constructor
 ·intro h; have:=Y1 h; simp; omega
 ·intro h; exact Y1b (by simp at h; omega)
theorem nle (i j:Nat):Nat.ble i j=decide (Int.ofNat i≤Int.ofNat j):=by
 rw [Y28,decide_eq_true_iff]
 constructor
 ·intro h; have:=Y1 h; simp; omega
 ·intro h; exact Y1b (by simp at h; omega)
theorem ltN_ok:Good .lss false (Xai Nat.blt):=by
 rintro k k' i j α (h | rfl) hf
 ·cases h
 rw [X3y hf]
 exact X4x (.inr (.inr (.inl ⟨rfl,nlt i j⟩)))
theorem leN_ok:Good .leq false (Xai Nat.ble):=by
 rintro k k' i j α (h | rfl) hf
 ·cases h
 rw [X3y hf]
 exact X4x (.inr (.inr (.inr (.inl ⟨rfl,nle i j⟩))))
theorem gtN_ok:Good .gtr false (Xai ngt):=by
 rintro k k' i j α (h | rfl) hf
 ·cases h
 rw [X3y hf]
 exact X4x (.inr (.inr (.inr (.inr (.inl ⟨rfl,nlt j i⟩)))))
theorem geN_ok:Good .geq false (Xai nge):=by
 rintro k k' i j α (h | rfl) hf
 ·cases h
 rw [X3y hf]
 exact X4x (.inr (.inr (.inr (.inr (.inr ⟨rfl,nle j i⟩)))))
def iAdd:X6g:=Xb2 .add false addN
def iSub:X6g:=Xb2 .sub false subN
def iMul:X6g:=Xb2 .mul false mulN
def iQuo:X6g:=X2h .quo
def iRem:X6g:=X2h .rem
def iAnd:X6g:=Xb2 .and false (Xgp Nat.land)
def iOr:X6g:=Xb2 .or false (Xgp Nat.lor)
def iXor:X6g:=Xb2 .xor false (Xgp Nat.xor)
def iShl:X6g:=X2h .shl
def iShr:X6g:=Xb2 .shr true shrN
def iAn:X6g:=X2h .andNot
def iEq:X6g:=Xb2 .eql false (Xai Nat.beq)
def iNe:X6g:=Xb2 .neq false (Xai nneq)
def iLt:X6g:=Xb2 .lss false (Xai Nat.blt)
def iLe:X6g:=Xb2 .leq false (Xai Nat.ble)
def iGt:X6g:=Xb2 .gtr false (Xai ngt)
def iGe:X6g:=Xb2 .geq false (Xai nge)
def Xif (op:BinOp):X6g:=BinOp.rec (motive:=fun _=>X6g) iAdd iSub iMul iQuo iRem iAnd iOr iXor iShl iShr iAn iEq iNe iLt iLe iGt iGe op
theorem Xft (op:BinOp) (t:Nat) (k:IntKind) (a:Int) (k':IntKind) (b:Int):Xif op k a k' b=Xgf (binOp op t (.int k a) (.int k' b)):=by
 rw [← Xgi]
 cases op with
 | add=>exact X1g Xhp ..
 | sub=>exact X1g Xj8 ..
 | mul=>exact X1g Xin ..
 | and=>exact X1g Xhq ..
 | or=>exact X1g orN_ok ..
 | xor=>exact X1g Xje ..
 | shr=>exact X1g Xj5 ..
 | eql=>exact X1g eqN_ok ..
 | neq=>exact X1g neN_ok ..
 | lss=>exact X1g ltN_ok ..
 | leq=>exact X1g leN_ok ..
 | gtr=>exact X1g gtN_ok ..
 | geq=>exact X1g geN_ok ..
 | _=>rfl
end
noncomputable section
def beqC (a b:Nat) (r:Bool):Bool:=Xr r false (Nat.beq (Nat.mod a 256) (Nat.mod b 256))
def Xbk (l:List Nat):List Nat→Bool:=List.rec (motive:=fun _=>List Nat→Bool) (fun m=>List.rec (motive:=fun _=>Bool) true (fun _ _ _=>false) m) (fun a _ ih m=>List.rec (motive:=fun _=>Bool) false (fun b t _=>beqC a b (ih t)) m) l
theorem X76:∀ l m:List Nat,Xbk l m=Xf5 l m
 | [],[]=>rfl
 | [],b::m=>rfl
 | a::l,[]=>rfl
 | a::l,b::m=>by
  show Xr (Xbk l m) false _=_
  rw [X7,X76 l m]; rfl
def binS (op:BinOp) (X:Cx) (t:Nat) (l:List Nat) (β:AV):Option AV:=match β with
 | .st m=>match op with
  | .eql=>some (.v (.bool (Xbk l m)))
  | .neq=>some (.v (.bool (Xr false true (Xbk l m))))
  | o=>Xer X o t (.st l) (.st m)
 | β=>Xer X op t (.st l) β
def binI2 (op:BinOp) (X:Cx) (t:Nat) (k:IntKind) (a:Int) (y:Value):Option AV:=match y with
 | .int k' b=>Xif op k a k' b
 | y=>Xer X op t (.v (.int k a)) (.v y)
def binI (op:BinOp) (X:Cx) (t:Nat) (k:IntKind) (a:Int) (β:AV):Option AV:=match β with
 | .v y=>binI2 op X t k a y
 | β=>Xer X op t (.v (.int k a)) β
def binV (op:BinOp) (X:Cx) (t:Nat) (x:Value) (β:AV):Option AV:=match x with
 | .int k a=>binI op X t k a β
 | x=>Xer X op t (.v x) β
def binF (op:BinOp) (X:Cx) (t:Nat) (α β:AV):Option AV:=match α with
 | .v x=>binV op X t x β
 | .st l=>binS op X t l β
 | α=>Xer X op t α β
theorem Xhu (op:BinOp) (X:Cx) (t:Nat) (α β:AV):binF op X t α β=Xer X op t α β:=by
 cases α with
 | v x=>cases x with
  | int k a=>cases β with
   | v y=>cases y with
    | int k' b=>show Xif op k a k' b=_; rw [Xft op t]; rfl
    | _=>rfl
   | _=>rfl
  | _=>rfl
 | st l=>cases β with
  | st m=>cases op with
   | eql=>show some (AV.v (.bool (Xbk l m)))=_; rw [X76]; rfl
   | neq=>show some (AV.v (.bool (Xr false true (Xbk l m))))=some (AV.v (.bool (!(Xf5 l m)))); rw [X76]; cases Xf5 l m <;> rfl
   | _=>rfl
  | _=>rfl
 | _=>rfl
section
variable {X:Cx} {cf:Xj} {E:Fe} {H:X3} {nx:Nat}
def Xbl {β:Type} (o p:Option AV) (f:AV→AV→Option β):Option β:=Option.rec (motive:=fun _=>Option β) none (fun α=>Option.rec (motive:=fun _=>Option β) none (fun γ=>f α γ) p) o
def fBin (op:BinOp) (t:Nat) (x y:Operand) (t':Nat):X1n:=fun X cf E H nx=>X46 H nx (Xbl (avF x X E) (avF y X E) (binF op X t))
theorem Xd5 {op:BinOp} {t t':Nat} {x y:Operand}:fBin op t x y t' X cf E H nx=step X cf E.l H nx (.binOp op t x y t'):=by
 rw [Xq rfl rfl rfl]
 show X46 H nx (Xbl (avF x X E) (avF y X E) (binF op X t))=_
 rw [Xz,Xz]
 congr 1
 simp only [opP]
 cases av X E.l x with
 | none=>rfl
 | some α=>cases av X E.l y with
  | none=>rfl
  | some β=>exact Xhu op X t α β
def orS (op:Op) (X:Cx) (cf:Xj) (E:Fe) (H:X3) (nx:Nat) (r:Res):Res:=Option.rec (motive:=fun _=>Res) (sl op X cf E H nx) some r
theorem X5u {op:Op} {r:Res} (h:∀ q,r=some q→step X cf E.l H nx op=some q):orS op X cf E H nx r=step X cf E.l H nx op:=by
 cases r with
 | none=>rfl
 | some q=>exact (h q rfl).symm
theorem X78 {β:Type} {o:Option AV} {f:AV→Option β} {q:β} (h:X48 o f=some q):∃ α,o=some α∧f α=some q:=by
 cases o with
 | none=>cases h
 | some α=>exact ⟨α,rfl,h⟩
theorem X4v {β:Type} {o p:Option AV} {f:AV→AV→Option β} {q:β} (h:Xbl o p f=some q):∃ α γ,o=some α∧p=some γ∧f α γ=some q:=by
 cases o with
 | none=>cases h
 | some α=>cases p with
  | none=>cases h
  | some γ=>exact ⟨α,γ,rfl,rfl,h⟩
theorem X1p {β:Type} {r:Option β} {b:Bool} {q:β} (h:Xr r none b=some q):b=true∧r=some q:=by
 cases b with
 | false=>cases h
 | true=>exact ⟨rfl,h⟩
def tiB {β:Type} (o:Option TI) (f:TI→Option β):Option β:=Option.rec (motive:=fun _=>Option β) none f o
theorem Xy {β:Type} {o:Option TI} {f:TI→Option β} {q:β} (h:tiB o f=some q):∃ ti,o=some ti∧f ti=some q:=by
 cases o with
 | none=>cases h
 | some ti=>exact ⟨ti,rfl,h⟩
-- numbers to numbers
def cv4 (k r:IntKind) (a:Int):Option AV:=Int.rec (motive:=fun _=>Option AV) (fun n=>fit r n) (fun _=>none) a
def cv3 (k k':IntKind) (a:Int) (u:Und):Option AV:=match u with
 | .int r=>Xr (cv4 k r a) none (Nat.beq (kn k) (kn k'))
 | _=>none
def cv2 (k:IntKind) (a:Int) (dst:Nat) (X:Cx) (u:Und):Option AV:=match u with
 | .int k'=>tiB (trF X.ty dst) fun ti=>cv3 k k' a ti.und
 | _=>none
def cv1 (src dst:Nat) (X:Cx) (v:Value):Option AV:=match v with
 | .int k a=>tiB (trF X.ty src) fun ti=>cv2 k a dst X ti.und
 | _=>none
def cv0 (src dst:Nat) (X:Cx) (α:AV):Option AV:=match α with
 | .v x=>cv1 src dst X x
 | _=>none
def fCv (src dst:Nat) (x:Operand):X1n:=fun X cf E H nx=>orS (.convert src dst x) X cf E H nx (X46 H nx (X48 (avF x X E) (cv0 src dst X)))
theorem X2t {o:Option AV} {q:AV×X3×Nat} (h:X46 H nx o=some q):∃ α,o=some α∧q=(α,H,nx):=by
 cases o with
 | none=>cases h
 | some α=>cases h; exact ⟨α,rfl,rfl⟩
theorem Xd6 {src dst:Nat} {x:Operand} {γ:AV} (h1:X48 (avF x X E) (cv0 src dst X)=some γ):opP X E.l (.convert src dst x)=some γ:=by
 rw [Xz] at h1
 obtain ⟨α,h2,h3⟩:=X78 h1
 cases α with
 | v u=>cases u with
  | int k a =>
   obtain ⟨ti,h4,h5⟩:=Xy (show tiB _ _=_ from h3)
   rw [Xu] at h4
   obtain ⟨z1,z2,z3,z4,u⟩:=ti
   cases u with
   | int k' =>
    obtain ⟨tj,h6,h7⟩:=Xy (show tiB _ _=_ from h5)
    rw [Xu] at h6
    obtain ⟨y1,y2,y3,y4,u⟩:=tj
    cases u with
    | int r =>
     obtain ⟨h8,h9⟩:=X1p (show Xr _ _ _=_ from h7)
     have:=Xgz h8
     subst this
     cases a with
     | negSucc n=>cases h9
     | ofNat n =>
      obtain ⟨g1,rfl⟩:=X88 (show fit r n=_ from h9)
      have:r.wrap (Int.ofNat n)=(n:Int):=X1h g1
      simp only [opP,h2,h4,h6,Y1a,beq_self_eq_true,cond_true,this]
    | _=>cases h7
   | _=>cases h5
  | _=>cases h3
 | _=>cases h3
theorem fCv_eq {src dst:Nat} {x:Operand}:fCv src dst x X cf E H nx=step X cf E.l H nx (.convert src dst x):=by
 refine X5u fun q hq=>?_
 obtain ⟨γ,h1,rfl⟩:=X2t hq
 exact X4p (Xd6 h1)
-- a byte of a text
def ix3 (l:List Nat) (a:Int) (u:Und):Option AV:=match u with
 | .str=>Int.rec (motive:=fun _=>Option AV) (fun j=>Option.rec (motive:=fun _=>Option AV) none (fun c=>frc (fun n=>some (.v (.int .u8 (.ofNat n)))) (Nat.mod c 256)) (Xeu l j)) (fun _=>none) a
 | _=>none
def ix2 (t:Nat) (X:Cx) (l:List Nat) (v:Value):Option AV:=match v with
 | .int k a=>tiB (trF X.ty t) fun ti=>ix3 l a ti.und
 | _=>none
def ix1 (t:Nat) (X:Cx) (l:List Nat) (β:AV):Option AV:=match β with
 | .v x=>ix2 t X l x
 | _=>none
def ix0 (t:Nat) (X:Cx) (α β:AV):Option AV:=match α with
 | .st l=>ix1 t X l β
 | _=>none
def fIx (t:Nat) (x y:Operand):X1n:=fun X cf E H nx=>orS (.index t x y) X cf E H nx (X46 H nx (Xbl (avF x X E) (avF y X E) (ix0 t X)))
theorem Xd9 {t:Nat} {x y:Operand} {γ:AV} (h1:Xbl (avF x X E) (avF y X E) (ix0 t X)=some γ):opP X E.l (.index t x y)=some γ:=by
 rw [Xz,Xz] at h1
 obtain ⟨α,β,h2,h3,h4⟩:=X4v h1
 cases α with
 | st l=>cases β with
  | v u=>cases u with
   | int k a =>
    obtain ⟨ti,h5,h6⟩:=Xy (show tiB _ _=_ from h4)
    rw [Xu] at h5
    obtain ⟨z1,z2,z3,z4,u⟩:=ti
    cases u with
    | str =>
     cases a with
     | negSucc n=>cases h6
     | ofNat j =>
      have h7:Option.rec (motive:=fun _=>Option AV) none (fun c=>frc (fun n=>some (.v (.int .u8 (.ofNat n)))) (Nat.mod c 256)) (Xeu l j)=some γ:=h6
      rw [X3d] at h7
      simp only [opP,h2,h3,h5,Y1a]
      cases h8:nth l j with
      | none=>rw [h8] at h7; cases h7
      | some c=>rw [h8] at h7; simp only [X4d] at h7; cases h7; rfl
    | _=>cases h6
   | _=>cases h4
  | _=>cases h4
 | _=>cases h4
theorem fIx_eq {t:Nat} {x y:Operand}:fIx t x y X cf E H nx=step X cf E.l H nx (.index t x y):=by
 refine X5u fun q hq=>?_
 obtain ⟨γ,h1,rfl⟩:=X2t hq
 exact X4p (Xd9 h1)
-- the place of an element
def ia5 (b o m z i:Nat) (te:TI):Option AV:=Xr (Xr (frc (fun n=>some (.p b n)) (Nat.mul (Nat.add o i) z)) none (Nat.blt i m)) none (Nat.beq z te.size)
def ia5p (b o n i:Nat) (te:TI):Option AV:=Xr (frc (fun n=>some (.p b n)) (Nat.add o (Nat.mul i te.size))) none (Nat.blt i n)
def ia4 (b o m z i:Nat) (X:Cx) (u:Und):Option AV:=match u with
 | .slice e=>tiB (trF X.ty e) (ia5 b o m z i)
 | _=>none
def ia4c (b o m i:Nat) (X:Cx) (u:Und):Option AV:=match u with
 | .slice e=>tiB (trF X.ty e) (ia5p b o m i)
 | _=>none
def ia4p (b o i:Nat) (X:Cx) (u:Und):Option AV:=match u with
 | .arr n e=>tiB (trF X.ty e) (ia5p b o n i)
 | _=>none
def Xfz (β:AV):Option Nat:=match β with
 | .v (.int .i64 (.ofNat i))=>some i
 | _=>none
def Xip (a:Int):Option Nat:=match a with
 | .ofNat i=>some i
 | _=>none
def Xio (v:Value):Option Nat:=match v with
 | .int _ a=>Xip a
 | _=>none
def Xh1 (β:AV):Option Nat:=match β with
 | .v x=>Xio x
 | _=>none
theorem X9l {β:AV} {i:Nat} (h:Xh1 β=some i):∃ k,β=.v (.int k (.ofNat i)):=by
 cases β with
 | v x=>cases x with
  | int k a=>cases a with
   | ofNat j=>cases h; exact ⟨k,rfl⟩
   | negSucc j=>cases h
  | _=>cases h
 | _=>cases h
def ntB {β:Type} (o:Option Nat) (f:Nat→Option β):Option β:=Option.rec (motive:=fun _=>Option β) none f o
theorem X4m {β:Type} {o:Option Nat} {f:Nat→Option β} {q:β} (h:ntB o f=some q):∃ i,o=some i∧f i=some q:=by
 cases o with
 | none=>cases h
 | some i=>exact ⟨i,rfl,h⟩
theorem X6s {β:AV} {i:Nat} (h:Xfz β=some i):β=.v (.int .i64 (.ofNat i)):=by
 unfold Xfz at h
 split at h
 ·cases h; rfl
 ·cases h
def ia0 (t:Nat) (X:Cx) (α β:AV):Option AV:=match α with
 | .s b o m z=>ntB (Xfz β) fun i=>tiB (trF X.ty t) fun ti=>ia4 b o m z i X ti.und
 | .c b o m k=>ntB (Xfz β) fun i=>tiB (trF X.ty t) fun ti=>ia4c b o m i X ti.und
 | .p b o=>ntB (Xh1 β) fun i=>tiB (trF X.ty t) fun ti=>ia4p b o i X ti.und
 | _=>none
def fIa (t:Nat) (x y:Operand):X1n:=fun X cf E H nx=>orS (.indexAddr t x y) X cf E H nx (X46 H nx (Xbl (avF x X E) (avF y X E) (ia0 t X)))
theorem Xd8 {t:Nat} {x y:Operand} {γ:AV} (h1:Xbl (avF x X E) (avF y X E) (ia0 t X)=some γ):opP X E.l (.indexAddr t x y)=some γ:=by
 rw [Xz,Xz] at h1
 obtain ⟨α,β,h2,h3,h4⟩:=X4v h1
 cases α with
 | s b o m z =>
  obtain ⟨i,h5,h6⟩:=X4m (show ntB _ _=_ from h4)
  have:=X6s h5
  subst this
  obtain ⟨ti,h7,h8⟩:=Xy h6
  rw [Xu] at h7
  obtain ⟨z1,z2,z3,z4,u⟩:=ti
  cases u with
  | slice e =>
   obtain ⟨te,h9,h10⟩:=Xy (show tiB _ _=_ from h8)
   rw [Xu] at h9
   obtain ⟨g1,g2⟩:=X1p (show Xr _ _ _=_ from h10)
   obtain ⟨g3,g4⟩:=X1p g2
   rw [X4d] at g4; cases g4
   simp only [opP,h2,h3,h7,h9,Y1a,g1,g3,Bool.and_self,cond_true]
   rfl
  | _=>cases h8
 | c b o m k =>
  obtain ⟨i,h5,h6⟩:=X4m (show ntB _ _=_ from h4)
  have:=X6s h5
  subst this
  obtain ⟨ti,h7,h8⟩:=Xy h6
  rw [Xu] at h7
  obtain ⟨z1,z2,z3,z4,u⟩:=ti
  cases u with
  | slice e =>
   obtain ⟨te,h9,h10⟩:=Xy (show tiB _ _=_ from h8)
   rw [Xu] at h9
   obtain ⟨g1,g2⟩:=X1p (show Xr _ _ _=_ from h10)
   rw [X4d] at g2; cases g2
   simp only [opP,h2,h3,h7,h9,Y1a,g1,cond_true]
   rfl
  | _=>cases h8
 | p b o =>
  obtain ⟨i,h5,h6⟩:=X4m (show ntB _ _=_ from h4)
  obtain ⟨k,rfl⟩:=X9l h5
  obtain ⟨ti,h7,h8⟩:=Xy h6
  rw [Xu] at h7
  obtain ⟨z1,z2,z3,z4,u⟩:=ti
  cases u with
  | arr n e =>
   obtain ⟨te,h9,h10⟩:=Xy (show tiB _ _=_ from h8)
   rw [Xu] at h9
   obtain ⟨g1,g2⟩:=X1p (show Xr _ _ _=_ from h10)
   rw [X4d] at g2; cases g2
   simp only [opP,h2,h3,h7,h9,Y1a,g1,cond_true]
   rfl
  | _=>cases h8
 | _=>cases h4
theorem fIa_eq {t:Nat} {x y:Operand}:fIa t x y X cf E H nx=step X cf E.l H nx (.indexAddr t x y):=by
 refine X5u fun q hq=>?_
 obtain ⟨γ,h1,rfl⟩:=X2t hq
 exact X4p (Xd8 h1)
end
end
noncomputable section
section
variable {X:Cx} {cf:Xj} {E:Fe} {H:X3} {nx:Nat}
def bkB {β:Type} (o:Option Blk) (f:Blk→Option β):Option β:=Option.rec (motive:=fun _=>Option β) none f o
theorem Xf6 {β:Type} {o:Option Blk} {f:Blk→Option β} {q:β} (h:bkB o f=some q):∃ b,o=some b∧f b=some q:=by
 cases o with
 | none=>cases h
 | some b=>exact ⟨b,rfl,h⟩
def rowC (b:Blk):Option (List AV):=match b with
 | .row _ _ _ cs=>some cs
 | _=>none
def Xct (X:Cx) (H:X3) (b:Nat):Option (List AV):=Option.rec (motive:=fun _=>Option (List AV)) (lkF X.Z b) rowC (lkF H b)
theorem Xcu (X:Cx) (H:X3) (b:Nat):Xct X H b=X1d X H b:=by
 unfold Xct X1d
 rw [Xik,lkF_z]
 cases Xp H b with
 | none=>rfl
 | some k=>cases k <;> rfl
def lsB {β:Type} (o:Option (List AV)) (f:List AV→Option β):Option β:=Option.rec (motive:=fun _=>Option β) none f o
theorem Xaz {β:Type} {o:Option (List AV)} {f:List AV→Option β} {q:β} (h:lsB o f=some q):∃ b,o=some b∧f b=some q:=by
 cases o with
 | none=>cases h
 | some b=>exact ⟨b,rfl,h⟩
theorem Xj9:∀ {cs:List AV} {o:Nat} {x:AV},nth cs o=some x→sub cs o 1=some [x]:=by
 intro cs o x h
 rw [X12] at h
 obtain ⟨hl,he⟩:=Y0.1 h
 unfold sub
 have:Nat.ble (o+1) (len cs)=true:=Y1b (by rw [Xg]; omega)
 rw [this,cond_true,Yz hl,he]; rfl
def ofC (g:Bool) (l:List AV):Option AV:=Xr (some (.a l)) (X1q false l) g
theorem ofC_eq (g:Bool) (l:List AV):ofC g l=X1q g l:=by unfold ofC; rw [X7]; cases g <;> rfl
def ld2 (o:Nat) (ti:TI) (cs:List AV):Option AV:=Xr (Xr none (Xeu cs o) ti.agg) (lsB (sub cs o ti.size) (ofC ti.agg)) (Nat.beq ti.size 1)
def ld1 (t:Nat) (X:Cx) (H:X3) (α:AV):Option AV:=match α with
 | .p b o=>tiB (trF X.ty t) fun ti=>lsB (Xct X H b) (ld2 o ti)
 | _=>none
def fLd (t:Nat) (x:Operand):X1n:=fun X cf E H nx=>orS (.load t x) X cf E H nx (X46 H (Nat.succ nx) (X48 (avF x X E) (ld1 t X H)))
theorem Xda {t:Nat} {x:Operand} {γ:AV} {id:Nat} (h1:X48 (avF x X E) (ld1 t X H)=some γ):opM X E.l H id (.load t x)=some (γ,H):=by
 rw [Xz] at h1
 obtain ⟨α,h2,h3⟩:=X78 h1
 cases α with
 | p b o =>
  obtain ⟨ti,h4,h5⟩:=Xy (show tiB _ _=_ from h3)
  obtain ⟨cs,h6,h7⟩:=Xaz h5
  rw [Xu] at h4
  rw [Xcu] at h6
  simp only [opM,h2,h4,h6]
  unfold ld2 at h7
  rw [X7] at h7
  cases hs:Nat.beq ti.size 1 with
  | true =>
   rw [hs,cond_true,X7] at h7
   cases hg:ti.agg with
   | true=>rw [hg] at h7; cases h7
   | false =>
    rw [hg,cond_false,X3d] at h7
    rw [Y4 hs,Xj9 h7]
    rfl
  | false =>
   rw [hs,cond_false] at h7
   obtain ⟨xs,h8,h9⟩:=Xaz h7
   rw [ofC_eq] at h9
   simp only [h8,h9]
 | _=>cases h3
theorem fLd_eq {t:Nat} {x:Operand}:fLd t x X cf E H nx=step X cf E.l H nx (.load t x):=by
 refine X5u fun q hq=>?_
 obtain ⟨γ,h1,rfl⟩:=X2t hq
 exact Xbc rfl (Xda h1)
theorem Xbm {β:AV} (h:Xh3 β=true):X4w β=some [β]:=by
 cases β with
 | v x=>unfold X4w; unfold Xh3 at h; simp only [h,cond_true]
 | a l=>cases h
 | t l=>cases h
 | u=>cases h
 | _=>rfl
def st3 (H:X3) (b o:Nat) (β:AV) (k:Blk):Option X3:=match k with
 | .row E' z q cs=>Option.rec (motive:=fun _=>Option X3) none (fun _=>some (Xfr H b (.row E' z q (updF cs o β)))) (Xeu cs o)
 | _=>none
def st2 (H:X3) (b o:Nat) (β:AV) (ti:TI):Option X3:=Xr (Xr (bkB (lkF H b) (st3 H b o β)) none (Xh3 β)) none (Nat.beq ti.size 1)
def st1 (t:Nat) (X:Cx) (H:X3) (α β:AV):Option X3:=match α with
 | .p b o=>tiB (trF X.ty t) (st2 H b o β)
 | _=>none
def retS (nx:Nat) (o:Option X3):Res:=Option.rec (motive:=fun _=>Res) none (fun H=>some (.v undef,H,nx)) o
def fSt (t:Nat) (x y:Operand):X1n:=fun X cf E H nx=>orS (.store t x y) X cf E H nx (retS nx (Xbl (avF x X E) (avF y X E) (st1 t X H)))
theorem fSt_eq {t:Nat} {x y:Operand}:fSt t x y X cf E H nx=step X cf E.l H nx (.store t x y):=by
 refine X5u fun q hq=>?_
 have h0:∃ H',Xbl (avF x X E) (avF y X E) (st1 t X H)=some H'∧q=(.v undef,H',nx):=by
  revert hq
  cases Xbl (avF x X E) (avF y X E) (st1 t X H) with
  | none=>intro hq; cases hq
  | some H'=>intro hq; cases hq; exact ⟨H',rfl,rfl⟩
 obtain ⟨H',h1,rfl⟩:=h0
 refine Xj7 rfl rfl ?_
 rw [Xz,Xz] at h1
 obtain ⟨α,β,h2,h3,h4⟩:=X4v h1
 cases α with
 | p b o =>
  obtain ⟨ti,h5,h6⟩:=Xy (show tiB _ _=_ from h4)
  rw [Xu] at h5
  obtain ⟨h7,h8⟩:=X1p (show Xr _ _ _=_ from h6)
  obtain ⟨h9,h10⟩:=X1p h8
  obtain ⟨k,h11,h12⟩:=Xf6 h10
  rw [Xik] at h11
  have hs:=Y4 h7
  cases k with
  | row E' z q cs =>
   have h13:Option.rec (motive:=fun _=>Option X3) none (fun _=>some (Xfr H b (.row E' z q (updF cs o β)))) (Xeu cs o)=some H':=h12
   rw [X3d] at h13
   cases hn:nth cs o with
   | none=>rw [hn] at h13; cases h13
   | some z0 =>
    rw [hn] at h13
    cases h13
    rw [X12] at hn
    obtain ⟨hl,he⟩:=Y0.1 hn
    have hb:(Nat.beq (len [β]) ti.size && Nat.ble (o+ti.size) (len cs) && X2o [β])=true:=by
     rw [hs,X4t]
     simp only [Y5,Y3x,List.all_nil,h9,Y3w]
     refine ⟨⟨rfl,Y1b (by rw [Xg]; omega)⟩,trivial⟩
    simp only [opS,h2,h3,h5,Xbm h9,h11,hb,cond_true]
    rw [Xat,Xa3,X2l,List.set_eq_take_append_cons_drop,if_pos hl]
    simp [len]
  | _=>cases h12
 | _=>cases h4
def fAl (e:Nat):X1n:=fun X cf E H nx=>orS (.alloc e) X cf E H nx (tiB (trF X.ty e) fun ti=>some (.p nx 0,(nx,.row e ti.size true ti.zero)::H,Nat.succ nx))
theorem fAl_eq {e:Nat}:fAl e X cf E H nx=step X cf E.l H nx (.alloc e):=by
 refine X5u fun q hq=>?_
 obtain ⟨ti,h1,h2⟩:=Xy hq
 cases h2
 refine Xbc rfl ?_
 rw [Xu] at h1
 simp only [opM,h1]
-- how long
def ln3 (l:List Nat) (u:Und):Option AV:=match u with
 | .str=>frc (fun n=>some (.v (.int .i64 (.ofNat n)))) (lenF l)
 | _=>none
def ln3s (m:Nat) (u:Und):Option AV:=match u with
 | .slice _=>some (.v (.int .i64 (.ofNat m)))
 | _=>none
def ln2 (t:Nat) (X:Cx) (α:AV):Option AV:=match α with
 | .st l=>tiB (trF X.ty t) fun ti=>ln3 l ti.und
 | .s _ _ m _=>tiB (trF X.ty t) fun ti=>ln3s m ti.und
 | .c _ _ m _=>tiB (trF X.ty t) fun ti=>ln3s m ti.und
 | _=>none
def hd1 {α:Type} (l:List α):Option α:=List.rec (motive:=fun _=>Option α) none (fun a t _=>List.rec (motive:=fun _=>Option α) (some a) (fun _ _ _=>none) t) l
theorem Xap {α:Type} {l:List α} {a:α} (h:hd1 l=some a):l=[a]:=by
 cases l with
 | nil=>cases h
 | cons b l=>cases l with
  | nil=>cases h; rfl
  | cons c l=>cases h
def opB {β:Type} (o:Option Operand) (f:Operand→Option β):Option β:=Option.rec (motive:=fun _=>Option β) none f o
theorem Xg4 {β:Type} {o:Option Operand} {f:Operand→Option β} {q:β} (h:opB o f=some q):∃ b,o=some b∧f b=some q:=by
 cases o with
 | none=>cases h
 | some b=>exact ⟨b,rfl,h⟩
def fLn (xs:Array Operand) (ts:Array TypeId):X1n:=fun X cf E H nx=>orS (.call ⟨.builtin .len,xs,ts⟩) X cf E H nx (X46 H nx (opB (hd1 xs.toList) fun x=>ntB (hd1 ts.toList) fun t=>X48 (avF x X E) (ln2 t X)))
theorem Xdb {xs:Array Operand} {ts:Array TypeId} {γ:AV} (h1:(opB (hd1 xs.toList) fun x=>ntB (hd1 ts.toList) fun t=>X48 (avF x X E) (ln2 t X))=some γ):opP X E.l (.call ⟨.builtin .len,xs,ts⟩)=some γ:=by
 obtain ⟨x,h2,h3⟩:=Xg4 h1
 obtain ⟨t,h4,h5⟩:=X4m h3
 obtain ⟨xs⟩:=xs
 obtain ⟨ts⟩:=ts
 have e1:=Xap h2
 have e2:=Xap h4
 simp only at e1 e2
 subst e1; subst e2
 rw [Xz] at h5
 obtain ⟨α,h6,h7⟩:=X78 h5
 cases α with
 | st l =>
  obtain ⟨ti,h8,h9⟩:=Xy (show tiB _ _=_ from h7)
  rw [Xu] at h8
  obtain ⟨z1,z2,z3,z4,u⟩:=ti
  cases u with
  | str =>
   have h10:frc (fun n=>some (AV.v (.int .i64 (.ofNat n)))) (lenF l)=some γ:=h9
   rw [X4d,X9i] at h10
   cases h10
   simp only [opP,h6,h8,Y1a]
   rfl
  | _=>cases h9
 | s b o m z =>
  obtain ⟨ti,h8,h9⟩:=Xy (show tiB _ _=_ from h7)
  rw [Xu] at h8
  obtain ⟨z1,z2,z3,z4,u⟩:=ti
  cases u with
  | slice e=>cases h9; simp only [opP,h6,h8,Y1a]; rfl
  | _=>cases h9
 | c b o m z =>
  obtain ⟨ti,h8,h9⟩:=Xy (show tiB _ _=_ from h7)
  rw [Xu] at h8
  obtain ⟨z1,z2,z3,z4,u⟩:=ti
  cases u with
  | slice e=>cases h9; simp only [opP,h6,h8,Y1a]; rfl
  | _=>cases h9
 | _=>cases h7
theorem fLn_eq {xs:Array Operand} {ts:Array TypeId}:fLn xs ts X cf E H nx=step X cf E.l H nx (.call ⟨.builtin .len,xs,ts⟩):=by
 refine X5u fun q hq=>?_
 obtain ⟨γ,h1,rfl⟩:=X2t hq
 exact X4p (Xdb h1)
-- calls
def appF {α:Type} (l m:List α):List α:=List.rec (motive:=fun _=>List α) m (fun a _ ih=>a::ih) l
theorem X72 {α:Type}:∀ l m:List α,appF l m=l ++ m
 | [],m=>rfl
 | a::l,m=>congrArg (a::·) (X72 l m)
def cl2 (cf:Xj) (H:X3) (nx:Nat) (αs:List AV) (α:AV):Res:=match α with
 | .f f fst cap=>cf f (appF fst (appF αs cap)) H nx
 | _=>none
def lsR (o:Option (List AV)) (f:List AV→Res):Res:=Option.rec (motive:=fun _=>Res) none f o
def cl1 (x:Operand) (xs:Array Operand):X1n:=fun X cf E H nx=>lsR (avsF xs.toList X E) fun αs=>Option.rec (motive:=fun _=>Res) none (cl2 cf H nx αs) (avF x X E)
theorem Xcv {x:Operand} {xs:Array Operand} {ts:Array TypeId}:cl1 x xs X cf E H nx=X97 X cf E.l H nx (.call ⟨.value x,xs,ts⟩):=by
 unfold cl1
 rw [Xcn,Xz]
 simp only [X97,arrL]
 cases avs X E.l xs.toList with
 | none =>
  cases av X E.l x with
  | none=>rfl
  | some α=>cases α <;> rfl
 | some αs =>
  cases av X E.l x with
  | none=>rfl
  | some α=>cases α with
   | f f fst cap =>
    show cf f (appF fst (appF αs cap)) H nx=_
    rw [X72,X72]
   | _=>rfl
def exB (o:Option (List AV→Option AV)) (r s:Res):Res:=Option.rec (motive:=fun _=>Res) r (fun _=>s) o
def fClV (x:Operand) (xs:Array Operand) (ts:Array TypeId):X1n:=Operand.rec (motive:=fun _=>X1n) (fun t=>cl1 (.tmp t) xs) (fun v=>sl (.call ⟨.value (.const v),xs,ts⟩)) (fun g=>cl1 (.global g) xs)
 (fun f X cf E H nx=>exB (trF X.ex f) (cl1 (.func f) xs X cf E H nx) (sl (.call ⟨.value (.func f),xs,ts⟩) X cf E H nx)) x
theorem Xi8 {x:Operand} {xs:Array Operand} {ts:Array TypeId}:fClV x xs ts X cf E H nx=step X cf E.l H nx (.call ⟨.value x,xs,ts⟩):=by
 cases x with
 | tmp t=>show cl1 (.tmp t) xs X cf E H nx=_; rw [Xcv (ts:=ts),X62 rfl rfl rfl]
 | const v=>rfl
 | global g=>show cl1 (.global g) xs X cf E H nx=_; rw [Xcv (ts:=ts),X62 rfl rfl rfl]
 | func f =>
  show exB (trF X.ex f) (cl1 (.func f) xs X cf E H nx) (sl (.call ⟨.value (.func f),xs,ts⟩) X cf E H nx)=_
  rw [Xu]
  cases h:X.ex.get f with
  | some g=>rfl
  | none =>
   show cl1 (.func f) xs X cf E H nx=_
   rw [Xcv (ts:=ts),X62 rfl (by simp only [opM,h]) rfl]
def isLn (b:Builtin):Bool:=match b with
 | .len=>true
 | _=>false
def fBu (b:Builtin) (xs:Array Operand) (ts:Array TypeId):X1n:=fun X cf E H nx=>Xr (fLn xs ts X cf E H nx) (sl (.call ⟨.builtin b,xs,ts⟩) X cf E H nx) (isLn b)
theorem fBu_eq {b:Builtin} {xs:Array Operand} {ts:Array TypeId}:fBu b xs ts X cf E H nx=step X cf E.l H nx (.call ⟨.builtin b,xs,ts⟩):=by
 unfold fBu
 rw [X7]
 cases b with
 | len=>exact fLn_eq
 | _=>rfl
def fCall (c:Call):X1n:=Call.rec (motive:=fun _=>X1n) (fun e xs ts=>Callee.rec (motive:=fun _=>Array Operand→Array TypeId→X1n) fClV (fun r m xs ts=>sl (.call ⟨.invoke r m,xs,ts⟩)) fBu e xs ts) c
theorem Xfm {c:Call}:fCall c X cf E H nx=step X cf E.l H nx (.call c):=by
 obtain ⟨e,xs,ts⟩:=c
 cases e with
 | value x=>exact Xi8
 | invoke r m=>rfl
 | builtin b=>exact fBu_eq
def disp (op:Op):X1n:=match op with
 | .move x=>Xfn x
 | .assign x=>Xfn x
 | .pick c x y=>fPick c x y
 | .nilCheck x=>fNil x
 | .extract x i=>fExt x i
 | .unOp o t x=>fUn o t x
 | .binOp o t x y t'=>fBin o t x y t'
 | .fieldAddr t x f=>fFa t x f
 | .indexAddr t x y=>fIa t x y
 | .index t x y=>fIx t x y
 | .convert s d x=>fCv s d x
 | .load t x=>fLd t x
 | .store t x y=>fSt t x y
 | .alloc e=>fAl e
 | .call c=>fCall c
 | op=>sl op
theorem Xd2 (op:Op) (X:Cx) (cf:Xj) (E:Fe) (H:X3) (nx:Nat):disp op X cf E H nx=step X cf E.l H nx op:=by
 cases op with
 | move x=>exact Xfo
 | assign x=>exact Xbs
 | pick c x y=>exact Xam
 | nilCheck x=>exact Xdc
 | extract x i=>exact Xd7
 | unOp o t x=>exact Xgu
 | binOp o t x y t'=>exact Xd5
 | fieldAddr t x f=>exact Xgt
 | indexAddr t x y=>exact fIa_eq
 | index t x y=>exact fIx_eq
 | convert s d x=>exact fCv_eq
 | load t x=>exact fLd_eq
 | store t x y=>exact fSt_eq
 | alloc e=>exact fAl_eq
 | call c=>exact Xfm
 | _=>rfl
end
end
noncomputable section
abbrev X4g:=Option (Fe×X3×Nat)
abbrev Res3L:=Option (List AV×X3×Nat)
def unF (r:X4g):Res3L:=Option.rec (motive:=fun _=>Res3L) none (fun p=>some (p.1.l,p.2.1,p.2.2)) r
def putF (E:Fe) (α:AV) (d:Option Nat):Fe:=Option.rec (motive:=fun _=>Fe) E (fun t=>putT t α E) d
theorem X9r (E:Fe) (α:AV) (d:Option Nat):(putF E α d).l=putE E.l d α:=by
 cases d with
 | none=>rfl
 | some t=>exact Xe6 t α E
-- what is not read is not known
def x1:Q1:=⟨.u,.u,.u,.u⟩
def x2:Q2:=⟨x1,x1,x1,x1⟩
def x3:Q3:=⟨x2,x2,x2,x2⟩
def x4:Q4:=⟨x3,x3,x3,x3⟩
theorem x4_l:x4.l=List.replicate 256 .u:=by kernel_rfl
theorem Xel:∀ l:List AV,unk l=List.replicate l.length .u
 | []=>rfl
 | a::l=>by rw [unk,Xel l,Y3,Y2m]
def unkF (E:Fe):Fe:=Fe.rec (motive:=fun _=>Fe) (fun n _=>.q n x4) (fun L=>.r (unk L)) E
theorem Xjb (E:Fe):(unkF E).l=unk E.l:=by
 cases E with
 | r L=>rfl
 | q n e =>
  show x4.l.take n=unk (e.l.take n)
  rw [Xel,x4_l,List.take_replicate,Yi,Q4.len]
def msk1 (t:Nat) (E:Fe) (o:Option AV):Fe:=Option.rec (motive:=fun _=>Fe) E (fun x=>putT t x E) o
def Xh0 (E:Fe) (l:List Nat):Fe:=List.rec (motive:=fun _=>Fe) (unkF E) (fun t _ ih=>msk1 t ih (Xic t E)) l
theorem X9k (E:Fe):∀ l,(Xh0 E l).l=Xv E.l l
 | []=>Xjb E
 | t::l=>by
  show (msk1 t (Xh0 E l) (Xic t E)).l=_
  rw [X9d]
  simp only [Xv]
  cases nth E.l t with
  | none=>exact X9k E l
  | some x=>show (putT t x (Xh0 E l)).l=_; rw [Xe6,X9k E l]
-- operations that look at no memory
abbrev Xcb:=Cx→Fe→Option AV
def orP (op:Op) (X:Cx) (E:Fe) (r:Option AV):Option AV:=Option.rec (motive:=fun _=>Option AV) (opP X E.l op) some r
theorem Xb6 {op:Op} {X:Cx} {E:Fe} {r:Option AV} (h:∀ γ,r=some γ→opP X E.l op=some γ):orP op X E r=opP X E.l op:=by
 cases r with
 | none=>rfl
 | some γ=>exact (h γ rfl).symm
theorem Xgd {H:X3} {nx:Nat} {a b:Option AV} (h:X46 H nx a=X46 H nx b):a=b:=by
 cases a <;> cases b <;> first | rfl | cases h; rfl | cases h
def noP:Xcb:=fun _ _=>none
def pCall (c:Call):Xcb:=Call.rec (motive:=fun _=>Xcb) (fun e xs ts=>Callee.rec (motive:=fun _=>Array Operand→Array TypeId→Xcb) (fun _ _ _=>noP) (fun r m xs ts X E=>opP X E.l (.call ⟨.invoke r m,xs,ts⟩))
 (fun b xs ts X E=>orP (.call ⟨.builtin b,xs,ts⟩) X E (Xr (opB (hd1 xs.toList) fun x=>ntB (hd1 ts.toList) fun t=>X48 (avF x X E) (ln2 t X)) none (isLn b))) e xs ts) c
def dispP (op:Op):Xcb:=match op with
 | .move x=>avF x
 | .assign x=>avF x
 | .pick c x y=>fun X E=>X48 (avF c X E) (Xiu x y X E)
 | .nilCheck x=>fun X E=>X48 (avF x X E) nil2
 | .extract x i=>fun X E=>X48 (avF x X E) (ext2 i)
 | .unOp o t x=>fun X E=>X48 (avF x X E) (not2 o)
 | .binOp o t x y t'=>fun X E=>Xbl (avF x X E) (avF y X E) (binF o X t)
 | .fieldAddr t x f=>fun X E=>X48 (avF x X E) (fa2 t f X)
 | .indexAddr t x y=>fun X E=>orP (.indexAddr t x y) X E (Xbl (avF x X E) (avF y X E) (ia0 t X))
 | .index t x y=>fun X E=>orP (.index t x y) X E (Xbl (avF x X E) (avF y X E) (ix0 t X))
 | .convert s d x=>fun X E=>orP (.convert s d x) X E (X48 (avF x X E) (cv0 s d X))
 | .load _ _=>noP
 | .store _ _ _=>noP
 | .alloc _=>noP
 | .box _ _=>noP
 | .call c=>pCall c
 | op=>fun X E=>opP X E.l op
theorem Xfd (op:Op) (X:Cx) (E:Fe):dispP op X E=opP X E.l op:=by
 have inj:∀ {a b:Option AV},X46 [] 0 a=X46 [] 0 b→a=b:=fun h=>Xgd h
 let cf:Xj:=fun _ _ _ _=>none
 cases op with
 | move x=>exact Xz x X E
 | assign x=>exact Xz x X E
 | pick c x y=>exact inj ((Xam (cf:=cf)).trans (Xq rfl rfl rfl))
 | nilCheck x=>exact inj ((Xdc (cf:=cf)).trans (Xq rfl rfl rfl))
 | extract x i=>exact inj ((Xd7 (cf:=cf)).trans (Xq rfl rfl rfl))
 | unOp o t x=>exact inj ((Xgu (cf:=cf) (t:=t)).trans (Xq rfl rfl rfl))
 | binOp o t x y t'=>exact inj ((Xd5 (cf:=cf) (t':=t')).trans (Xq rfl rfl rfl))
 | fieldAddr t x f=>exact inj ((Xgt (cf:=cf)).trans (Xq rfl rfl rfl))
 | indexAddr t x y=>exact Xb6 fun γ h=>Xd8 h
 | index t x y=>exact Xb6 fun γ h=>Xd9 h
 | convert s d x=>exact Xb6 fun γ h=>Xd6 h
 | call c =>
  obtain ⟨e,xs,ts⟩:=c
  cases e with
  | value x=>rfl
  | invoke r m=>rfl
  | builtin b =>
   refine Xb6 fun γ h=>?_
   rw [X7] at h
   cases b with
   | len=>exact Xdb h
   | _=>cases h
 | _=>rfl
-- what is made,and what is read
def alF (op:Op) (X:Cx) (R:Fe) (id:Nat):Option (AV×Blk):=match op with
 | .alloc e=>tiB (trF X.ty e) fun ti=>some (.p id 0,.row e ti.size true ti.zero)
 | .box e x=>allocA X R.l id (.box e x)
 | .buildSlice t k ps=>allocA X R.l id (.buildSlice t k ps)
 | .makeSlice t x y=>allocA X R.l id (.makeSlice t x y)
 | _=>none
theorem alF_eq (op:Op) (X:Cx) (R:Fe) (id:Nat):alF op X R id=allocA X R.l id op:=by
 cases op with
 | alloc e =>
  show tiB (trF X.ty e) _=_
  rw [Xu]
  simp only [allocA,opM]
  cases X.ty.get e <;> rfl
 | _=>rfl
def orR (op:Op) (X:Cx) (R:Fe) (H:X3) (r:Option AV):Option AV:=Option.rec (motive:=fun _=>Option AV) (X3g X R.l H op) some r
def rdF (op:Op) (X:Cx) (R:Fe) (H:X3):Option AV:=match op with
 | .load t x=>orR (.load t x) X R H (X48 (avF x X R) (ld1 t X H))
 | .lookup t x y ok=>X3g X R.l H (.lookup t x y ok)
 | .slice t x lo hi mx=>X3g X R.l H (.slice t x lo hi mx)
 | _=>none
theorem Xe7 (op:Op) (X:Cx) (R:Fe) (H:X3):rdF op X R H=X3g X R.l H op:=by
 cases op with
 | load t x =>
  show orR _ X R H _=_
  cases h:X48 (avF x X R) (ld1 t X H) with
  | none=>rfl
  | some γ =>
   show some γ=_
   simp only [X3g,Xda h]
 | _=>rfl
structure RowF' where
 o:Oper
 R:Fe
 lo:Nat
 hi:Nat
 k:Kd
def RowF'.un (r:RowF'):Row:=⟨r.o,r.R.l,r.lo,r.hi,r.k⟩
structure PSF where
 E:Fe
 H:X3
 nx:Nat
 fl:List Ent
 rows:List RowF'
def PSF.un (p:PSF):PS:=⟨p.E.l,p.H,p.nx,p.fl,p.rows.map RowF'.un⟩
def pu (o:Oper) (R:Fe) (p:PSF) (hi:Nat) (k:Kd) (α:AV) (H:X3) (fl:List Ent):PSF:=⟨putF p.E α o.dst,H,hi,fl,appF p.rows [⟨o,R,p.nx,hi,k⟩]⟩
theorem Xe4 (o:Oper) (R:Fe) (p:PSF) (hi:Nat) (k:Kd) (H:X3) (fl:List Ent):(pu o R p hi k k.val H fl).un=p.un.push o R.l hi k H fl:=by
 unfold pu PSF.un PS.push
 rw [X9r,X72,Y18]
 rfl
abbrev PR:=Option PSF
def po4 (o:Oper) (R:Fe) (p:PSF) (fl:List Ent) (r:Res):PR:=Option.rec (motive:=fun _=>PR) none (fun q=>some (pu o R p q.2.2 (.w q.1 q.2.1) q.1 q.2.1 fl)) r
def po3 (X:Cx) (cf:Xj) (ms:List Nat) (i:Nat) (o:Oper) (R:Fe) (p:PSF) (r:Option AV):PR:=Option.rec (motive:=fun _=>PR)
 (po4 o R p (p.fl.filter fun e=>!bit ms i e.1) (disp o.op X cf R (List.map (fun e:Ent=>e.2) (p.fl.filter fun e=>bit ms i e.1) ++ p.H) p.nx)) (fun α=>some (pu o R p (Nat.succ p.nx) (.r α) α p.H p.fl)) r
def po2 (X:Cx) (cf:Xj) (ms:List Nat) (i:Nat) (o:Oper) (R:Fe) (p:PSF) (r:Option (AV×Blk)):PR:=Option.rec (motive:=fun _=>PR)
 (po3 X cf ms i o R p (rdF o.op X R p.H)) (fun q=>some (pu o R p (Nat.succ p.nx) (.a q.1 q.2) q.1 p.H (p.fl ++ [(i,p.nx,q.2)]))) r
def po1 (X:Cx) (cf:Xj) (ms:List Nat) (i:Nat) (o:Oper) (R:Fe) (p:PSF) (r:Option AV):PR:=Option.rec (motive:=fun _=>PR)
 (po2 X cf ms i o R p (alF o.op X R p.nx)) (fun α=>some (pu o R p p.nx (.q α) α p.H p.fl)) r
def po0 (X:Cx) (cf:Xj) (ms:List Nat) (i:Nat) (o:Oper) (R:Fe) (p:PSF) (m:Option Bool):PR:=Option.rec (motive:=fun _=>PR) none
 (fun b=>Xr (po1 X cf ms i o R p (dispP o.op X R)) (some (pu o R p p.nx (.q (.v undef)) (.v undef) p.H p.fl)) b) m
def metF (ops:List Oper) (E:Fe) (g:Option (Nat×Bool)):Option Bool:=Option.rec (motive:=fun _=>Option Bool) (some true) (fun p=>met ops E.l (some p)) g
theorem Xim (ops:List Oper) (E:Fe) (g:Option (Nat×Bool)):metF ops E g=met ops E.l g:=by cases g <;> rfl
def X4n (X:Cx) (cf:Xj) (ops:List Oper) (ms:List Nat) (i:Nat) (o:Oper) (R:Fe) (p:PSF):PR:=po0 X cf ms i o R p (metF ops R o.guard)
theorem X9n (X:Cx) (cf:Xj) (ops:List Oper) (ms:List Nat) (i:Nat) (o:Oper) (p:PSF):(X4n X cf ops ms i o (Xh0 p.E (Xf o ops)) p).map PSF.un=X3e X cf ops ms i o p.un:=by
 have hR:=X9k p.E (Xf o ops)
 generalize Xh0 p.E (Xf o ops)=R at hR
 unfold X3e
 show Option.map PSF.un (po0 X cf ms i o R p (metF ops R o.guard))=_
 show _=(match met ops (Xv p.E.l (Xf o ops)) o.guard with
  | none=>none
  | some false=>some (p.un.push o (Xv p.E.l (Xf o ops)) p.nx (.q (.v undef)) p.H p.fl)
  | some true=>match opP X (Xv p.E.l (Xf o ops)) o.op with
   | some α=>some (p.un.push o (Xv p.E.l (Xf o ops)) p.nx (.q α) p.H p.fl)
   | none=>match allocA X (Xv p.E.l (Xf o ops)) p.nx o.op with
    | some (α,b)=>some (p.un.push o (Xv p.E.l (Xf o ops)) (Nat.succ p.nx) (.a α b) p.H (p.fl ++ [(i,p.nx,b)]))
    | none=>match X3g X (Xv p.E.l (Xf o ops)) p.H o.op with
     | some α=>some (p.un.push o (Xv p.E.l (Xf o ops)) (Nat.succ p.nx) (.r α) p.H p.fl)
     | none=>match step X cf (Xv p.E.l (Xf o ops)) (List.map (fun e:Ent=>e.2) (List.filter (fun e:Ent=>bit ms i e.1) p.fl) ++ p.H) p.nx o.op with
      | some (α,H',nx')=>some (p.un.push o (Xv p.E.l (Xf o ops)) nx' (.w α H') H' (List.filter (fun e:Ent=>!bit ms i e.1) p.fl))
      | none=>none)
 rw [← hR,Xim]
 cases met ops R.l o.guard with
 | none=>rfl
 | some b =>
  show Option.map PSF.un (Xr _ _ b)=_
  rw [X7]
  cases b with
  | false=>show some _=some _; rw [← Xe4]; rfl
  | true =>
   rw [cond_true,Xfd]
   simp only
   cases opP X R.l o.op with
   | some α=>show some _=some _; rw [← Xe4]; rfl
   | none =>
    show Option.map PSF.un (po2 X cf ms i o R p (alF o.op X R p.nx))=_
    rw [alF_eq]
    simp only
    cases allocA X R.l p.nx o.op with
    | some q=>obtain ⟨α,b⟩:=q; show some _=some _; rw [← Xe4]; rfl
    | none =>
     show Option.map PSF.un (po3 X cf ms i o R p (rdF o.op X R p.H))=_
     rw [Xe7]
     simp only
     cases X3g X R.l p.H o.op with
     | some α=>show some _=some _; rw [← Xe4]; rfl
     | none =>
      show Option.map PSF.un (po4 o R p _ (disp o.op X cf R _ p.nx))=_
      rw [Xd2]
      simp only
      cases step X cf R.l (List.map (fun e:Ent=>e.2) (List.filter (fun e:Ent=>bit ms i e.1) p.fl) ++ p.H) p.nx o.op with
      | none=>rfl
      | some q=>obtain ⟨α,H',nx'⟩:=q; show some _=some _; rw [← Xe4]; rfl
def psB (ih:Nat→PSF→PR) (i:Nat) (r:PR):PR:=Option.rec (motive:=fun _=>PR) none (fun p=>ih i p) r
def Xg7 (X:Cx) (cf:Xj) (ops:List Oper) (ms:List Nat) (l:List Oper):Nat→PSF→PR:=List.rec (motive:=fun _=>Nat→PSF→PR) (fun _ p=>some p)
 (fun o _ ih i p=>psB ih (Nat.succ i) (X4n X cf ops ms i o (Xh0 p.E (Xf o ops)) p)) l
theorem Xb8 (X:Cx) (cf:Xj) (ops:List Oper) (ms:List Nat):∀ (l:List Oper) (i:Nat) (p:PSF),(Xg7 X cf ops ms l i p).map PSF.un=pass X cf ops ms i l p.un
 | [],i,p=>rfl
 | o::l,i,p=>by
  show Option.map PSF.un (psB (Xg7 X cf ops ms l) (Nat.succ i) (X4n X cf ops ms i o (Xh0 p.E (Xf o ops)) p))=_
  unfold pass
  rw [← X9n]
  cases X4n X cf ops ms i o (Xh0 p.E (Xf o ops)) p with
  | none=>rfl
  | some p'=>exact Xb8 X cf ops ms l _ p'
end
noncomputable section
def allF {α:Type} (p:Nat→α→Bool) (l:List α):Nat→Bool:=List.rec (motive:=fun _=>Nat→Bool) (fun _=>true) (fun a _ ih i=>Xr (ih (Nat.succ i)) false (p i a)) l
theorem X70 {α:Type} (p:Nat→α→Bool):∀ (l:List α) (i:Nat),allF p l i=X1y p i l
 | [],i=>rfl
 | a::l,i=>by
  show Xr (allF p l (Nat.succ i)) false (p i a)=_
  rw [X7,X70 p l]; rfl
theorem X3j {α β:Type} (p:Nat→β→Bool) (f:α→β):∀ (l:List α) (i:Nat),X1y p i (l.map f)=X1y (fun i a=>p i (f a)) i l
 | [],i=>rfl
 | a::l,i=>by
  rw [Yl]
  simp only [X1y]
  rw [X3j p f l]
theorem X7w {α:Type} (p q:Nat→α→Bool):∀ (l:List α) (i:Nat),X1y (fun i a=>p i a && q i a) i l=(X1y p i l && X1y q i l)
 | [],i=>rfl
 | a::l,i=>by
  simp only [X1y]
  rw [X7w p q l]
  cases p i a <;> cases q i a <;> simp
def chkS (ops:List Oper) (ms:List Nat) (i:Nat) (r:Oper×Bool) (k:Nat) (s:Oper×Bool):Bool :=
 bif Nat.beq k i then true else
  (match s.1.dst with
   | some t=>(match r.1.dst with
     | some u=>!(Nat.beq t u)
     | none=>true) && (bif memN t (Xf r.1 ops) then bit ms i k || bit ms k i else true)
   | none=>true) && (bif r.2 && s.2 && Nat.blt k i then bit ms i k else true)
def zipF (l:List Oper):List Bool→List (Oper×Bool):=List.rec (motive:=fun _=>List Bool→List (Oper×Bool)) (fun _=>[]) (fun o _ ih ws=>List.rec (motive:=fun _=>List (Oper×Bool)) [] (fun b t _=>(o,b)::ih t) ws) l
def statS (ops:List Oper) (ms:List Nat) (sk:List (Oper×Bool)):Bool:=allF (fun i s=>X51 i s.1.after.toList && allF (chkS ops ms i s) sk 0) sk 0
def Xc0 (ops:List Oper) (ws:List Bool):Bool:=statS ops (Xc ops []) (zipF ops ws)
theorem Xep:∀ (rows:List Row),zipF (rows.map (·.o)) (rows.map isW)=rows.map fun r=>(r.o,isW r)
 | []=>rfl
 | r::l=>congrArg ((r.o,isW r)::·) (Xep l)
theorem chk_eq (X:Cx) (ops:List Oper) (H0:X3) (rows:List Row) (h:rows.map (·.o)=ops) :
  X1y (X49 X ops (Xc ops []) H0 rows) 0 rows=(Xc0 ops (rows.map isW) && X1y (fun i r=>match r.k with
   | .r α=>wkR X (Xc ops []) i r.R r.o.op α 0 H0 rows
   | _=>true) 0 rows):=by
 have e1:Xc0 ops (rows.map isW)=X1y (fun i r=>X51 i r.o.after.toList && X1y (chk2 ops (Xc ops []) i r) 0 rows) 0 rows:=by
  unfold Xc0 statS
  have hz:=Xep rows
  rw [h] at hz
  rw [hz,X70,X3j]
  congr 1
  funext i r
  rw [X70,X3j]
  rfl
 rw [e1,← X7w]
 rfl
theorem Xbw {X:Cx} {cf:Xj} {ops:List Oper} {ms:List Nat} {i:Nat} {o:Oper} {p p':PS} (h:X3e X cf ops ms i o p=some p'):p'.rows.map (·.o)=p.rows.map (·.o) ++ [o]:=by
 unfold X3e at h
 split at h
 ·cases h
 ·cases h; simp [PS.push]
 ·split at h
  ·cases h; simp [PS.push]
  ·split at h
   ·cases h; simp [PS.push]
   ·split at h
    ·cases h; simp [PS.push]
    ·split at h
     ·cases h; simp [PS.push]
     ·cases h
theorem Xdz {X:Cx} {cf:Xj} {ops:List Oper} {ms:List Nat}:∀ {l:List Oper} {i:Nat} {p p':PS},pass X cf ops ms i l p=some p'→p'.rows.map (·.o)=p.rows.map (·.o) ++ l
 | [],i,p,p',h=>by cases h; simp
 | o::l,i,p,p',h=>by
  unfold pass at h
  split at h
  ·rename_i p1 h1
   rw [Xdz h,Xbw h1]; simp
  ·cases h
-- likeness
def intQ (a b:Int):Bool:=Int.rec (motive:=fun _=>Bool) (fun i=>Int.rec (motive:=fun _=>Bool) (fun j=>Nat.beq i j) (fun _=>false) b) (fun i=>Int.rec (motive:=fun _=>Bool) (fun _=>false) (fun j=>Nat.beq i j) b) a
theorem Xig (a b:Int):intQ a b=(a == b):=by
 cases a with
 | ofNat i=>cases b with
  | ofNat j=>exact nbeq i j
  | negSucc j=>rfl
 | negSucc i=>cases b with
  | ofNat j=>rfl
  | negSucc j =>
   show Nat.beq i j=_
   rw [Y28,beq_iff_eq]
   exact ⟨fun h=>by rw [Y4 h],fun h=>by cases h; exact Y2d _⟩
theorem kn_eq (k j:IntKind):Nat.beq (kn k) (kn j)=(k == j):=by cases k <;> cases j <;> rfl
def valQ2 (k:IntKind) (a:Int) (y:Value):Bool:=match y with
 | .int j b=>Xr (intQ a b) false (Nat.beq (kn k) (kn j))
 | y=>Xc3 (.int k a) y
def valQ (x y:Value):Bool:=match x with
 | .int k a=>valQ2 k a y
 | x=>Xc3 x y
theorem Xjc (x y:Value):valQ x y=Xc3 x y:=by
 cases x with
 | int k a=>cases y with
  | int j b =>
   show Xr (intQ a b) false (Nat.beq (kn k) (kn j))=(k == j && a == b)
   rw [X7,Xig,kn_eq]
   cases k == j <;> rfl
  | _=>rfl
 | _=>rfl
def stQ (l:List Nat):List Nat→Bool:=List.rec (motive:=fun _=>List Nat→Bool) (fun m=>List.rec (motive:=fun _=>Bool) true (fun _ _ _=>false) m) (fun a _ ih m=>List.rec (motive:=fun _=>Bool) false (fun b t _=>Xr (ih t) false (Nat.beq a b)) m) l
theorem Xhb:∀ l m:List Nat,stQ l m=X5q l m
 | [],[]=>rfl
 | [],b::m=>rfl
 | a::l,[]=>rfl
 | a::l,b::m=>by
  show Xr (stQ l m) false (Nat.beq a b)=_
  rw [X7,Xhb l m]; rfl
def avQv (x:Value) (α:AV):Bool:=match α with
 | .v y=>valQ x y
 | α=>X4j (.v x) α
def avQp (a b:Nat) (α:AV):Bool:=match α with
 | .p c d=>Xr (Nat.beq b d) false (Nat.beq a c)
 | α=>X4j (.p a b) α
def avQt (l:List Nat) (α:AV):Bool:=match α with
 | .st m=>stQ l m
 | α=>X4j (.st l) α
def avQs (a b c d:Nat) (α:AV):Bool:=match α with
 | .s a' b' c' d'=>Xr (Xr (Xr (Nat.beq d d') false (Nat.beq c c')) false (Nat.beq b b')) false (Nat.beq a a')
 | α=>X4j (.s a b c d) α
def avQ (β α:AV):Bool:=match β with
 | .v x=>avQv x α
 | .p a b=>avQp a b α
 | .st l=>avQt l α
 | .s a b c d=>avQs a b c d α
 | β=>X4j β α
theorem avQ_eq (β α:AV):avQ β α=X4j β α:=by
 cases β with
 | v x=>cases α with
  | v y=>show valQ x y=_; rw [Xjc]; simp only [X4j]
  | _=>rfl
 | p a b=>cases α with
  | p c d=>show Xr _ _ _=_; rw [X7]; simp only [X4j]; cases Nat.beq a c <;> rfl
  | _=>rfl
 | st l=>cases α with
  | st m=>show stQ l m=_; rw [Xhb]; simp only [X4j]
  | _=>rfl
 | s a b c d=>cases α with
  | s a' b' c' d'=>show Xr _ _ _=_; rw [X7,X7,X7]; simp only [X4j]; cases Nat.beq a a' <;> cases Nat.beq b b' <;> cases Nat.beq c c' <;> rfl
  | _=>rfl
 | _=>rfl
def eqF (o:Option AV) (α:AV):Bool:=Option.rec (motive:=fun _=>Bool) false (fun β=>avQ β α) o
theorem Xgr (o:Option AV) (α:AV):eqF o α=eqO o α:=by
 cases o with
 | none=>rfl
 | some β=>exact avQ_eq β α
def wkF (X:Cx) (ms:List Nat) (i:Nat) (R:Fe) (op:Op) (α:AV) (l:List RowF'):Nat→X3→Bool:=List.rec (motive:=fun _=>Nat→X3→Bool) (fun _ H=>eqF (rdF op X R H) α)
 (fun r _ ih j H=>Kd.rec (motive:=fun _=>Bool) (fun _=>ih (Nat.succ j) H) (fun _=>ih (Nat.succ j) H) (fun _ _=>ih (Nat.succ j) H)
  (fun _ H1=>Xr (ih (Nat.succ j) H1) (Xr (Xr true (ih (Nat.succ j) H1) (bit ms j i)) false (eqF (rdF op X R H) α)) (bit ms i j)) r.k) l
theorem X91 (X:Cx) (ms:List Nat) (i:Nat) (R:Fe) (op:Op) (α:AV):∀ (l:List RowF') (j:Nat) (H:X3),wkF X ms i R op α l j H=wkR X ms i R.l op α j H (l.map RowF'.un)
 | [],j,H=>by
  show eqF (rdF op X R H) α=_
  rw [Xe7,Xgr]; rfl
 | r::l,j,H=>by
  obtain ⟨o,R',lo,hi,k⟩:=r
  rw [Yl]
  cases k with
  | w β H1 =>
   show Xr (wkF X ms i R op α l (Nat.succ j) H1) (Xr (Xr true (wkF X ms i R op α l (Nat.succ j) H1) (bit ms j i)) false (eqF (rdF op X R H) α)) (bit ms i j)=_
   rw [X91 X ms i R op α l,Xe7,Xgr,X7,X7,X7]
   simp only [wkR,RowF'.un]
  | q β=>show wkF X ms i R op α l (Nat.succ j) H=_; rw [X91 X ms i R op α l]; simp only [wkR,RowF'.un]
  | r β=>show wkF X ms i R op α l (Nat.succ j) H=_; rw [X91 X ms i R op α l]; simp only [wkR,RowF'.un]
  | a β b=>show wkF X ms i R op α l (Nat.succ j) H=_; rw [X91 X ms i R op α l]; simp only [wkR,RowF'.un]
def dyn1 (X:Cx) (ms:List Nat) (H0:X3) (rows:List RowF') (i:Nat) (r:RowF'):Bool:=Kd.rec (motive:=fun _=>Bool) (fun _=>true) (fun α=>wkF X ms i r.R r.o.op α rows 0 H0) (fun _ _=>true) (fun _ _=>true) r.k
def dynF (X:Cx) (ms:List Nat) (H0:X3) (rows:List RowF'):Bool:=allF (dyn1 X ms H0 rows) rows 0
theorem Xi4 (X:Cx) (ms:List Nat) (H0:X3) (rows:List RowF'):dynF X ms H0 rows=X1y (fun i (r:Row)=>match r.k with
  | .r α=>wkR X ms i r.R r.o.op α 0 H0 (rows.map RowF'.un)
  | _=>true) 0 (rows.map RowF'.un):=by
 unfold dynF
 rw [X70,X3j]
 congr 1
 funext i r
 obtain ⟨o,R,lo,hi,k⟩:=r
 cases k with
 | r α=>exact X91 X ms i R o.op α rows 0 H0
 | _=>rfl
def isWF (r:RowF'):Bool:=Kd.rec (motive:=fun _=>Bool) (fun _=>false) (fun _=>false) (fun _ _=>false) (fun _ _=>true) r.k
def frcW (rows:List RowF'):(List Bool→X4g)→X4g:=List.rec (motive:=fun _=>(List Bool→X4g)→X4g) (fun k=>k []) (fun r _ ih k=>ih (fun l=>Xr (k (true::l)) (k (false::l)) (isWF r))) rows
theorem Xdg:∀ (rows:List RowF') (k:List Bool→X4g),frcW rows k=k ((rows.map RowF'.un).map isW)
 | [],k=>rfl
 | r::l,k=>by
  show frcW l (fun l=>Xr (k (true::l)) (k (false::l)) (isWF r))=_
  rw [Xdg l,X7]
  obtain ⟨o,R,lo,hi,kd⟩:=r
  cases kd <;> rfl
def dr1 (X:Cx) (ops:List Oper) (H0:X3) (p:PSF) (ws:List Bool):X4g:=Xr (Xr (some (p.E,List.map (fun e:Ent=>e.2) p.fl ++ p.H,p.nx)) none (dynF X (Xc ops []) H0 p.rows)) none (Xc0 ops ws)
def Xff (X:Cx) (cf:Xj) (ops:List Oper) (E:Fe) (H:X3) (nx:Nat):X4g:=Option.rec (motive:=fun _=>X4g) none (fun p=>frcW p.rows (dr1 X ops H p)) (Xg7 X cf ops (Xc ops []) ops 0 ⟨E,H,nx,[],[]⟩)
theorem Xfg (X:Cx) (cf:Xj) (ops:List Oper) (E:Fe) (H:X3) (nx:Nat):unF (Xff X cf ops E H nx)=Xbq X cf ops E.l H nx:=by
 have e:=Xb8 X cf ops (Xc ops []) ops 0 ⟨E,H,nx,[],[]⟩
 unfold Xbq
 rw [show PSF.un ⟨E,H,nx,[],[]⟩=⟨E.l,H,nx,[],[]⟩ from rfl] at e
 rw [← e]
 unfold Xff
 cases hp:Xg7 X cf ops (Xc ops []) ops 0 ⟨E,H,nx,[],[]⟩ with
 | none=>rfl
 | some p =>
  rw [hp] at e
  have ho:=Xdz e.symm
  rw [Y3a,Y1e] at ho
  show unF (frcW p.rows (dr1 X ops H p))=(bif X1y (X49 X ops (Xc ops []) H p.un.rows) 0 p.un.rows then some (p.un.E,p.un.fl.map (·.2) ++ p.un.H,p.un.nx) else none)
  rw [Xdg,chk_eq X ops H p.un.rows ho]
  unfold dr1
  rw [X7,X7,Xi4]
  show unF (bif Xc0 ops (p.un.rows.map isW) then _ else none)=_
  cases Xc0 ops (p.un.rows.map isW) with
  | false=>rfl
  | true =>
   rw [Y3w,cond_true]
   have hb:∀ b:Bool,unF (bif b then some (p.E,List.map (fun e:Ent=>e.2) p.fl ++ p.H,p.nx) else none)=(bif b then some (p.un.E,p.un.fl.map (·.2) ++ p.un.H,p.un.nx) else none):=fun b=>by cases b <;> rfl
   exact hb _
end
noncomputable section
def putK (E:Fe) (α:AV) (k:Fe→X0) (d:Option Nat):X0:=Option.rec (motive:=fun _=>X0) (k E) (putK1 α k E) d
theorem Xe5 (E:Fe) (α:AV) (k:Fe→X0) (d:Option Nat):putK E α k d=k (putF E α d):=by
 cases d with
 | none=>rfl
 | some t=>exact Xga α k E t
def rn4 (d:Option Nat) (E:Fe) (ih:Fe→X3→Nat→X4g) (α:AV) (H:X3) (nx:Nat):X4g:=putK E α (fun E'=>ih E' H nx) d
def rn3 (d:Option Nat) (E:Fe) (ih:Fe→X3→Nat→X4g) (α:AV) (q:X3×Nat):X4g:=Prod.rec (motive:=fun _=>X4g) (rn4 d E ih α) q
def rn2 (d:Option Nat) (E:Fe) (ih:Fe→X3→Nat→X4g) (r:Res):X4g:=Option.rec (motive:=fun _=>X4g) none (fun p=>Prod.rec (motive:=fun _=>X4g) (rn3 d E ih) p) r
def rn1 (o:Oper) (X:Cx) (cf:Xj) (E:Fe) (H:X3) (nx:Nat) (ih:Fe→X3→Nat→X4g) (m:Option Bool):X4g :=
 Option.rec (motive:=fun _=>X4g) none (fun b=>Xr (rn2 o.dst E ih (disp o.op X cf E H nx)) (putK E (.v undef) (fun E'=>ih E' H nx) o.dst) b) m
def runF (X:Cx) (cf:Xj) (ops l:List Oper):Fe→X3→Nat→X4g:=List.rec (motive:=fun _=>Fe→X3→Nat→X4g) (fun E H nx=>some (E,H,nx)) (fun o _ ih E H nx=>rn1 o X cf E H nx ih (metF ops E o.guard)) l
theorem X9u (X:Cx) (cf:Xj) (ops:List Oper):∀ (l:List Oper) (E:Fe) (H:X3) (nx:Nat),unF (runF X cf ops l E H nx)=Xh8 X cf ops l E.l H nx
 | [],E,H,nx=>rfl
 | o::l,E,H,nx=>by
  show unF (rn1 o X cf E H nx (runF X cf ops l) (metF ops E o.guard))=_
  have hm:metF ops E o.guard=met ops E.l o.guard:=by cases o.guard <;> rfl
  rw [hm]
  unfold Xh8
  cases met ops E.l o.guard with
  | none=>rfl
  | some b =>
   show unF (Xr _ _ b)=_
   rw [X7]
   cases b with
   | false=>rw [cond_false,Xe5,X9u X cf ops l,X9r]
   | true =>
    rw [cond_true,Xd2]
    simp only
    cases step X cf E.l H nx o.op with
    | none=>rfl
    | some p =>
     obtain ⟨α,H',nx'⟩:=p
     show unF (putK E α (fun E'=>runF X cf ops l E' H' nx') o.dst)=_
     rw [Xe5,X9u X cf ops l,X9r]
abbrev X3i:=Option (Xt×Fe×X3×Nat)
def unO (r:X3i):Out:=Option.rec (motive:=fun _=>Out) none (fun p=>some (p.1,p.2.1.l,p.2.2.1,p.2.2.2)) r
def toX (r:X4g):X3i:=Option.rec (motive:=fun _=>X3i) none (fun p=>some (.n,p.1,p.2.1,p.2.2)) r
abbrev ExF:=Cx→Xj→Fe→X3→Nat→X3i
def xN:ExF:=fun _ _ E H nx=>some (.n,E,H,nx)
def xR:ExF:=fun _ _ E H nx=>some (.r,E,H,nx)
def xE (id:Nat):ExF:=fun _ _ E H nx=>some (.e id,E,H,nx)
def Xjd:ExF:=fun _ _ _ _ _=>none
def xReg (draw:Bool) (ops:Array Oper):ExF:=fun X cf E H nx=>toX (Xr (Xff X cf ops.toList E H nx) (runF X cf ops.toList ops.toList E H nx) draw)
def sq3 (k:Fe→X3→Nat→X3i) (p:Fe×X3×Nat) (x:Xt):X3i:=Xt.rec (motive:=fun _=>X3i) (k p.1 p.2.1 p.2.2) (fun id=>some (.e id,p)) (some (.r,p)) x
def sq2 (k:Fe→X3→Nat→X3i) (r:X3i):X3i:=Option.rec (motive:=fun _=>X3i) none (fun p=>sq3 k p.2 p.1) r
def xSeq (a b:ExF):ExF:=fun X cf E H nx=>sq2 (b X cf) (a X cf E H nx)
def cd3 (a b:X3i) (v:Value):X3i:=match v with
 | .bool c=>Xr a b c
 | _=>none
def cd2 (a b:X3i) (α:AV):X3i:=match α with
 | .v w=>cd3 a b w
 | _=>none
def xCond (c:Operand) (a b:ExF):ExF:=fun X cf E H nx=>Option.rec (motive:=fun _=>X3i) none (cd2 (a X cf E H nx) (b X cf E H nx)) (avF c X E)
def bl3 (id:Nat) (p:Fe×X3×Nat) (x:Xt):X3i:=Xt.rec (motive:=fun _=>X3i) (some (.n,p)) (fun i=>some (Xr .n (.e i) (Nat.beq i id),p)) (some (.r,p)) x
def bl2 (id:Nat) (r:X3i):X3i:=Option.rec (motive:=fun _=>X3i) none (fun p=>bl3 id p.2 p.1) r
def xBlock (id:Nat) (a:ExF):ExF:=fun X cf E H nx=>bl2 id (a X cf E H nx)
def itF (f:Fe→X3→Nat→X3i) (k:Nat):Fe→X3→Nat→X3i:=Nat.rec (motive:=fun _=>Fe→X3→Nat→X3i) (fun _ _ _=>none) (fun _ ih E H nx=>sq2 ih (f E H nx)) k
def xLoop (a:ExF):ExF:=fun X cf E H nx=>itF (a X cf) 100000 E H nx
def X6a (c:Code):ExF:=Code.rec (motive:=fun _=>ExF) xN (fun _ ops draw=>xReg draw ops) (fun _ _ a b=>xSeq a b) (fun c _ _ a b=>xCond c a b) (fun id _ a=>xBlock id a) (fun _ a=>xLoop a) (fun _ _ _ _ _ _=>Xjd) xE (fun _ a=>a) (fun _=>xN) (fun _=>Xjd) xR (fun _=>Xjd) c
def thn (s:Out) (g:List AV→X3→Nat→Out):Out:=match s with
 | some (.n,E',H',nx')=>g E' H' nx'
 | q=>q
theorem sq_eq {k:Fe→X3→Nat→X3i} {g:List AV→X3→Nat→Out} (h:∀ E H nx,unO (k E H nx)=g E.l H nx) {r:X3i} {s:Out} (e:unO r=s):unO (sq2 k r)=thn s g:=by
 subst e
 cases r with
 | none=>rfl
 | some p =>
  obtain ⟨x,E',H',nx'⟩:=p
  cases x with
  | n=>exact h _ _ _
  | e id=>rfl
  | r=>rfl
theorem Xgy {f:Fe→X3→Nat→X3i} {g:List AV→X3→Nat→Out} (h:∀ E H nx,unO (f E H nx)=g E.l H nx):∀ (k:Nat) (E:Fe) (H:X3) (nx:Nat),unO (itF f k E H nx)=X8h g k E.l H nx
 | 0,E,H,nx=>rfl
 | k+1,E,H,nx=>by
  show unO (sq2 (itF f k) (f E H nx))=_
  rw [sq_eq (g:=X8h g k) (Xgy h k) (h E H nx)]
  conv=>rhs; unfold X8h
  generalize X8h g k=it
  cases g E.l H nx with
  | none=>rfl
  | some p=>obtain ⟨x,E',H',nx'⟩:=p; cases x <;> rfl
theorem X1r (X:Cx) (cf:Xj):∀ (c:Code) (E:Fe) (H:X3) (nx:Nat),unO (X6a c X cf E H nx)=exec X cf c E.l H nx
 | .skip,E,H,nx=>rfl
 | .label _,E,H,nx=>rfl
 | .ret,E,H,nx=>rfl
 | .exit _,E,H,nx=>rfl
 | .region _ ops draw,E,H,nx=>by
  show unO (toX (Xr (Xff X cf ops.toList E H nx) (runF X cf ops.toList ops.toList E H nx) draw))=regE X cf draw ops.toList E.l H nx
  have hx:∀ r:X4g,unO (toX r)=(match unF r with | some (E',H',nx')=>some (.n,E',H',nx') | none=>none):=fun r=>by cases r <;> rfl
  rw [hx,X7]
  unfold regE
  cases draw with
  | true=>simp only [cond_true,Xfg]; cases Xbq X cf ops.toList E.l H nx <;> rfl
  | false=>simp only [cond_false,X9u]; cases Xh8 X cf ops.toList ops.toList E.l H nx <;> rfl
 | .seq a b,E,H,nx=>by
  show unO (sq2 (X6a b X cf) (X6a a X cf E H nx))=_
  rw [sq_eq (g:=exec X cf b) (X1r X cf b) (X1r X cf a E H nx)]
  simp only [exec]
  generalize exec X cf b=it
  cases exec X cf a E.l H nx with
  | none=>rfl
  | some p=>obtain ⟨x,E',H',nx'⟩:=p; cases x <;> rfl
 | .cond c a b,E,H,nx=>by
  show unO (Option.rec (motive:=fun _=>X3i) none (cd2 (X6a a X cf E H nx) (X6a b X cf E H nx)) (avF c X E))=_
  rw [Xz]
  simp only [exec]
  cases av X E.l c with
  | none=>rfl
  | some α=>cases α with
   | v w=>cases w with
    | bool d=>cases d with
     | true=>exact X1r X cf a E H nx
     | false=>exact X1r X cf b E H nx
    | _=>rfl
   | _=>rfl
 | .block id c,E,H,nx=>by
  show unO (bl2 id (X6a c X cf E H nx))=_
  simp only [exec]
  rw [← X1r X cf c]
  cases X6a c X cf E H nx with
  | none=>rfl
  | some p =>
   obtain ⟨x,E',H',nx'⟩:=p
   cases x with
   | n=>rfl
   | e i=>show some (Xr Xt.n (Xt.e i) (Nat.beq i id),E'.l,H',nx')=(bif Nat.beq i id then some (.n,E'.l,H',nx') else some (.e i,E'.l,H',nx')); rw [X7]; cases Nat.beq i id <;> rfl
   | r=>rfl
 | .loop c,E,H,nx=>Xgy (X1r X cf c) 100000 E H nx
 | .scope c,E,H,nx=>X1r X cf c E H nx
 | .rangeFunc _ _ _ _,E,H,nx=>rfl
 | .goto _,E,H,nx=>rfl
 | .refuse _,E,H,nx=>rfl
def isE (x:Xt):Bool:=Xt.rec (motive:=fun _=>Bool) false (fun _=>true) false x
def cf5 (H:X3) (nx:Nat) (o:Option (List AV)):Res:=Option.rec (motive:=fun _=>Res) none (fun αs=>frA (fun α=>some (α,H,nx)) (Xgc αs)) o
theorem Xgq (H:X3) (nx:Nat) (o:Option (List AV)):cf5 H nx o=(match o with | some αs=>some (Xgc αs,H,nx) | none=>none):=by
 cases o with
 | none=>rfl
 | some αs=>show frA (fun α=>some (α,H,nx)) (Xgc αs)=_; rw [Xgv]
def rs1 (X:Cx) (E:Fe) (H:X3) (r:ResultVar):Option AV:=ResultVar.rec (motive:=fun _=>Option AV) (fun t=>avU (Xic t E)) (fun t ty=>X4e X E.l H (.cell t ty)) r
def rsF (X:Cx) (E:Fe) (H:X3) (l:List ResultVar):Option (List AV):=List.rec (motive:=fun _=>Option (List AV)) (some []) (fun r _ ih=>avsC (rs1 X E H r) none ih) l
theorem rs1_eq (X:Cx) (E:Fe) (H:X3) (r:ResultVar):rs1 X E H r=X4e X E.l H r:=by
 cases r with
 | cell t ty=>rfl
 | tmp t =>
  show avU (Xic t E)=_
  rw [X9d]
  simp only [X4e]
  cases nth E.l t with
  | none=>rfl
  | some α=>cases α <;> rfl
theorem Xeb (X:Cx) (E:Fe) (H:X3):∀ l:List ResultVar,rsF X E H l=X2k X E.l H l
 | []=>rfl
 | r::l=>by
  show avsC (rs1 X E H r) none (rsF X E H l)=_
  rw [rs1_eq,Xeb X E H l]
  simp only [X2k]
  cases X4e X E.l H r <;> cases X2k X E.l H l <;> rfl
def cf4 (X:Cx) (F:Func) (r:X3i):Res:=Option.rec (motive:=fun _=>Res) none (fun p=>Xr none (cf5 p.2.2.1 p.2.2.2 (rsF X p.2.1 p.2.2.1 F.results.toList)) (isE p.1)) r
def cf3 (X:Cx) (cf:Xj) (F:Func) (args:List AV) (H:X3) (nx:Nat) (c:Code):Res:=Xr (Xr (cf4 X F (X6a c X cf (X8l args F.ntmps) H nx)) none (Nat.ble F.ntmps DK)) none (Nat.ble (lenF args) F.ntmps)
def cf2 (X:Cx) (cf:Xj) (args:List AV) (H:X3) (nx:Nat) (o:Option Func):Res:=Option.rec (motive:=fun _=>Res) none (fun F=>Option.rec (motive:=fun _=>Res) none (cf3 X cf F args H nx) F.body) o
def cf1 (r s:Res):Res:=Option.rec (motive:=fun _=>Res) s some r
def ntB1 (args:List AV) (H:X3) (nx:Nat) (o:Option Xeq):Res:=Option.rec (motive:=fun _=>Res) none (fun g=>g args H nx) o
def Xhw (X:Cx) (fn:Tr Func) (nt:Tr Xeq) (k:Nat):Xj:=Nat.rec (motive:=fun _=>Xj) (fun _ _ _ _=>none) (fun _ ih f args H nx=>cf1 (ntB1 args H nx (trF nt f)) (cf2 X ih args H nx (trF fn f))) k
theorem cf2_eq (X:Cx) (cf:Xj) (args:List AV) (H:X3) (nx:Nat) (o:Option Func):cf2 X cf args H nx o=(match o with
  | some F=>match F.body with
   | some c=>bif Nat.ble (len args) F.ntmps && Nat.ble F.ntmps DK then match exec X cf c (args ++ X6b (F.ntmps - len args)) H nx with
     | some (.e _,_,_,_)=>none
     | some (_,E',H',nx')=>match X2k X E' H' F.results.toList with
      | some αs=>some (Xgc αs,H',nx')
      | none=>none
     | none=>none
    else none
   | none=>none
  | none=>none):=by
 cases o with
 | none=>rfl
 | some F =>
  show Option.rec (motive:=fun _=>Res) none (cf3 X cf F args H nx) F.body=_
  simp only
  cases F.body with
  | none=>rfl
  | some c =>
   show Xr (Xr _ _ _) _ _=_
   rw [X7,X7,X9i]
   simp only
   cases hb:Nat.ble (len args) F.ntmps with
   | false=>rfl
   | true=>cases Nat.ble F.ntmps DK with
    | false=>rfl
    | true =>
     show cf4 X F (X6a c X cf (X8l args F.ntmps) H nx)=_
     simp only [Bool.and_self,cond_true]
     rw [← Xdv (Y1 hb),← X1r]
     cases X6a c X cf (X8l args F.ntmps) H nx with
     | none=>rfl
     | some p =>
      obtain ⟨x,E',H',nx'⟩:=p
      cases x with
      | e id=>rfl
      | n=>show cf5 H' nx' (rsF X E' H' F.results.toList)=(match X2k X E'.l H' F.results.toList with | some αs=>some (Xgc αs,H',nx') | none=>none); rw [Xeb]; exact Xgq _ _ _
      | r=>show cf5 H' nx' (rsF X E' H' F.results.toList)=(match X2k X E'.l H' F.results.toList with | some αs=>some (Xgc αs,H',nx') | none=>none); rw [Xeb]; exact Xgq _ _ _
theorem Xag (X:Cx) (fn:Tr Func) (nt:Tr Xeq):∀ (k:Nat),Xhw X fn nt k=X81 X fn nt k
 | 0=>rfl
 | k+1=>by
  funext f args H nx
  show cf1 (ntB1 args H nx (trF nt f)) (cf2 X (Xhw X fn nt k) args H nx (trF fn f))=_
  rw [Xag X fn nt k,Xu,Xu]
  have e:=cf2_eq X (X81 X fn nt k) args H nx (fn.get f)
  generalize cf2 X (X81 X fn nt k) args H nx (fn.get f)=z at e ⊢
  conv=>rhs; unfold X81
  cases hn:nt.get f with
  | none=>show z=_; simp only; exact e
  | some g =>
   show cf1 (g args H nx) z=_
   simp only
   cases g args H nx with
   | some r=>rfl
   | none=>exact e
end
end Sx
namespace Go.Proofs.YtokmddjcdfailaaGreatDoor
open Gk Sx
set_option maxRecDepth 100000
theorem Xco:okT (Xhw X26 fnT ntT 60 4 [] [] 1000)=true:=by kernel_rfl
end Go.Proofs.YtokmddjcdfailaaGreatDoor
namespace Pc
def plain (c:UInt8):Bool:=(97≤c && c≤122) || (65≤c && c≤90) || (48≤c && c≤57) || c == 45 || c == 46 || c == 95 || c == 126
def hexv (c:UInt8):Int:=if 48≤c && c≤57 then c.toNat - 48 else if 97≤c && c≤102 then c.toNat - 87 else if 65≤c && c≤70 then c.toNat - 55 else -1
def hexd (n:Nat):UInt8:=if n<10 then UInt8.ofNat (48+n) else UInt8.ofNat (55+n)
def pctB (c:UInt8):List UInt8:=[37,hexd (c.toNat / 16),hexd (c.toNat % 16)]
def one (c:UInt8):List UInt8:=if plain c then [c] else pctB c
def byteOf (a b:UInt8):UInt8:=UInt8.ofNat (16*hexv a+hexv b).toNat
def told:List UInt8→Option UInt8
 | a::b::_=>if hexv a<0∨hexv b<0 then none else some (byteOf a b)
 | _=>none
def X9m:Nat→List UInt8→Option (List UInt8)
 | 0,_=>some []
 | _+1,[]=>some []
 | f+1,c::r=>if c=37 then match told r with
   | none=>none
   | some v=>(X9m f (r.drop 2)).map (one v ++ ·)
  else (X9m f r).map (c::·)
def Xds (s:List UInt8):Option (List UInt8):=X9m (s.length+1) s
theorem X3u {r:List UInt8} {v:UInt8} (h:told r=some v):2≤r.length:=by
 match r,h with
 | a::b::_,_=>simp
 | [_],h=>simp [told] at h
 | [],h=>simp [told] at h
theorem X44:∀ (f g:Nat) (s:List UInt8),s.length<f→s.length<g→X9m f s=X9m g s
 | 0,_,_,h,_=>by omega
 | _+1,0,_,_,h=>by omega
 | f+1,g+1,[],_,_=>rfl
 | f+1,g+1,c::r,hf,hg=>by
  simp only [X9m]
  split
  ·cases ht:told r with
   | none=>rfl
   | some v =>
    simp only
    have:=X3u ht
    simp only [Y3] at hf hg
    rw [X44 f g (r.drop 2) (by rw [Y6]; omega) (by rw [Y6]; omega)]
  ·simp only [Y3] at hf hg
   rw [X44 f g r (by omega) (by omega)]
theorem X7h:Xds []=some []:=rfl
theorem X5s (c:UInt8) (r:List UInt8):Xds (c::r)=if c=37 then match told r with
   | none=>none
   | some v=>(Xds (r.drop 2)).map (one v ++ ·)
  else (Xds r).map (c::·):=by
 unfold Xds
 simp only [Y3,X9m]
 split
 ·cases ht:told r with
  | none=>rfl
  | some v =>
   simp only
   have:=X3u ht
   rw [X44 (r.length+1) ((r.drop 2).length+1) (r.drop 2) (by rw [Y6]; omega) (by omega)]
 ·rfl
theorem X7x {p:UInt8→Bool} (h:(List.range 256).all (fun n=>p (UInt8.ofNat n))=true) (c:UInt8):p c=true:=by
 have:=Y2z.1 h c.toNat (Y2i.2 c.toNat_lt)
 simpa using this
def HIGH:List UInt8:=[48,49,50,51,52,53,54,55,56,57,65,66,67,68,69,70]
end Pc
namespace Go.Proofs.YtokmddjcdfailaaGreatDoor
open Gk Pc
theorem X5f:Tryz.prog.info? 5=some Tryz.t5:=by kernel_rfl
theorem X42:Tryz.prog.info? 50=some Tryz.t50:=by kernel_rfl
def DigAt (I:Im):Prop:=At I (ad 3 0) (bcs HIGH)
theorem DigAt.mono {I J:Im} (h:DigAt I) (hl:Le I J):DigAt J:=At.mono h hl
theorem X2c (bb:Nat) (p v:Value) (hp:p=.pointer none∨p=ptr bb 0) (B w:World) (I:Im) (F:List Xe) (hS:Sat B w I (blk bb [p,v] 50::F)) :
  Calls Tryz.prog 28 [ptr bb 0].toArray w (Ret fun u w'=>u=.tuple #[]∧Sat B w' I (blk bb [ptr bb 0,v] 50::F)):=by
 rcases hp with rfl | rfl
 ·
  refine calls Qf28 rfl Tryz.ntmps28 rfl (.seq (.t 2 rfl (.val (.fieldAddr 0 (.of rfl) X7u rfl rfl Qs48 rfl) rfl (.val (.ld (.of rfl) hS (k:=0) rfl Qg48 rfl) rfl (.val (.eqp (.of rfl) (.of rfl) Qu48) rfl (.nil (.condT (rfl) (.t 2 rfl (.val (.toUnsafe (.of rfl) hS (k:=0) rfl Qu48 Xhk X42 (by decide) (by simp)) rfl (.val (.extern Tryz.func51 (by kernel_rfl) (by kernel_rfl) (by kernel_rfl) (e:=Extern.AbiNoEscape.same) (by kernel_rfl) (X1 (.of rfl) X6) (Go.Lib.run_noEscape w _)) rfl (.val (.fromUnsafe (.of rfl) hS (k:=0) rfl Xhk Qu48 X42 (by kernel_rfl)) rfl (.q 1 rfl (.val (.fieldAddr 0 (.of rfl) X7u rfl rfl Qs48 rfl) rfl (.st1 hS (k:=0) rfl (.of rfl) (.of rfl) rfl Qs48 (by simp) ?_))))))))))))))
  clear hS; intro w hS; try dsimp only [List.set] at hS
  refine .nil (end0 Tryz.results28 ?_)
  exact ⟨_,rfl,rfl,hS⟩
 ·
  refine calls Qf28 rfl Tryz.ntmps28 rfl (.seq (.t 2 rfl (.val (.fieldAddr 0 (.of rfl) X7u rfl rfl Qs48 rfl) rfl (.val (.ld (.of rfl) hS (k:=0) rfl Qg48 rfl) rfl (.val (.eqp (.of rfl) (.of rfl) Qu48) rfl (.nil (.condF (rfl) (.seq (.t 2 rfl (.val (.fieldAddr 0 (.of rfl) X7u rfl rfl Qs48 rfl) rfl (.val (.ld (.of rfl) hS (k:=0) rfl Qg48 rfl) rfl (.q 1 rfl (.val (.nepSame (.of rfl) (.of rfl) Qu48 X42 trivial) rfl (.nil (.condF (rfl) (.skip (end0 Tryz.results28 ?_)))))))))))))))))
  exact ⟨_,rfl,rfl,hS⟩
theorem X6z (bb:Nat) (p v:Value) (l:List UInt8) (c:UInt8) (hp:p=.pointer none∨p=ptr bb 0) (B w:World) (I:Im) (F:List Xe) (hS:Sat B w I (blk bb [p,v] 50::Vec 5 1 v l.length (bcs l)::F)) (hl:l.length≤140737488000000) :
  Calls Tryz.prog 13 [ptr bb 0,U8 c.toNat].toArray w (Ret fun u w'=>u=.nilIface∧∃ v',Sat B w' I (blk bb [ptr bb 0,v'] 50::Vec 5 1 v' (l ++ [c]).length (bcs (l ++ [c]))::F)):=by
 refine calls Tryz.func13 rfl Tryz.ntmps13 rfl (.seq (.q 1 rfl (.seq (.t 1 rfl (.call Qf28 rfl (X1 (.of rfl) X6) rfl (X2c bb p v hp B w I _ hS) ?_)))))
 clear hS
 rintro _ w ⟨rfl,hS⟩
 refine .nil (.seq ?_)
 obtain ⟨va,vc,rfl,hvc,_⟩:=hS.vecSlice (k:=1) rfl
 refine .t 3 rfl ?_
 refine WL.val (.fieldAddr 1 (.of rfl) X7u rfl rfl X6h rfl) rfl ?_
 refine WL.val (.ld (.of rfl) hS (k:=0) rfl Xaa rfl) rfl ?_
 refine .q 1 rfl (.buildSlice (cs:=[_]) hS (X10 (.of rfl) X18) Xab Qs5 Qz5 rfl rfl rfl rfl ?_)
 clear hS; intro b13 w hS
 refine WL.append (size:=1) (bytes:=1) hS (.of rfl) (.of rfl) (k:=1) rfl Xab X5f rfl rfl rfl rfl rfl rfl rfl ⟨by omega,by unfold maxLen; omega⟩ rfl ?_
 clear hS; intro v14 w hS; try dsimp only [List.set] at hS
 obtain ⟨a14,c14,rfl,hcap14,_⟩:=hS.vecSlice (k:=1) (v:=v14) rfl
 refine .q 1 rfl ?_
 refine WL.val (.fieldAddr 1 (.of rfl) X7u rfl rfl X6h rfl) rfl ?_
 refine WL.st1 hS (k:=0) rfl (.of rfl) (.of rfl) rfl X6h (by simp) ?_
 clear hS; intro w hS; try dsimp only [List.set] at hS
 refine .nil (.seq (.q 1 rfl (.ret (X38 Tryz.results13 rfl ?_))))
 exact ⟨_,rfl,rfl,_,by simpa using hS⟩
theorem X1o (bb:Nat) (p v:Value) (l s:List UInt8) (hp:p=.pointer none∨p=ptr bb 0) (B w:World) (I:Im) (F:List Xe) (hS:Sat B w I (blk bb [p,v] 50::Vec 5 1 v l.length (bcs l)::F)) (hl:l.length+s.length≤140737488000000) :
  Calls Tryz.prog 14 [ptr bb 0,S s].toArray w (Ret fun u w'=>u=.tuple #[I64 s.length,.nilIface]∧∃ v',Sat B w' I (blk bb [ptr bb 0,v'] 50::Vec 5 1 v' (l ++ s).length (bcs (l ++ s))::F)):=by
 refine calls Xhh rfl Tryz.ntmps14 rfl (.seq (.q 2 rfl (.seq (.t 1 rfl (.call Qf28 rfl (X1 (.of rfl) X6) rfl (X2c bb p v hp B w I _ hS) ?_)))))
 clear hS
 rintro _ w ⟨rfl,hS⟩
 refine .nil (.seq ?_)
 obtain ⟨va,vc,rfl,hvc,_⟩:=hS.vecSlice (k:=1) rfl
 refine .t 3 rfl (.val (.fieldAddr 1 (.of rfl) X7u rfl rfl X6h rfl) rfl (.val (.ld (.of rfl) hS (k:=0) rfl Xaa rfl) rfl (.q 1 rfl (.appendStr hS (.of rfl) (.of rfl) (k:=1) rfl Xab Qu9 X5f rfl rfl rfl (by omega) rfl ?_))))
 clear hS; intro v14 w hS; dsimp only [List.set] at hS
 obtain ⟨a14,c14,rfl,hcap14,_⟩:=hS.vecSlice (k:=1) (v:=v14) rfl
 refine .q 1 rfl (.val (.fieldAddr 1 (.of rfl) X7u rfl rfl X6h rfl) rfl (.st1 hS (k:=0) rfl (.of rfl) (.of rfl) rfl X6h (by simp) ?_))
 clear hS; intro w hS; try dsimp only [List.set] at hS
 refine .nil (.seq (.region (.run 4 rfl ⟨Qu9,trivial⟩ (.nil (.ret (ret2 Tryz.results14 rfl rfl ?_))))))
 exact ⟨_,rfl,rfl,_,by simpa using hS⟩
set_option maxRecDepth 8000 in
theorem X6i (bb:Nat) (p v:Value) (l:List UInt8) (hv:l=[]→v=.slice none 0 0) (B w:World) (I:Im) (F:List Xe) (hS:Sat B w I (blk bb [p,v] 50::Vec 5 1 v l.length (bcs l)::F)) :
  Calls Tryz.prog 15 [ptr bb 0].toArray w (Ret fun u w'=>u=S l∧Sat B w' I F):=by
 by_cases h0:l=[]
 ·obtain rfl:=hv h0
  subst h0
  refine calls Qf15 rfl Tryz.ntmps15 rfl (.seq (.q 1 rfl (.seq (.tail 10 (by kernel_rfl) (by kernel_rfl) ?_))))
  replace hS:=hS.drew; generalize w.drew=w at hS ⊢
  refine .val (.move (.of rfl)) rfl (.val (.nilCheck (.of rfl)) rfl (.val (.fieldAddr 1 (.of rfl) X7u rfl rfl X6h rfl) rfl (.val (.ld (.of rfl) hS (k:=0) rfl Xaa rfl) rfl (.val (.sliceDataNil (.of rfl)) rfl (.val (.move (.of rfl)) rfl (.val (.nilCheck (.of rfl)) rfl (.val (.fieldAddr 1 (.of rfl) X7u rfl rfl X6h rfl) rfl (.val (.ld (.of rfl) hS (k:=0) rfl Xaa rfl) rfl (.val (.lenSlice (.of rfl) Xab) rfl (.nil ?_))))))))))
  show WL _ _ _ _ _ _ _
  refine .val (.unsafeStringNone (.of rfl) (.of rfl)) rfl (.q 1 rfl (.nil (.ret (X38 Tryz.results15 rfl ?_))))
  exact ⟨_,rfl,rfl,(hS.drop (k:=0) rfl).drop (k:=0) rfl⟩
 ·have h1:0<l.length:=List.length_pos_iff.2 h0
  obtain ⟨vb,vc,r,rfl,hv1,hv2,hv3,hv4,hT⟩:=hS.vecOpen (k:=1) rfl h1
  clear hS; have hS:=hT; clear hT; try dsimp only [List.set] at hS
  have h63:l.length≤9223372036854775807:=by unfold maxLen at hv2; omega
  refine calls Qf15 rfl Tryz.ntmps15 rfl (.seq (.q 1 rfl (.seq (.tail 10 (by kernel_rfl) (by kernel_rfl) ?_))))
  replace hS:=hS.drew; generalize w.drew=w at hS ⊢
  refine .val (.move (.of rfl)) rfl (.val (.nilCheck (.of rfl)) rfl (.val (.fieldAddr 1 (.of rfl) X7u rfl rfl X6h rfl) rfl (.val (.ld (.of rfl) hS (k:=0) rfl Xaa rfl) rfl (.val (.sliceData (.of rfl) (by omega)) rfl (.val (.move (.of rfl)) rfl (.val (.nilCheck (.of rfl)) rfl (.val (.fieldAddr 1 (.of rfl) X7u rfl rfl X6h rfl) rfl (.val (.ld (.of rfl) hS (k:=0) rfl Xaa rfl) rfl (.val (.lenSlice (.of rfl) Xab) rfl (.nil ?_))))))))))
  show WL _ _ _ _ _ _ _
  refine .unsafeString hS (k:=1) rfl (.of rfl) (.of rfl) h0 Tryz.underlying78 (by kernel_rfl) (by omega) rfl ?_
  clear hS; intro w hS; try dsimp only [List.eraseIdx] at hS
  refine .q 1 rfl (.nil (.ret (X38 Tryz.results15 rfl ?_)))
  exact ⟨_,rfl,rfl,hS.drop (k:=0) rfl⟩
end Go.Proofs.YtokmddjcdfailaaGreatDoor
namespace Ul
open Pc Gk
def lo (c:UInt8):UInt8:=if 65≤c && c≤90 then c+32 else c
def low (s:List UInt8):List UInt8:=s.map lo
def hostB (c:UInt8):Bool:=plain c && !(c == 95 || c == 126)
def hostOk (s:List UInt8):Bool:=!(s.isEmpty || decide (64<s.length)) && s.all hostB
def BAD:List UInt8:=[34,60,62,35,92,94,123,124,125,96]
def Xhc (c:UInt8):Bool:=(33≤c && c≤126) && !BAD.contains c
def val (s:List UInt8):Nat:=s.foldl (fun n c=>10*n+(c.toNat - 48)) 0
def http:List UInt8:=[104,116,116,112]
def https:List UInt8:=[104,116,116,112,115]
def ownP (s:List UInt8):Nat:=if s=https then 443 else 80
def upto (ats s:List UInt8):List UInt8:=s.takeWhile fun c=>!ats.contains c
def X1e (ats s:List UInt8):List UInt8:=s.dropWhile fun c=>!ats.contains c
theorem X27 (ats s:List UInt8):upto ats s ++ X1e ats s=s:=Y2t
theorem Xd1 {ats:List UInt8}:∀ {s:List UInt8} {i:Nat},Go.Lib.indexAny s ats=i→upto ats s=s.take i∧X1e ats s=s.drop i∧i<s.length
 | [],i,h=>by simp [Go.Lib.indexAny] at h
 | b::l,i,h=>by
  rw [Go.Lib.indexAny] at h
  split at h
  ·rename_i hb
   have:i=0:=by omega
   subst this
   have hb':b∈ats:=by simpa using hb
   simp [upto,X1e,hb']
  ·rename_i hb
   have hb':ats.contains b=false:=by simpa using hb
   split at h
   ·omega
   ·have hge:=Go.Lib.indexAny_ge ats l
    rename_i hne
    have hne':Go.Lib.indexAny l ats≠-1:=fun e=>hne (beq_iff_eq.2 e)
    obtain ⟨k,hk⟩:∃ k:Nat,Go.Lib.indexAny l ats=k:=⟨(Go.Lib.indexAny l ats).toNat,by omega⟩
    obtain ⟨a,b',c⟩:=Xd1 hk
    have:i=k+1:=by omega
    subst this
    refine ⟨?_,?_,by simp; omega⟩
    ·show (b::l).takeWhile _=_
     rw [Y36]
     simp only [hb',Y3h,if_true,List.take_succ_cons]
     rw [← a]; rfl
    ·show (b::l).dropWhile _=_
     rw [Y2l]
     simp only [hb',Y3h,if_true,Yx]
     rw [← b']; rfl
theorem Xaj {ats:List UInt8}:∀ {s:List UInt8},Go.Lib.indexAny s ats=-1→upto ats s=s∧X1e ats s=[]
 | [],_=>⟨rfl,rfl⟩
 | b::l,h=>by
  rw [Go.Lib.indexAny] at h
  split at h
  ·omega
  ·rename_i hb
   have hb':ats.contains b=false:=by simpa using hb
   split at h
   ·rename_i hne
    obtain ⟨a,c⟩:=Xaj (s:=l) (ats:=ats) (beq_iff_eq.1 hne)
    refine ⟨?_,?_⟩
    ·show (b::l).takeWhile _=_
     rw [Y36]
     simp only [hb',Y3h,if_true]
     show b::upto ats l=_
     rw [a]
    ·show (b::l).dropWhile _=_
     rw [Y2l]
     simp only [hb',Y3h,if_true]
     exact c
   ·have hge:=Go.Lib.indexAny_ge ats l
    omega
theorem Xcl {s:List UInt8} {i:Nat} (h:i<s.length):s[i]?=some (at_ s i):=by
 rw [Yb h,at_,Yh,Y8,Yb h]; rfl
end Ul
namespace Go.Proofs
open Go.Shelf
def Tryz.lays137_ren:Go.Shelf.Ren:=⟨fun | 137=>53 | 217=>97 | 266=>185 | n=>n,fun | 9=>9 | 5=>5 | 3=>3 | n=>n,fun | n=>n⟩
theorem Tryz.lays137:Go.Proofs.Lays.n137 Tryz.prog Tryz.lays137_ren:={
 mixed:=by kernel_rfl
 f137:=Tryz.func53.trans (congrArg some (by kernel_rfl))
 f217:=Qf97.trans (congrArg some (by kernel_rfl))
 f266:=Qf185.trans (congrArg some (by kernel_rfl))
 t3:=Qu3
 a3:=Qg3
 z3:=Qs3
 v3:=Qz3
 t5:=Qu5
 a5:=Qg5
 z5:=Qs5
 v5:=Qz5
 t9:=Qu9
 a9:=Qg9
 z9:=Qs9
 v9:=Qz9 }
open Go.RowKit in
theorem Tryz.strings_IndexByte (s:ByteArray) (c:Int) (w:World) :
  Calls Tryz.prog 53 #[.string s,.int .u8 c] w fun e w'=>e=.returned (.int .i64 (Lib.indexByte s.data.toList c.toNat.toUInt8))∧w'=w:=Any.strings_IndexByte Tryz.lays137 s c w
def Tryz.laysM171_ren:Go.Shelf.Ren:=⟨fun | 171=>21 | 243=>31 | 246=>54 | 283=>101 | 284=>102 | 285=>103 | 286=>104 | 129=>188 | 317=>187 | 318=>189 | 319=>190 | 320=>191 | 337=>278 | 338=>279 | n=>n,fun | 3=>3 | 9=>9 | 2=>2 | 4=>4 | 171=>200 | 0=>0 | 53=>40 | 37=>43 | 5=>5 | 173=>203 | 212=>300 | 51=>296 | 20=>20 | 213=>301 | 46=>128 | 232=>292 | 233=>455 | n=>n,fun | 17=>2 | 18=>4 | 19=>5 | n=>n⟩
theorem Tryz.laysM171:Go.Proofs.LaysM.n171 Tryz.prog Tryz.laysM171_ren:={
 mixed:=by kernel_rfl
 f129:=Tryz.func188.trans (congrArg some (by kernel_rfl))
 f171:=Qf21.trans (congrArg some (by kernel_rfl))
 f243:=Tryz.func31.trans (congrArg some (by kernel_rfl))
 f246:=Tryz.func54.trans (congrArg some (by kernel_rfl))
 f283:=Tryz.func101.trans (congrArg some (by kernel_rfl))
 f284:=Tryz.func102.trans (congrArg some (by kernel_rfl))
 f285:=Tryz.func103.trans (congrArg some (by kernel_rfl))
 f286:=Tryz.func104.trans (congrArg some (by kernel_rfl))
 f317:=Tryz.func187.trans (congrArg some (by kernel_rfl))
 f318:=Tryz.func189.trans (congrArg some (by kernel_rfl))
 f319:=Tryz.func190.trans (congrArg some (by kernel_rfl))
 f320:=Tryz.func191.trans (congrArg some (by kernel_rfl))
 f337:=Tryz.func278.trans (congrArg some (by kernel_rfl))
 f338:=Tryz.func279.trans (congrArg some (by kernel_rfl))
 t0:=Tryz.underlying0
 a0:=Tryz.isAgg0
 z0:=Tryz.sizeOf0
 v0:=Tryz.zeroValue0
 t2:=Tryz.underlying2
 a2:=Tryz.isAgg2
 z2:=Tryz.sizeOf2
 v2:=Tryz.zeroValue2
 t3:=Qu3
 a3:=Qg3
 z3:=Qs3
 v3:=Qz3
 t4:=Qu4
 a4:=Qg4
 z4:=Qs4
 v4:=Qz4
 t5:=Qu5
 a5:=Qg5
 z5:=Qs5
 v5:=Qz5
 t9:=Qu9
 a9:=Qg9
 z9:=Qs9
 v9:=Qz9
 t20:=Tryz.underlying20
 a20:=Tryz.isAgg20
 z20:=Tryz.sizeOf20
 v20:=Tryz.zeroValue20
 t37:=Xab
 a37:=Xaa
 z37:=X6h
 v37:=Tryz.zeroValue43
 t46:=Xf0
 a46:=Xey
 z46:=Tryz.sizeOf128
 v46:=Xhm
 t51:=Xcd
 a51:=Xez
 z51:=Tryz.sizeOf296
 v51:=Xhn
 t53:=Qu40
 a53:=Tryz.isAgg40
 z53:=Tryz.sizeOf40
 v53:=Tryz.zeroValue40
 t171:=Tryz.underlying200
 a171:=Tryz.isAgg200
 z171:=Tryz.sizeOf200
 v171:=Tryz.zeroValue200
 t173:=Tryz.underlying203
 a173:=Tryz.isAgg203
 z173:=Tryz.sizeOf203
 v173:=Tryz.zeroValue203
 t212:=Xhl
 a212:=Tryz.isAgg300
 z212:=Tryz.sizeOf300
 v212:=Tryz.zeroValue300
 t213:=Tryz.underlying301
 a213:=Tryz.isAgg301
 z213:=Tryz.sizeOf301
 t232:=Tryz.underlying292
 a232:=Tryz.isAgg292
 z232:=Tryz.sizeOf292
 v232:=Tryz.zeroValue292
 t233:=Tryz.underlying455
 a233:=Tryz.isAgg455
 z233:=Tryz.sizeOf455
 v233:=Tryz.zeroValue455
 g17:=by kernel_rfl
 g18:=by kernel_rfl
 g19:=by kernel_rfl
 i0:=by kernel_rfl
 i2:=by kernel_rfl
 i3:=by kernel_rfl
 i4:=by kernel_rfl
 i5:=by kernel_rfl
 i9:=by kernel_rfl
 i20:=by kernel_rfl
 i37:=by kernel_rfl
 i46:=by kernel_rfl
 i51:=by kernel_rfl
 i53:=by kernel_rfl
 i171:=by kernel_rfl
 i173:=by kernel_rfl
 i212:=by kernel_rfl
 i232:=by kernel_rfl
 i233:=by kernel_rfl
 m17:=by kernel_rfl
 m18:=by kernel_rfl
 m19:=by kernel_rfl }
open Go.RowKit Go.Sort Go.Lib in
theorem Tryz.strconv_Itoa (n : Int) (h0 : -9223372036854775808 ≤ n) (h1 : n ≤ 9223372036854775807) (w : World) (htab : Lib.TabIs Tryz.prog w "internal/strconv.uint64pow10" .u64 Lib.pow10Tab) :
  Calls Tryz.prog 21 #[.int .i64 n] w fun e w'=>e=.returned (.string ⟨(Lib.itoa n).toArray⟩)∧∃ k os,w'=grow (w.drewN k) os:=Any.strconv_Itoa Tryz.laysM171 n h0 h1 w htab
def Tryz.lays219_ren:Go.Shelf.Ren:=⟨fun | 219=>52 | 217=>97 | 225=>98 | 224=>99 | 267=>100 | 266=>185 | 314=>186 | n=>n,fun | 9=>9 | 3=>3 | 4=>4 | 5=>5 | 46=>128 | 146=>297 | 51=>296 | n=>n,fun | 1=>1 | n=>n⟩
theorem Tryz.lays219:Go.Proofs.Lays.n219 Tryz.prog Tryz.lays219_ren:={
 mixed:=by kernel_rfl
 f217:=Qf97.trans (congrArg some (by kernel_rfl))
 f219:=Tryz.func52.trans (congrArg some (by kernel_rfl))
 f224:=Tryz.func99.trans (congrArg some (by kernel_rfl))
 f225:=Tryz.func98.trans (congrArg some (by kernel_rfl))
 f266:=Qf185.trans (congrArg some (by kernel_rfl))
 f267:=Tryz.func100.trans (congrArg some (by kernel_rfl))
 f314:=Tryz.func186.trans (congrArg some (by kernel_rfl))
 t3:=Qu3
 a3:=Qg3
 z3:=Qs3
 v3:=Qz3
 t4:=Qu4
 a4:=Qg4
 z4:=Qs4
 v4:=Qz4
 t5:=Qu5
 a5:=Qg5
 z5:=Qs5
 v5:=Qz5
 t9:=Qu9
 a9:=Qg9
 z9:=Qs9
 v9:=Qz9
 t46:=Xf0
 a46:=Xey
 z46:=Tryz.sizeOf128
 v46:=Xhm
 t51:=Xcd
 a51:=Xez
 z51:=Tryz.sizeOf296
 v51:=Xhn
 t146:=Tryz.underlying297
 a146:=Tryz.isAgg297
 z146:=Tryz.sizeOf297
 v146:=Tryz.zeroValue297
 g1:=by kernel_rfl }
open Go.RowKit Go.Lib in
theorem Tryz.stringslite_Index (s sub:ByteArray) (m:Int) (w:World) (hs:s.size<4294967281) (hm:w.cell? ⟨1,0,none⟩=some (.int .i64 m)) :
  Calls Tryz.prog 52 #[.string s,.string sub] w fun e w'=>e=.returned (.int .i64 (Lib.index s.data.toList sub.data.toList))∧w'=w:=Any.stringslite_Index Tryz.lays219 s sub m w hs hm
def Tryz.lays145_ren:Go.Shelf.Ren:=⟨fun | 145=>18 | 220=>29 | 219=>52 | 217=>97 | 225=>98 | 224=>99 | 267=>100 | 266=>185 | 314=>186 | n=>n,fun | 9=>9 | 4=>4 | 59=>58 | 3=>3 | 5=>5 | 46=>128 | 146=>297 | 51=>296 | n=>n,fun | 1=>1 | n=>n⟩
theorem Tryz.lays145:Go.Proofs.Lays.n145 Tryz.prog Tryz.lays145_ren:={
 mixed:=by kernel_rfl
 f145:=Qf18.trans (congrArg some (by kernel_rfl))
 f217:=Qf97.trans (congrArg some (by kernel_rfl))
 f219:=Tryz.func52.trans (congrArg some (by kernel_rfl))
 f220:=Tryz.func29.trans (congrArg some (by kernel_rfl))
 f224:=Tryz.func99.trans (congrArg some (by kernel_rfl))
 f225:=Tryz.func98.trans (congrArg some (by kernel_rfl))
 f266:=Qf185.trans (congrArg some (by kernel_rfl))
 f267:=Tryz.func100.trans (congrArg some (by kernel_rfl))
 f314:=Tryz.func186.trans (congrArg some (by kernel_rfl))
 t3:=Qu3
 a3:=Qg3
 z3:=Qs3
 v3:=Qz3
 t4:=Qu4
 a4:=Qg4
 z4:=Qs4
 v4:=Qz4
 t5:=Qu5
 a5:=Qg5
 z5:=Qs5
 v5:=Qz5
 t9:=Qu9
 a9:=Qg9
 z9:=Qs9
 v9:=Qz9
 t46:=Xf0
 a46:=Xey
 z46:=Tryz.sizeOf128
 v46:=Xhm
 t51:=Xcd
 a51:=Xez
 z51:=Tryz.sizeOf296
 v51:=Xhn
 t59:=Tryz.underlying58
 a59:=Tryz.isAgg58
 z59:=Tryz.sizeOf58
 v59:=Tryz.zeroValue58
 t146:=Tryz.underlying297
 a146:=Tryz.isAgg297
 z146:=Tryz.sizeOf297
 v146:=Tryz.zeroValue297
 g1:=by kernel_rfl }
open Go.RowKit Go.Lib in
theorem Tryz.strings_Cut (s sep:ByteArray) (m:Int) (w:World) (hs:s.size<4294967281) (hm:w.cell? ⟨1,0,none⟩=some (.int .i64 m)) :
  Calls Tryz.prog 18 #[.string s,.string sep] w fun e w'=>e=.returned (.tuple #[.string ⟨(Lib.cut s.data.toList sep.data.toList).1.toArray⟩,.string ⟨(Lib.cut s.data.toList sep.data.toList).2.1.toArray⟩,.bool (Lib.cut s.data.toList sep.data.toList).2.2])∧∃ n,w'=w.drewN n:=Any.strings_Cut Tryz.lays145 s sep m w hs hm
end Go.Proofs
namespace Go.Proofs.YtokmddjcdfailaaGreatDoor
open Gk Pc Ul
theorem X6y (s:List UInt8) (c:UInt8) (w:World):Calls Tryz.prog 53 [S s,U8 c.toNat].toArray w (Ret fun v w'=>v=I64 (Go.Lib.indexByte s c)∧w=w') :=
 (Tryz.strings_IndexByte ⟨s.toArray⟩ c.toNat w).mono fun e w' he=>by
  obtain ⟨rfl,rfl⟩:=he
  refine ⟨_,rfl,?_,rfl⟩
  congr 2
  simp
end Go.Proofs.YtokmddjcdfailaaGreatDoor
namespace Ul
open Pc Gk
def spl:List UInt8→List (List UInt8)
 | []=>[[]]
 | c::r=>if c=47 then []::spl r else match spl r with
  | []=>[[c]]
  | h::t=>(c::h)::t
theorem Xee:∀ (a b:List UInt8),(∀ x∈a,x≠47)→spl (a ++ 47::b)=a::spl b
 | [],b,_=>by show spl (47::b)=_; rw [spl,if_pos rfl]
 | c::r,b,h=>by
  show spl (c::(r ++ 47::b))=_
  rw [spl,if_neg (h c (by simp)),Xee r b (fun x hx=>h x (by simp [hx]))]
theorem X7o {s:List UInt8} {i:Nat} (h:s[i]?=some 47) (hno:∀ k,k<i→s[k]?≠some 47):spl s=s.take i::spl (s.drop (i+1)):=by
 have hi:i<s.length:=(Y0.1 h).1
 have e:s=s.take i ++ 47::s.drop (i+1):=by
  conv=>lhs; rw [← Y1h i s]
  rw [Yz hi,(Y0.1 h).2]
 conv=>lhs; rw [e]
 refine Xee _ _ fun x hx ex=>?_
 obtain ⟨k,hk⟩:=List.mem_iff_getElem?.1 hx
 rw [Y12] at hk
 split at hk
 ·rename_i hki
  exact hno k hki (by rw [hk,ex])
 ·cases hk
def keep (k:List (List UInt8)) (x:List UInt8):List (List UInt8):=if x=[46] then k else if x=[46,46] then k.dropLast else k ++ [x]
def Xj6 (k:List (List UInt8)):List UInt8:=(k.map (47::·)).flatten
def isDot (x:List UInt8):Bool:=x == [46] || x == [46,46]
def dots:List UInt8→List UInt8
 | []=>[]
 | c::r=>if c=47 then Xj6 ((spl r).foldl keep []) ++ (if isDot ((spl r).getLastD []) || ((spl r).foldl keep []).length == 0 then [47] else []) else c::r
structure U where
 sch:List UInt8
 host:List UInt8
 port:Nat
 path:List UInt8
 query:List UInt8
 ask:Bool
theorem Xhy (s:List UInt8) (c:UInt8):Go.Lib.cut s [c]=(upto [c] s,(X1e [c] s).drop 1,!(X1e [c] s).isEmpty):=by
 have hge:=Go.Lib.indexByte_ge s c
 have key:Go.Lib.indexAny s [c]=Go.Lib.indexByte s c:=by
  clear hge
  induction s with
  | nil=>rfl
  | cons b l ih =>
   rw [Go.Lib.indexAny,Go.Lib.indexByte,ih]
   have:([c].contains b)=(b == c):=by rw [List.contains_cons]; simp
   rw [this]
 unfold Go.Lib.cut
 rw [Go.Lib.index_one]
 by_cases e:Go.Lib.indexByte s c=-1
 ·rw [e,if_neg (by decide)]
  obtain ⟨h1,h2⟩:=Xaj (s:=s) (ats:=[c]) (by rw [key]; exact e)
  rw [h1,h2]; rfl
 ·obtain ⟨k,hk⟩:∃ k:Nat,Go.Lib.indexByte s c=k:=⟨(Go.Lib.indexByte s c).toNat,by omega⟩
  obtain ⟨h1,h2,h3⟩:=Xd1 (s:=s) (ats:=[c]) (i:=k) (by rw [key]; exact hk)
  rw [hk,if_pos (by omega),h1,h2,Yh,Yy]
  have:(s.drop k).isEmpty=false:=by
   cases hd:s.drop k with
   | nil =>
    have:=congrArg List.length hd
    rw [Y6,Ye] at this
    omega
   | cons a b=>rfl
  rw [this]
  rfl
theorem Xia (a s:List UInt8):(X1e a s).length≤s.length:=by
 have:=congrArg List.length (X27 a s)
 rw [Y2] at this; omega
theorem X3v (a s:List UInt8):(upto a s).length+(X1e a s).length=s.length:=by
 have:=congrArg List.length (X27 a s)
 rw [Y2] at this; omega
end Ul
namespace Pat
open Go Gk
theorem Xao {α:Type} (enc:α→List Value) (s:Nat) (hs:∀ x,(enc x).length=s):∀ (l:List α) (r:List Value) (i j:Nat) (x:α),l[i]?=some x→j<s→(l.flatMap enc ++ r)[i*s+j]?=(enc x)[j]?
 | [],_,_,_,_,h,_=>by simp at h
 | y::l,r,0,j,x,h,hj=>by
  simp at h
  subst h
  simp only [List.flatMap_cons,Nat.zero_mul,Yq,Y7]
  rw [Ya (by rw [hs]; exact hj)]
 | y::l,r,i+1,j,x,h,hj=>by
  simp only [List.flatMap_cons,Y7]
  rw [Yn (by rw [hs,Y3e]; omega),hs]
  have e:(i+1)*s+j - s=i*s+j:=by rw [Y3e]; omega
  rw [e]
  exact Xao enc s hs l r i j x (by simpa using h) hj
abbrev X2n:=Int×Int×Value
abbrev Pl:=Int×Int×List Int
def enc (x:X2n):List Value:=[.int .u8 x.1,.int .u8 x.2.1,x.2.2]
theorem X9a (x:X2n):(enc x).length=3:=rfl
def Xj3 (P:List X2n) (i:Nat) (v:Value):List X2n:=P.modify i fun x=>(x.1,x.2.1,v)
def X15 (Q:List Pl) (i:Nat) (xs:List Int):List Pl:=Q.modify i fun x=>(x.1,x.2.1,xs)
def IntsI (I:Im) (v:Value) (xs:List Int):Prop:=(xs=[]→v=.slice none 0 0)∧∃ a c,v=.slice a xs.length c∧xs.length≤c∧RS I a 1 xs.length (xs.map I64)
theorem IntsI.mono {I J:Im} {v:Value} {xs:List Int} (h:IntsI I v xs) (hl:Le I J):IntsI J v xs:=let ⟨h0,a,c,e,hc,hr⟩:=h; ⟨h0,a,c,e,hc,hr.mono hl⟩
theorem IntsI.nil (I:Im):IntsI I (.slice none 0 0) []:=⟨fun _=>rfl,none,0,rfl,Yd _,RS.nil I 1⟩
def RelP (I:Im) (P:List X2n) (Q:List Pl):Prop:=P.length=Q.length∧∀ (i:Nat) (p:X2n) (q:Pl),P[i]?=some p→Q[i]?=some q→p.1=q.1∧p.2.1=q.2.1∧IntsI I p.2.2 q.2.2
theorem RelP.mono {I J:Im} {P:List X2n} {Q:List Pl} (h:RelP I P Q) (hl:Le I J):RelP J P Q:=⟨h.1,fun i p q hp hq=>let ⟨a,b,c⟩:=h.2 i p q hp hq; ⟨a,b,c.mono hl⟩⟩
theorem RelP.nil (I:Im):RelP I [] []:=⟨rfl,fun _ _ _ h=>by simp at h⟩
theorem RelP.snoc {I:Im} {P:List X2n} {Q:List Pl} (h:RelP I P Q) (k c:Int) (v:Value) (xs:List Int) (hv:IntsI I v xs):RelP I (P ++ [(k,c,v)]) (Q ++ [(k,c,xs)]):=by
 refine ⟨by simp [h.1],fun i p q hp hq=>?_⟩
 rcases Y2v i P.length with hi | hi | hi
 ·rw [Ya hi] at hp
  rw [Ya (by rw [← h.1]; exact hi)] at hq
  exact h.2 i p q hp hq
 ·subst hi
  rw [Yn (Yd _)] at hp
  rw [h.1,Yn (Yd _)] at hq
  simp at hp hq
  subst hp; subst hq
  exact ⟨rfl,rfl,hv⟩
 ·rw [Y15 (by simp; omega)] at hp
  cases hp
theorem RelP.set {I:Im} {P:List X2n} {Q:List Pl} (h:RelP I P Q) (i:Nat) (v:Value) (xs:List Int) (hv:IntsI I v xs):RelP I (Xj3 P i v) (X15 Q i xs):=by
 refine ⟨by simp [Xj3,X15,h.1],fun j p q hp hq=>?_⟩
 unfold Xj3 at hp
 unfold X15 at hq
 rw [Y1j] at hp hq
 by_cases e:i=j
 ·subst e
  simp only [if_true] at hp hq
  obtain ⟨p0,hp0,rfl⟩:=Y13.1 hp
  obtain ⟨q0,hq0,rfl⟩:=Y13.1 hq
  obtain ⟨a,b,_⟩:=h.2 i p0 q0 hp0 hq0
  exact ⟨a,b,hv⟩
 ·simp only [e,if_false] at hp hq
  exact h.2 j p q (by simpa using hp) (by simpa using hq)
def RelX (I:Im) (o:Nat) (P:List X2n) (Q:List Pl):Prop:=P.length=Q.length∧∀ (i:Nat) (p:X2n) (q:Pl),P[i]?=some p→Q[i]?=some q→p.1=q.1∧p.2.1=q.2.1∧(i≠o→IntsI I p.2.2 q.2.2)
theorem RelX.mono {I J:Im} {o:Nat} {P:List X2n} {Q:List Pl} (h:RelX I o P Q) (hl:Le I J):RelX J o P Q:=⟨h.1,fun i p q hp hq=>let ⟨a,b,c⟩:=h.2 i p q hp hq; ⟨a,b,fun hi=>(c hi).mono hl⟩⟩
theorem RelP.x {I:Im} {P:List X2n} {Q:List Pl} (h:RelP I P Q) (o:Nat):RelX I o P Q:=⟨h.1,fun i p q hp hq=>let ⟨a,b,c⟩:=h.2 i p q hp hq; ⟨a,b,fun _=>c⟩⟩
theorem RelX.back {I:Im} {o:Nat} {P:List X2n} {Q:List Pl} (h:RelX I o P Q) (hv:∀ p q,P[o]?=some p→Q[o]?=some q→IntsI I p.2.2 q.2.2):RelP I P Q :=
 ⟨h.1,fun i p q hp hq=>by
  obtain ⟨a,b,c⟩:=h.2 i p q hp hq
  refine ⟨a,b,?_⟩
  by_cases e:i=o
  ·subst e; exact hv p q hp hq
  ·exact c e⟩
def X3x (n:Nat) (o:Nat):List Pl→List Int→List Nat→List Pl
 | Q,_,[]=>Q
 | Q,done,b::r=>X3x n o (X15 (X15 Q o (done ++ [(b:Int)+1])) b [(n:Int)]) (done ++ [(b:Int)+1]) r
abbrev PFr:=Nat×List Nat
def cmpGo:List UInt8→Int→List Pl→List PFr→List Int→Except (Int×Int) (List Pl)
 | [],_,Q,_,ats=>if 0<ats.length then .error (23,ats.getD (ats.length - 1) 0) else .ok (Q ++ [(7,0,[])])
 | c::r,i,Q,stk,ats =>
  if c.toNat=63 then cmpGo r (i+1) (Q ++ [(1,0,[])]) stk ats
  else if c.toNat=42 then (match r with
   | d::r'=>if d.toNat=42 then cmpGo r' (i+2) (Q ++ [(2,0,[])]) stk ats else cmpGo (d::r') (i+1) (Q ++ [(3,0,[])]) stk ats
   | []=>cmpGo [] (i+1) (Q ++ [(3,0,[])]) stk ats)
  else if c.toNat=40 then (if stk.length=4 then .error (24,i) else cmpGo r (i+1) (Q ++ [(4,0,[])]) ((Q.length,[])::stk) (ats ++ [i]))
  else if c.toNat=124 then (match stk with
   | []=>.error (10,i)
   | (o,bs)::rest=>cmpGo r (i+1) (Q ++ [(5,0,[])]) ((o,bs ++ [Q.length])::rest) ats)
  else if c.toNat=41 then (match stk with
   | []=>.error (10,i)
   | (o,bs)::rest=>cmpGo r (i+1) (X3x Q.length o Q [] bs ++ [(6,0,[])]) rest (ats.take rest.length))
  else if c.toNat=92 then (match r with | []=>.error (10,i) | d::r'=>cmpGo r' (i+2) (Q ++ [(0,(d.toNat:Int),[])]) stk ats)
  else cmpGo r (i+1) (Q ++ [(0,(c.toNat:Int),[])]) stk ats
theorem Xcw (i:Int) (Q:List Pl) (stk:List PFr) (ats:List Int):cmpGo [] i Q stk ats=if 0<ats.length then .error (23,ats.getD (ats.length - 1) 0) else .ok (Q ++ [(7,0,[])]):=by rw [cmpGo.eq_def]
theorem X1a (c:UInt8) (r:List UInt8) (i:Int) (Q:List Pl) (stk:List PFr) (ats:List Int):cmpGo (c::r) i Q stk ats =
  if c.toNat=63 then cmpGo r (i+1) (Q ++ [(1,0,[])]) stk ats
  else if c.toNat=42 then (match r with
   | d::r'=>if d.toNat=42 then cmpGo r' (i+2) (Q ++ [(2,0,[])]) stk ats else cmpGo (d::r') (i+1) (Q ++ [(3,0,[])]) stk ats
   | []=>cmpGo [] (i+1) (Q ++ [(3,0,[])]) stk ats)
  else if c.toNat=40 then (if stk.length=4 then .error (24,i) else cmpGo r (i+1) (Q ++ [(4,0,[])]) ((Q.length,[])::stk) (ats ++ [i]))
  else if c.toNat=124 then (match stk with
   | []=>.error (10,i)
   | (o,bs)::rest=>cmpGo r (i+1) (Q ++ [(5,0,[])]) ((o,bs ++ [Q.length])::rest) ats)
  else if c.toNat=41 then (match stk with
   | []=>.error (10,i)
   | (o,bs)::rest=>cmpGo r (i+1) (X3x Q.length o Q [] bs ++ [(6,0,[])]) rest (ats.take rest.length))
  else if c.toNat=92 then (match r with | []=>.error (10,i) | d::r'=>cmpGo r' (i+2) (Q ++ [(0,(d.toNat:Int),[])]) stk ats)
  else cmpGo r (i+1) (Q ++ [(0,(c.toNat:Int),[])]) stk ats:=by rw [cmpGo.eq_def]
def cmp (l:List UInt8):Except (Int×Int) (List Pl):=if 200<l.length then .error (2,0) else cmpGo l 0 [] [] []
def Frames (Q:List Pl):Nat→List PFr→Prop
 | _,[]=>True
 | lim,(o,bs)::r=>o<lim∧Q[o]?=some (4,0,[])∧bs.length≤Q.length∧(∀ b∈bs,o<b∧b<Q.length)∧Frames Q o r
theorem Frames.grow {Q Q':List Pl}:∀ {stk:List PFr} {lim lim':Nat},Frames Q lim stk→lim≤lim'→Q.length≤Q'.length→(∀ i,i<lim→Q[i]?=some (4,0,[])→Q'[i]?=some (4,0,[]))→Frames Q' lim' stk
 | [],_,_,_,_,_,_=>trivial
 | (o,bs)::r,lim,lim',⟨h1,h2,h3,h4,h5⟩,hl,hq,hk =>
  ⟨by omega,hk o h1 h2,by omega,fun b hb=>⟨(h4 b hb).1,by have:=(h4 b hb).2; omega⟩,h5.grow (Yd _) hq fun i hi=>hk i (by omega)⟩
theorem Frames.app {Q:List Pl} {stk:List PFr} (h:Frames Q Q.length stk) (x:Pl):Frames (Q ++ [x]) (Q ++ [x]).length stk :=
 h.grow (by simp) (by simp) fun i hi hq=>by rw [Ya hi]; exact hq
def mks (f:PFr):List Int:=(f.1::f.2).map fun (x:Nat)=>(x:Int)
def PatI (I:Im) (p:Addr) (Q:List Pl) (n:Nat):Prop:=∃ a c P,At I p [.slice a P.length c,I64 n]∧P.length≤c∧RS I a 3 P.length (P.flatMap enc)∧RelP I P Q
theorem PatI.mono {I J:Im} {p:Addr} {Q:List Pl} {n:Nat} (h:PatI I p Q n) (hl:Le I J):PatI J p Q n:=let ⟨a,c,P,h1,h2,h3,h4⟩:=h; ⟨a,c,P,h1.mono hl,h2,h3.mono hl,h4.mono hl⟩
end Pat
namespace Pat
open Gk
def iter {β:Type} (f:β→Nat→β) (b:β):Nat→β
 | 0=>b
 | k+1=>f (iter f b k) k
def Xdi (s p:List UInt8):Bool:=decide ((p.length:Int)≤(s.length:Int)) && (s.take (p.length:Int).toNat == p)
def Xbn:List UInt8→Int→List Int→Int×Int
 | [],_,o=>if 0<o.length then (23,o.getD (o.length - 1) 0) else (0,0)
 | c::r,i,o =>
  if c.toNat=40 then (if o.length=4 then (24,i) else Xbn r (i+1) (o ++ [i]))
  else if c.toNat=41 then (if o.length=0 then (10,i) else Xbn r (i+1) (o.take (o.length - 1)))
  else if c.toNat=124 then (if o.length=0 then (10,i) else Xbn r (i+1) o)
  else if c.toNat=92 then (match r with | []=>(10,i) | _::r'=>Xbn r' (i+2) o)
  else Xbn r (i+1) o
def chk (l:List UInt8):Int×Int:=if 200<l.length then (2,0) else Xbn l 0 []
end Pat
namespace Go.Proofs.YtokmddjcdfailaaGreatDoor
open Gk Pc Ul Pat
structure Known (I:Im):Prop where
 dig:DigAt I
 pow : ∀ (B w : World) (As : List Xe), Sat B w I As → Go.Lib.TabIs Tryz.prog w "internal/strconv.uint64pow10" .u64 Go.Lib.pow10Tab
 max:∀ (B w:World) (As:List Xe),Sat B w I As→∃ m,w.cell? ⟨1,0,none⟩=some (.int .i64 m)
theorem Known.mono {I J:Im} (h:Known I) (hl:Le I J):Known J :=
 have e:∀ (B w:World) (As:List Xe),Sat B w J As→Sat B w I As:=fun B w As ⟨g,h1,h2⟩=>⟨g,h1,h2.os,h2.tape,h2.output,fun b o hi=>h2.imm b o (hl b o hi),h2.own,h2.nodup,fun b o hm=>by
  cases hi:I b with
  | none=>rfl
  | some x=>have:=h2.apart b o hm; rw [hl b x hi] at this; cases this⟩
 ⟨h.dig.mono hl,fun B w As s=>h.pow B w As (e B w As s),fun B w As s=>h.max B w As (e B w As s)⟩
theorem X50 {B w:World} {I:Im} {As:List Xe} (hS:Sat B w I As) (n:Nat):Sat B (w.drewN n) I As:=hS.world rfl rfl rfl rfl
theorem Xfq {B w:World} {I:Im} {As:List Xe} (hS:Sat B w I As) (os:Array Obj):Sat B (Go.Sort.grow w os) I As :=
 hS.grown ⟨rfl,rfl,rfl,by simp [Go.Sort.grow],fun k hk=>by simp [Go.Sort.grow,Array.getElem?_append,hk]⟩
theorem Xa9 (n:Nat) (hn:n≤65535) (B w:World) (I:Im) (hK:Known I) (As:List Xe) (hS:Sat B w I As):Calls Tryz.prog 21 [I64 (n:Nat)].toArray w (Ret fun v w'=>v=S (Go.Lib.decDigits n)∧Sat B w' I As) :=
 (Tryz.strconv_Itoa n (by omega) (by omega) w (hK.pow B w As hS)).mono fun e w' he=>by
  obtain ⟨rfl,k,os,rfl⟩:=he
  refine ⟨_,rfl,?_,Xfq (X50 hS k) os⟩
  unfold Go.Lib.itoa
  rw [if_neg (by omega),Yh]
theorem Xbg (s:List UInt8) (c:UInt8) (hs:s.length≤1000000) (B w:World) (I:Im) (hK:Known I) (As:List Xe) (hS:Sat B w I As):Calls Tryz.prog 18 [S s,S [c]].toArray w (Ret fun v w'=>v=.tuple #[S (upto [c] s),S ((X1e [c] s).drop 1),.bool (!(X1e [c] s).isEmpty)]∧Sat B w' I As):=by
 obtain ⟨m,hm⟩:=hK.max B w As hS
 refine (Tryz.strings_Cut ⟨s.toArray⟩ ⟨[c].toArray⟩ m w (by show s.length<_; omega) hm).mono fun e w' he=>?_
 obtain ⟨rfl,n,rfl⟩:=he
 refine ⟨_,rfl,?_,X50 hS n⟩
 show Value.tuple #[S (Go.Lib.cut s [c]).1,S (Go.Lib.cut s [c]).2.1,.bool (Go.Lib.cut s [c]).2.2]=_
 rw [Xhy]
theorem X99 (n:Nat) (h:n≤65535):(Go.Lib.decDigits n).length≤5:=by
 rw [Go.Lib.decDigits_length]
 have step:∀ k m,m<10 ^ (k+1)→Go.Lib.nDigits m≤k+1:=by
  intro k
  induction k with
  | zero=>intro m hm; rw [Go.Lib.nDigits_small (by simpa using hm)]; exact Yd _
  | succ k ih =>
   intro m hm
   by_cases h10:m<10
   ·rw [Go.Lib.nDigits_small h10]; omega
   ·rw [Go.Lib.nDigits_big h10]
    have:=ih (m / 10) (by rw [Y2y] at hm; omega)
    omega
 exact step 4 n (by omega)
theorem X4q (a s:List UInt8):(upto a s).length≤s.length:=by
 have:=congrArg List.length (X27 a s)
 rw [Y2] at this; omega
end Go.Proofs.YtokmddjcdfailaaGreatDoor
namespace Ul
open Pc Gk
theorem Xgj {r t:List UInt8} {v:UInt8} (h:told r=some v):told (r ++ t)=some v:=by
 match r,h with
 | a::b::_,h=>exact h
 | [_],h=>simp [told] at h
 | [],h=>simp [told] at h
theorem Xg1:∀ (n:Nat) (a b a':List UInt8),a.length≤n→Xds a=some a'→Xds (a ++ b)=(Xds b).map (a' ++ ·):=by
 intro n
 induction n with
 | zero =>
  intro a b a' hn h
  have:=Yc (Nat.le_zero.1 hn)
  subst this
  rw [X7h] at h; injection h with h; subst h
  rw [Y1e]
  cases hb:Xds b <;> simp
 | succ n ih =>
  intro a b a' hn h
  cases a with
  | nil =>
   rw [X7h] at h; injection h with h; subst h
   cases hb:Xds b <;> simp [hb]
  | cons c r =>
   simp only [Y3] at hn
   rw [X5s] at h
   rw [Yr,X5s]
   by_cases hc:c=37
   ·rw [if_pos hc] at h ⊢
    cases ht:told r with
    | none=>rw [ht] at h; cases h
    | some v =>
     rw [ht] at h
     rw [Xgj ht]
     simp only at h ⊢
     have hl:=X3u ht
     obtain ⟨u,hu,rfl⟩:=Y13.1 h
     rw [Y31 hl,ih (r.drop 2) b u (by rw [Y6]; omega) hu,Y3u]
     congr 1
     funext x
     simp
   ·rw [if_neg hc] at h ⊢
    obtain ⟨u,hu,rfl⟩:=Y13.1 h
    rw [ih r b u (by omega) hu,Y3u]
    rfl
def Fix (s:List UInt8):Prop:=Xds s=some s
theorem Fix.nil:Fix []:=X7h
theorem Fix.app {a b:List UInt8} (h:Fix a) (k:Fix b):Fix (a ++ b):=by
 unfold Fix at *
 rw [Xg1 a.length a b a (Yd _) h,k]; rfl
theorem Fix.cons {c:UInt8} {b:List UInt8} (h:c≠37) (k:Fix b):Fix (c::b):=by
 unfold Fix at *
 rw [X5s,if_neg h,k]; rfl
def standQ (c:UInt8):Bool:=Xhc c && c != 63
structure Good (u:U):Prop where
 sch:u.sch=http∨u.sch=https
 host:hostOk u.host=true∧low u.host=u.host
 port:u.port≤65535∧u.port≠ownP u.sch
 path:dots u.path=u.path∧Fix u.path∧u.path.all standQ=true∧u.path.head?=some 47
 query:Fix u.query∧u.query.all Xhc=true∧(u.ask=false→u.query=[])
theorem X59 {ats s:List UInt8} {c:UInt8} (h:(X1e ats s).head?=some c):ats.contains c=true:=by
 unfold X1e at h
 have:=List.head?_dropWhile_not (fun c=>!ats.contains c) s
 rw [h] at this
 simpa using this
def enc (s:List UInt8):List UInt8:=s.flatMap one
theorem Xfi (c:UInt8) (s:List UInt8):enc (c::s)=one c ++ enc s:=rfl
theorem Xit (c:UInt8):1≤(one c).length∧(one c).length≤3:=by unfold one; split <;> simp [pctB]
theorem X9a:∀ (s:List UInt8),(enc s).length≤3*s.length
 | []=>Yd _
 | c::s=>by
  have:=X9a s
  have:=(Xit c).2
  rw [Xfi,Y2,Y3]; omega
def dB (p:Bool) (c:UInt8):UInt8:=if (p && c == 43)=true then 32 else c
def Xhz (p:Bool):Nat→List UInt8→Option (List UInt8)
 | 0,_=>some []
 | _+1,[]=>some []
 | f+1,c::r=>if c=37 then match told r with
   | none=>none
   | some v=>(Xhz p f (r.drop 2)).map (v::·)
  else (Xhz p f r).map (dB p c::·)
def dec (p:Bool) (s:List UInt8):Option (List UInt8):=Xhz p (s.length+1) s
theorem X4z (p:Bool):∀ (f g:Nat) (s:List UInt8),s.length<f→s.length<g→Xhz p f s=Xhz p g s
 | 0,_,_,h,_=>by omega
 | _+1,0,_,_,h=>by omega
 | f+1,g+1,[],_,_=>rfl
 | f+1,g+1,c::r,hf,hg=>by
  simp only [Xhz]
  split
  ·cases ht:told r with
   | none=>rfl
   | some v =>
    simp only
    have:=X3u ht
    simp only [Y3] at hf hg
    rw [X4z p f g (r.drop 2) (by rw [Y6]; omega) (by rw [Y6]; omega)]
  ·simp only [Y3] at hf hg
   rw [X4z p f g r (by omega) (by omega)]
theorem Xi1 (p:Bool):dec p []=some []:=rfl
theorem Xfc (p:Bool) (c:UInt8) (r:List UInt8):dec p (c::r)=if c=37 then match told r with
   | none=>none
   | some v=>(dec p (r.drop 2)).map (v::·)
  else (dec p r).map (dB p c::·):=by
 unfold dec
 simp only [Y3,Xhz]
 split
 ·cases ht:told r with
  | none=>rfl
  | some v =>
   simp only
   have:=X3u ht
   rw [X4z p (r.length+1) ((r.drop 2).length+1) (r.drop 2) (by rw [Y6]; omega) (by omega)]
 ·rfl
theorem X99 (p:Bool):∀ (s t:List UInt8),dec p s=some t→t.length≤s.length:=by
 intro s
 induction hn:s.length using Nat.strongRecOn generalizing s with
 | _ n ih =>
  intro t h
  cases s with
  | nil=>rw [Xi1] at h; injection h with h; subst h; simp
  | cons c r =>
   rw [Xfc] at h
   simp only [Y3] at hn
   split at h
   ·cases ht:told r with
    | none=>rw [ht] at h; cases h
    | some v =>
     rw [ht] at h
     simp only at h
     cases hr:dec p (r.drop 2) with
     | none=>rw [hr] at h; cases h
     | some u =>
      rw [hr] at h
      simp at h
      subst h
      have:=ih (r.drop 2).length (by rw [Y6]; omega) (r.drop 2) rfl u hr
      rw [Y6] at this
      simp only [Y3]
      omega
   ·cases hr:dec p r with
    | none=>rw [hr] at h; cases h
    | some u =>
     rw [hr] at h
     simp at h
     subst h
     have:=ih r.length (by omega) r rfl u hr
     simp only [Y3]
     omega
end Ul
namespace Xm
open Ul Pc Gk Pat
abbrev Px:=List UInt8×List UInt8
def MK:List Px:=[([38],[38,97,109,112,59]),([60],[38,108,116,59]),([62],[38,103,116,59]),([34],[38,113,117,111,116,59]),([39],[38,35,51,57,59])]
def em (c:UInt8):List UInt8:=if c=38 then [38,97,109,112,59] else if c=60 then [38,108,116,59] else if c=62 then [38,103,116,59] else if c=34 then [38,113,117,111,116,59] else if c=39 then [38,35,51,57,59] else [c]
def esc (s:List UInt8):List UInt8:=s.flatMap em
def markAt (t:List UInt8):Option Px:=MK.find? fun m=>Xdi t m.2
def unF:Nat→List UInt8→Option (List UInt8)
 | 0,_=>some []
 | _+1,[]=>some []
 | f+1,c::r=>if c=38 then match markAt (c::r) with
   | none=>none
   | some m=>(unF f (r.drop (m.2.length - 1))).map (m.1 ++ ·)
  else (unF f r).map (c::·)
inductive Nd where
 | mk (name:List UInt8) (attrs:List Px) (text:List UInt8) (kids:List Nd)
def Nd.name:Nd→List UInt8 | .mk n _ _ _=>n
def Nd.attrs:Nd→List Px | .mk _ a _ _=>a
def Nd.text:Nd→List UInt8 | .mk _ _ t _=>t
def Nd.kids:Nd→List Nd | .mk _ _ _ k=>k
theorem X9q {s p:List UInt8} (h:Xdi s p=true):p.length≤s.length:=by
 unfold Xdi at h
 simp only [Y5,decide_eq_true_eq] at h
 omega
end Xm
namespace Gk
open Go Go.RowKit Go.WideShapes Go.ChangeShapes
def im0 (W:World):Im:=fun b=>W.heap[b]?
theorem sat0 (W:World):Sat W W (im0 W) []:=⟨[],rfl,rfl,rfl,rfl,fun _ _ h=>h,fun _ _ h=>by simp at h,List.nodup_nil,fun _ _ h=>by simp at h⟩
theorem Sat.below {W w:World} {I:Im} {As:List Xe} (hS:Sat W w I As) (hl:Le (im0 W) I):Below W.heap.size W w:=by
 obtain ⟨h,_,g⟩:=hS
 have hb:∀ k,k<W.heap.size→w.heap[k]?=W.heap[k]?:=fun k hk=>by
  rw [Yj hk]
  exact g.imm k _ (hl k _ (Yj hk))
 refine ⟨g.os,g.tape,g.output,?_,hb⟩
 rcases Y3d W.heap.size with h0 | h0
 ·omega
 ·have h1:=hb (W.heap.size - 1) (by omega)
  rw [Yj (show W.heap.size - 1<W.heap.size by omega)] at h1
  have:=(Yg.1 h1).1
  omega
theorem Xe0 {H:Type} {enc:TypeId×Value→H} {P:Program} {f:Func} {s:ChangeSpec} {apart fresh handsOn:Bool} {W W':World} {args:Array Value} {v:Value} {ds gs:List (DataW H)} {before pa pv:List MemPlace}
  (hW:DataW.Whole enc P f.params.toList s.vars apart W args.toList ds gs before) (hb:Below W.heap.size W W')
  (hres:∀ (b:Nat) (sp:Nat→Bool) (hd:Bool),DataW.TrodAll enc P W' b sp hd f.resultTypes.toList (v.resultList f.resultTypes.size) (s.fn H (ds ++ gs)).results [])
  (hargs:DataW.TrodAll enc P W' 0 (fun b=>decide (b<W.heap.size)) true f.params.toList args.toList (s.fn H (ds ++ gs)).args pa)
  (hvars:DataW.TrodVars enc P W' (fun b=>decide (b<W.heap.size)) s.vars (s.fn H (ds ++ gs)).vars pv) (hps:before=pa ++ pv) :
  s.post enc P f apart fresh handsOn false W args v W':=by
 refine ⟨ds,gs,before,[],pa,pv,hW,hres _ _ _,hargs,hvars,World.keptBut_mono (fun p hp=>⟨hp,?_⟩) (hb.frame (·∈before)),fun h=>(by cases h)⟩
 rw [hps,Y1n] at hp
 exact Or.inr hp
theorem X3t {c:Nat}:∀ (L:List (List Value)),(∀ l∈L,l.length=c)→L.flatten.length=L.length*c
 | [],_=>by simp
 | a::L,h=>by
  rw [Y2f,Y2,X3t L (fun l hl=>h l (by simp [hl])),h a (by simp),Y3,Y3e,Y3c]
theorem X5x {c:Nat}:∀ (L:List (List Value)),(∀ l∈L,l.length=c)→∀ (i r:Nat),r<c→L.flatten[i*c+r]?=(L[i]?).bind (·[r]?)
 | [],_,i,r,_=>by simp
 | a::L,h,0,r,hr=>by
  have ha:=h a (by simp)
  rw [Y2f,Nat.zero_mul,Yq,Ya (by omega)]
  rfl
 | a::L,h,i+1,r,hr=>by
  have ha:=h a (by simp)
  rw [Y2f,Y3e,Yn (by omega),show i*c+c+r - a.length=i*c+r by omega,X5x L (fun l hl=>h l (by simp [hl])) i r hr]
  rfl
section
variable {H:Type} {enc:TypeId×Value→H} {P:Program} {W:World} {spare:Nat→Bool} {held:Bool}
theorem X82 {base n:Nat} {a:Addr} {vs:List Value} (h:W.cells? base a n=some vs):vs.length=n∧∀ i,i<n→W.cell? (a.add i)=vs[i]?:=by
 unfold World.cells? at h
 split at h
 ·have hl:=Go.Lib.mapM_length h
  rw [List.length_range] at hl
  refine ⟨hl,fun i hi=>?_⟩
  obtain ⟨b,h1,h2⟩:=Go.Lib.mapM_at h i i (List.getElem?_range hi)
  rw [h1,h2]
 ·cases h
theorem Xae {a:Addr} {xs:List Value} (hn:0<xs.length) (h:∀ j v,xs[j]?=some v→W.cell? (a.add j)=some v):At (im0 W) a xs:=by
 obtain ⟨ab,ao,sp⟩:=a
 have h0:=h 0 xs[0] (Yb hn)
 have hs:sp=none:=by simpa [Addr.add] using World.cell?_spot h0
 subst hs
 have e:∀ j,(⟨ab,ao,none⟩:Addr).add j=⟨ab,ao+j,none⟩:=Xo ab ao
 rw [e] at h0
 unfold World.cell? at h0
 split at h0
 ·rename_i arr E fr hb
  refine ⟨rfl,arr,E,fr,hb,fun j v hj=>?_⟩
  have hc2:=h j v hj
  rw [e] at hc2
  unfold World.cell? at hc2
  dsimp only at hb
  rw [hb] at hc2
  simpa using hc2
 ·cases h0
theorem Xdx {t e c fuel:Nat} {cs:List Value} {x:DataW H×List MemPlace} (ht:P.underlying t=some (.slice e)) (hc:P.cellsOf e=c) (hc0:0<c) (h:DataW.trod enc P W 0 spare held fuel t cs=some x) :
  ∃ (a:Option Addr) (cap:Nat) (L:List (List Value)) (n:Nat),cs=[.slice a L.length cap]∧L.length≤cap∧cap≤maxLen∧(∀ l∈L,l.length=c)∧RS (im0 W) a c L.length L.flatten∧∀ l∈L,∃ y,DataW.trod enc P W 0 spare held n e l=some y:=by
 rcases DataW.trod_slice ht h with ⟨rfl,_⟩ | ⟨a,len,cap,elems,rest,n,_,rfl,_,_,hl,hm,hlen,hel,_,_⟩
 ·exact ⟨none,0,[],0,rfl,Yd _,Y14 _,fun _ h=>by simp at h,RS.nil _ _,fun _ h=>by simp at h⟩
 ·rw [hc] at hel
  have each:∀ i,i<len→∃ l,W.cells? 0 (a.add (i*c)) c=some l∧∃ y,DataW.trod enc P W 0 spare held n e l=some y:=fun i hi=>by
   have h1:=hel i hi
   rw [Yb (by omega)] at h1
   obtain ⟨l,h2,h3⟩:=Y1v.1 h1
   exact ⟨l,h2,_,h3⟩
  let L:=(List.range len).map fun i=>(W.cells? 0 (a.add (i*c)) c).getD []
  have hL:∀ i,i<len→∃ l,L[i]?=some l∧W.cells? 0 (a.add (i*c)) c=some l∧∃ y,DataW.trod enc P W 0 spare held n e l=some y:=fun i hi=>by
   obtain ⟨l,h1,h2⟩:=each i hi
   refine ⟨l,?_,h1,h2⟩
   simp only [L,Yk,List.getElem?_range hi,Y1a,h1,Y25]
  have hLl:L.length=len:=by simp [L]
  have hmem:∀ l∈L,∃ i,i<len∧L[i]?=some l:=fun l hl=>by
   obtain ⟨i,hi⟩:=List.mem_iff_getElem?.1 hl
   exact ⟨i,by have:=(Y0.1 hi).1; omega,hi⟩
  have hlc:∀ l∈L,l.length=c:=fun l hl=>by
   obtain ⟨i,hi,e1⟩:=hmem l hl
   obtain ⟨l',e2,h2,_⟩:=hL i hi
   rw [e1] at e2; cases e2
   exact (X82 h2).1
  refine ⟨some a,cap,L,n,by rw [hLl],by rw [hLl]; exact hl,hm,hlc,⟨X3t L hlc,fun hn=>⟨a,rfl,Xae ?_ fun j v hj=>?_⟩⟩,fun l hl=>?_⟩
  ·rw [X3t L hlc]; exact Nat.mul_pos hn hc0
  ·have hjl:j<L.length*c:=by rw [← X3t L hlc]; exact (Y0.1 hj).1
   have hq:j / c<len:=by rw [← hLl]; exact Nat.div_lt_of_lt_mul (by rw [Nat.mul_comm]; exact hjl)
   have hr:j % c<c:=Nat.mod_lt _ hc0
   have ej:j=j / c*c+j % c:=by rw [Nat.mul_comm]; exact (Nat.div_add_mod j c).symm
   obtain ⟨l,e1,e2,_⟩:=hL (j / c) hq
   rw [ej,X5x L hlc _ _ hr,e1] at hj
   have:=(X82 e2).2 (j % c) hr
   rw [ej,show a.add (j / c*c+j % c)=(a.add (j / c*c)).add (j % c) by rw [Addr.add_add]]
   rw [this]; exact hj
  ·obtain ⟨i,hi,e1⟩:=hmem l hl
   obtain ⟨l',e2,_,y⟩:=hL i hi
   rw [e1] at e2; cases e2
   exact y
end
end Gk
namespace Gk
open Go
def X8r {α:Type} (cells:α→List Value) (l:List α):List Value:=(l.map cells).flatten
theorem Xea {α:Type} {cells:α→List Value} {s:Nat} (hc:∀ x,(cells x).length=s) {l:List α} {i j:Nat} {r:α} {v:Value} (hr:l[i]?=some r) (hj:(cells r)[j]?=some v):(X8r cells l)[i*s+j]?=some v:=by
 have hjs:j<s:=by rw [← hc r]; exact (Y0.1 hj).1
 have h2:=X5x (l.map cells) (fun c h=>by obtain ⟨x,_,rfl⟩:=Y3b.1 h; exact hc x) i j hjs
 rw [Yk,hr] at h2
 exact h2.trans hj
def Xho {α:Type} (w:World) (cells:α→List Value) (s:Nat) (a:Option Addr) (l:List α):Prop:=∀ (i:Nat) (r:α),l[i]?=some r→∃ p,a=some p∧∀ (j:Nat) v,(cells r)[j]?=some v→w.cell? ((p.add (i*s)).add j)=some v
section
variable {P:Program} {n:Nat} {K:X1u} {L:Env} {w B:World} {ops:Array Oper} {rest:List Oper} {I:Im} {As:List Xe} {k:Nat} {ty t t' E:TypeId} {x y:Operand} {pos:String} {af:Array Edge} {g:Option (Nat×Bool)} {v:Value}
theorem X4o {α:Type} {cells:α→List Value} {s T cap:Nat} {a:Option Addr} {l:List α} (hc:∀ x,(cells x).length=s) (hS:Sat B w I As) (hk:As[k]?=some (Vec T s (.slice a l.length cap) l.length (X8r cells l))):Xho w cells s a l:=fun i r hr=>by
 have hi:=(Y0.1 hr).1
 obtain ⟨g,cap',rest,hv,_,_,_,_,hS2⟩:=hS.vecOpen hk (by omega)
 injection hv with hv1 hv2 hv3
 have hlk:k<As.length:=(Y0.1 hk).1
 have hb:w.heap[g]?=some (Xh (X8r cells l ++ rest) T):=hS2.block (k:=k) (by simp [hlk,blk])
 refine ⟨⟨g,0,none⟩,hv1,fun j v hj=>?_⟩
 rw [Addr.add_add,show (⟨g,0,none⟩:Addr).add (i*s+j)=ad g (0+(i*s+j)) from Xo g 0 _,Yq]
 refine X29 hb ?_
 have h3:=Xea hc hr hj
 rw [Ya (Y0.1 h3).1]
 exact h3
theorem Ex.ld1 {d:Option Nat} {p:Addr} {v:Value} (hx:Ev n L x (.pointer (some p))) (hv:w.cell? p=some v) (ht:∀ w,(isAgg t).run P w=.ok false w):Ex P n L w ⟨d,.load t x,ty,pos,af,g⟩ v w:=fun a hh=>by
 simp [execOp,hx a hh,Instr.loadAt,Instr.sureAddr,loadVar,ht,load,Sem.run,hv]
end
end Gk
namespace Tk
open Pc Gk Ul
def pre:Nat→List UInt8
 | 1=>[84,71,84]
 | 2=>[83,84]
 | 3=>[80,84]
 | 4=>[80,71,84]
 | 5=>[80,71,84,73,79,85]
 | 6=>[76,84]
 | _=>[]
def hx (c:UInt8):Option Nat:=if 48≤c && c≤57 then some (c.toNat - 48) else if 97≤c && c≤102 then some (c.toNat - 87) else none
def hxS (n:Nat):List UInt8→Option Nat
 | []=>some n
 | c::r=>match hx c with
  | some d=>hxS (16*n+d) r
  | none=>none
def X2j (s:List UInt8):Option Nat:=if s.length=16 then hxS 0 s else none
def X1s (p:List UInt8):Nat:=if p=pre 1 then 1 else if p=pre 2 then 2 else if p=pre 3 then 3 else if p=pre 4 then 4 else if p=pre 5 then 5 else if p=pre 6 then 6 else 0
def X8 (s:List UInt8):Option (Nat×Nat) :=
 if X1s (upto [45] s)=0 then none else (X2j ((X1e [45] s).drop 1)).map fun d=>(X1s (upto [45] s),d)
theorem hx_lt {c:UInt8} {d:Nat} (h:hx c=some d):d<16:=by
 have:=X7x (p:=fun c=>match hx c with | some d=>decide (d<16) | none=>true) (by decide +kernel) c
 rw [h] at this
 simpa using this
theorem Xgw:∀ (s:List UInt8) (n m k:Nat),n<16 ^ k→hxS n s=some m→m<16 ^ (k+s.length)
 | [],n,m,k,hn,h=>by
  simp only [hxS,Option.some.injEq] at h
  subst h; exact hn
 | c::r,n,m,k,hn,h=>by
  rw [hxS] at h
  cases hc:hx c with
  | none=>rw [hc] at h; cases h
  | some d =>
   rw [hc] at h
   have hd:=hx_lt hc
   have:=Xgw r (16*n+d) m (k+1) (by rw [Y2y]; omega) h
   rw [Y3,show k+(r.length+1)=k+1+r.length by omega]; exact this
theorem Xi2 {s:List UInt8} {d:Nat} (h:X2j s=some d):d<18446744073709551616:=by
 unfold X2j at h
 split at h
 ·rename_i hl
  have:=Xgw s 0 d 0 (by decide) h
  rw [hl] at this
  exact this
 ·cases h
theorem X9g:∀ (s t:List UInt8) (n:Nat),hxS n (s ++ t)=(hxS n s).bind fun m=>hxS m t
 | [],_,_=>rfl
 | c::r,t,n=>by
  rw [Yr,hxS,hxS]
  cases hx c with
  | none=>rfl
  | some d=>exact X9g r t _
theorem X7k {k:Nat}:∀ c∈pre k,c≠45:=by
 intro c hc e
 subst e
 match k,hc with
 | 0,h=>simp [pre] at h
 | 1,h=>simp [pre] at h
 | 2,h=>simp [pre] at h
 | 3,h=>simp [pre] at h
 | 4,h=>simp [pre] at h
 | 5,h=>simp [pre] at h
 | 6,h=>simp [pre] at h
 | k+7,h=>simp [pre] at h
theorem X79 {p r:List UInt8} (h:∀ c∈p,c≠45):upto [45] (p ++ 45::r)=p∧X1e [45] (p ++ 45::r)=45::r:=by
 induction p with
 | nil=>simp [upto,X1e]
 | cons c p ih =>
  have h1:c≠45:=h c (by simp)
  obtain ⟨h2,h3⟩:=ih (fun x hx=>h x (by simp [hx]))
  simp only [upto,X1e] at h2 h3 ⊢
  rw [Yr,Y36,Y2l]
  have:(!([45]:List UInt8).contains c)=true:=by simp [h1]
  rw [if_pos this,if_pos this]
  exact ⟨congrArg (c::·) h2,h3⟩
theorem Xfu {k:Nat} (h1:1≤k) (h2:k≤6):X1s (pre k)=k:=by
 have:=(by decide:∀ k:Fin 7,1≤k.val→X1s (pre k.val)=k.val) ⟨k,by omega⟩ h1
 exact this
theorem Xii (p:List UInt8):X1s p≤6:=by
 unfold X1s
 by_cases h1:p=pre 1
 ·rw [if_pos h1]; decide
 by_cases h2:p=pre 2
 ·rw [if_neg h1,if_pos h2]; decide
 by_cases h3:p=pre 3
 ·rw [if_neg h1,if_neg h2,if_pos h3]; decide
 by_cases h4:p=pre 4
 ·rw [if_neg h1,if_neg h2,if_neg h3,if_pos h4]; decide
 by_cases h5:p=pre 5
 ·rw [if_neg h1,if_neg h2,if_neg h3,if_neg h4,if_pos h5]; decide
 by_cases h6:p=pre 6
 ·rw [if_neg h1,if_neg h2,if_neg h3,if_neg h4,if_neg h5,if_pos h6]; decide
 ·rw [if_neg h1,if_neg h2,if_neg h3,if_neg h4,if_neg h5,if_neg h6]; decide
theorem X9h {p:List UInt8} (h:X1s p≠0):p=pre (X1s p):=by
 unfold X1s at h ⊢
 by_cases h1:p=pre 1
 ·rw [if_pos h1]; exact h1
 by_cases h2:p=pre 2
 ·rw [if_neg h1,if_pos h2]; exact h2
 by_cases h3:p=pre 3
 ·rw [if_neg h1,if_neg h2,if_pos h3]; exact h3
 by_cases h4:p=pre 4
 ·rw [if_neg h1,if_neg h2,if_neg h3,if_pos h4]; exact h4
 by_cases h5:p=pre 5
 ·rw [if_neg h1,if_neg h2,if_neg h3,if_neg h4,if_pos h5]; exact h5
 by_cases h6:p=pre 6
 ·rw [if_neg h1,if_neg h2,if_neg h3,if_neg h4,if_neg h5,if_pos h6]; exact h6
 ·rw [if_neg h1,if_neg h2,if_neg h3,if_neg h4,if_neg h5,if_neg h6] at h; exact absurd rfl h
theorem X33 {s:List UInt8} {k d:Nat} (h:X8 s=some (k,d)):1≤k∧k≤6∧d<18446744073709551616∧s.length≤23∧s≠[]:=by
 unfold X8 at h
 split at h
 ·cases h
 ·rename_i hk
  obtain ⟨x,hx,e⟩:=Y13.1 h
  simp only [Prod.mk.injEq] at e
  obtain ⟨rfl,rfl⟩:=e
  have hl:=Xii (upto [45] s)
  refine ⟨by omega,hl,Xi2 hx,?_,fun e=>by subst e; exact hk rfl⟩
  unfold X2j at hx
  split at hx
  ·rename_i h16
   have h3:=X3v [45] s
   have h4:(upto [45] s).length≤6:=by
    rw [X9h hk]
    have:=(by decide:∀ k:Fin 7,(pre k.val).length≤6) ⟨X1s (upto [45] s),by omega⟩
    exact this
   rw [Y6] at h16
   omega
  ·cases hx
end Tk
namespace Tr
open Tk
structure Rec where
 kind:Int
 name:List UInt8
 parent:List UInt8
 user:List UInt8
 service:List UInt8
 url:List UInt8
 made:Int
 used:Int
 uses:Int
 fresh:Bool
 deriving DecidableEq
def r0:Rec:=⟨0,[],[],[],[],[],0,0,0,false⟩
def comes (kind of:Int):Bool:=(kind == 1 && of == 0) || (kind == 6 && of == 0) || (kind == 2 && of == 1) || (kind == 3 && of == 4) || (kind == 4 && of == 2) || (kind == 4 && of == 3) || (kind == 5 && of == 4)
def Xg5 (kind:Int) (name:List UInt8):Bool:=if name=[] then comes kind 0 else match X8 name with
 | some (of,_)=>comes kind (of:Nat)
 | none=>false
def isT (s:List UInt8) (kind:Int):Bool:=match X8 s with
 | some (k,_)=>((k:Nat):Int) == kind
 | none=>false
def X2u (r:Rec):Bool :=
 (decide ((r.user.length:Int)≤32) && decide ((r.service.length:Int)≤100) && decide ((r.url.length:Int)≤100)) && (decide (0≤r.made) && decide (r.made≤r.used) && decide (r.used≤1099511627776) && decide (0≤r.uses) && decide (r.uses≤255)) && isT r.name r.kind && Xg5 r.kind r.parent
def atN (name:List UInt8):List Rec→Nat→Int
 | [],_=>-1
 | r::l,i=>if r.name=name then (i:Int) else atN name l (i+1)
def at0 (l:List Rec) (name:List UInt8):Int:=atN name l 0
theorem Xad (name:List UInt8):∀ (l:List Rec) (i:Nat),(atN name l i=-1∧∀ r∈l,r.name≠name)∨∃ (j:Nat) (r:Rec),atN name l i=((i+j:Nat):Int)∧l[j]?=some r∧r.name=name∧∀ (q:Nat) (t:Rec),q<j→l[q]?=some t→t.name≠name
 | [],_=>.inl ⟨rfl,fun r h=>by simp at h⟩
 | a::l,i=>by
  rw [atN]
  by_cases h:a.name=name
  ·rw [if_pos h]
   exact .inr ⟨0,a,rfl,rfl,h,fun q t hq=>absurd hq (by omega)⟩
  ·rw [if_neg h]
   rcases Xad name l (i+1) with ⟨h1,h2⟩ | ⟨j,r,h1,h2,h3,h4⟩
   ·refine .inl ⟨h1,fun r hr=>?_⟩
    rcases Y19.1 hr with e | e
    ·subst e; exact h
    ·exact h2 r e
   ·refine .inr ⟨j+1,r,by rw [h1]; congr 1; omega,h2,h3,fun q t hq ht=>?_⟩
    cases q with
    | zero=>simp at ht; subst ht; exact h
    | succ q=>exact h4 q t (by omega) (by simpa using ht)
theorem X28 (l:List Rec) (name:List UInt8):(at0 l name=-1∧∀ r∈l,r.name≠name)∨∃ (j:Nat) (r:Rec),at0 l name=(j:Int)∧l[j]?=some r∧r.name=name∧∀ (q:Nat) (t:Rec),q<j→l[q]?=some t→t.name≠name:=by
 rcases Xad name l 0 with h | ⟨j,r,h1,h2⟩
 ·exact .inl h
 ·exact .inr ⟨j,r,by rw [at0,h1,Yq],h2⟩
theorem Xhs (l:List Rec) (name:List UInt8):at0 l name<l.length:=by
 rcases X28 l name with ⟨h,_⟩ | ⟨j,r,h,hr,_⟩
 ·rw [h]; omega
 ·have:=(Y0.1 hr).1
  rw [h]; omega
theorem at_ge (l:List Rec) (name:List UInt8):-1≤at0 l name:=by
 rcases X28 l name with ⟨h,_⟩ | ⟨j,r,h,_⟩ <;> rw [h] <;> omega
def get (l:List Rec) (name:List UInt8):Option Rec:=l.find? fun r=>decide (r.name=name)
theorem get_at (l:List Rec) (name:List UInt8):(at0 l name=-1∧get l name=none)∨∃ (j:Nat) (r:Rec),at0 l name=(j:Int)∧l[j]?=some r∧r.name=name∧get l name=some r:=by
 rcases X28 l name with ⟨h1,h2⟩ | ⟨j,r,h1,h2,h3,h4⟩
 ·refine .inl ⟨h1,?_⟩
  unfold get
  rw [List.find?_eq_none]
  intro r hr
  simpa using h2 r hr
 ·refine .inr ⟨j,r,h1,h2,h3,?_⟩
  unfold get
  have:∀ (l:List Rec) (j:Nat),l[j]?=some r→(∀ (q:Nat) (t:Rec),q<j→l[q]?=some t→t.name≠name)→l.find? (fun r=>decide (r.name=name))=some r:=by
   intro l
   induction l with
   | nil=>intro j h; simp at h
   | cons a l ih =>
    intro j h hno
    rw [List.find?_cons]
    cases j with
    | zero=>simp at h; subst h; rw [decide_eq_true h3]
    | succ j =>
     rw [decide_eq_false (hno 0 a (by omega) rfl)]
     exact ih j (by simpa using h) (fun q t hq ht=>hno (q+1) t (by omega) (by simpa using ht))
  exact this l j h2 h4
def addE (room:Int) (l:List Rec) (r:Rec):Nat:=if X2u r=false then 1 else if 0≤at0 l r.name then 7 else if r.parent≠[]∧at0 l r.parent<0 then 6 else if room≤l.length then 5 else 0
def add (room:Int) (l:List Rec) (r:Rec):List Rec:=if addE room l r=0 then l ++ [r] else l
def putE (l:List Rec) (r:Rec):Nat:=if X2u r=false then 1 else match get l r.name with
 | none=>6
 | some t=>if t.parent≠r.parent then 8 else 0
def put (l:List Rec) (r:Rec):List Rec:=if putE l r=0 then l.set (at0 l r.name).toNat r else l
structure Wf (l:List Rec):Prop where
 right:∀ r∈l,X2u r=true
 one:∀ (i j:Nat) (r s:Rec),l[i]?=some r→l[j]?=some s→r.name=s.name→i=j
 up:∀ (i:Nat) (r:Rec),l[i]?=some r→(r.parent=[]∨0≤at0 l r.parent)∧at0 l r.parent<i
theorem Wf.nil:Wf []:=⟨fun r h=>by simp at h,fun i j r s h=>by simp at h,fun i r h=>by simp at h⟩
theorem Wf.at_ {l:List Rec} (h:Wf l) {i:Nat} {r:Rec} (hr:l[i]?=some r):at0 l r.name=(i:Int):=by
 rcases X28 l r.name with ⟨_,h2⟩ | ⟨j,t,h1,h2,h3,_⟩
 ·exact absurd rfl (h2 r (Yw hr))
 ·rw [h1,h.one j i t r h2 hr h3]
theorem X47 {r:Rec} (h:X2u r=true):r.name≠[]:=by
 intro e
 unfold X2u at h
 simp only [Y5] at h
 have h1:=h.1.2
 unfold isT at h1
 rw [e] at h1
 cases hp:X8 [] with
 | none=>rw [hp] at h1; cases h1
 | some x=>exact (X33 (k:=x.1) (d:=x.2) hp).2.2.2.2 rfl
theorem Xcj (name:List UInt8):∀ (l m:List Rec) (i:Nat),atN name (l ++ m) i=if atN name l i=-1 then atN name m (i+l.length) else atN name l i
 | [],m,i=>by simp [atN]
 | a::l,m,i=>by
  rw [Yr,atN,atN]
  split
  ·rw [if_neg (by omega)]
  ·rw [Xcj name l m (i+1),Y3,show i+1+l.length=i+(l.length+1) by omega]
theorem Xht (l:List Rec) (r:Rec) (name:List UInt8):at0 (l ++ [r]) name=if at0 l name=-1 then (if r.name=name then (l.length:Int) else -1) else at0 l name:=by
 unfold at0
 rw [Xcj]
 simp [atN]
theorem X4k {l:List Rec} {r:Rec} {i:Nat} {t:Rec} (h:(l ++ [r])[i]?=some t):l[i]?=some t∨(i=l.length∧t=r):=by
 rcases Y1c i l.length with h1 | h1
 ·rw [Ya h1] at h; exact .inl h
 ·rw [Yn h1] at h
  have h2:=(Y0.1 h).1
  simp at h2
  have h3:i=l.length:=by omega
  subst h3
  simp at h
  exact .inr ⟨rfl,h.symm⟩
theorem add_ok {room:Int} {l:List Rec} {r:Rec} (h:addE room l r=0):X2u r=true∧at0 l r.name=-1∧(r.parent=[]∨0≤at0 l r.parent)∧(l.length:Int)<room:=by
 unfold addE at h
 split at h
 ·cases h
 ·rename_i h1
  split at h
  ·cases h
  ·rename_i h2
   split at h
   ·cases h
   ·rename_i h3
    split at h
    ·cases h
    ·refine ⟨by simpa using h1,by have:=at_ge l r.name; omega,?_,by omega⟩
     by_cases e:r.parent=[]
     ·exact .inl e
     ·refine .inr ?_
      have:¬ at0 l r.parent<0:=fun h4=>h3 ⟨e,h4⟩
      omega
theorem Wf.snoc {l:List Rec} (h:Wf l) {r:Rec} (hr:X2u r=true) (hm1:at0 l r.name=-1) (hp:r.parent=[]∨0≤at0 l r.parent):Wf (l ++ [r]):=by
 have hno:∀ t∈l,t.name≠r.name:=by
  rcases X28 l r.name with ⟨_,h4⟩ | ⟨j,t,h4,_⟩
  ·exact h4
  ·rw [h4] at hm1; omega
 have hnil:∀ l:List Rec,(∀ r∈l,X2u r=true)→at0 l []=-1:=fun l hl=>by
  rcases X28 l [] with ⟨h4,_⟩ | ⟨j,t,_,ht,he,_⟩
  ·exact h4
  ·exact absurd he (X47 (hl t (Yw ht)))
 refine ⟨fun t ht=>?_,fun i j s t hi hj he=>?_,fun i t hi=>?_⟩
 ·rcases Y1n.1 ht with e | e
  ·exact h.right t e
  ·simp at e; subst e; exact hr
 ·rcases X4k hi with hi1 | ⟨hi1,hi2⟩
  ·rcases X4k hj with hj1 | ⟨hj1,hj2⟩
   ·exact h.one i j s t hi1 hj1 he
   ·rw [hj2] at he; exact absurd he (hno s (Yw hi1))
  ·rcases X4k hj with hj1 | ⟨hj1,hj2⟩
   ·rw [hi2] at he; exact absurd he.symm (hno t (Yw hj1))
   ·omega
 ·have key:∀ (t:Rec),(t.parent=[]∨0≤at0 l t.parent)→at0 (l ++ [r]) t.parent=at0 l t.parent:=fun t ht=>by
   rw [Xht]
   rcases ht with e | e
   ·rw [e,hnil l h.right,if_pos rfl,if_neg (X47 hr)]
   ·rw [if_neg (by omega)]
  rcases X4k hi with hi1 | ⟨hi1,hi2⟩
  ·obtain ⟨h1,h2⟩:=h.up i t hi1
   rw [key t h1]; exact ⟨h1,h2⟩
  ·subst hi1; subst hi2
   rw [key t hp]; exact ⟨hp,Xhs l t.parent⟩
theorem Wf.add {l:List Rec} (h:Wf l) {room:Int} {r:Rec}:Wf (add room l r):=by
 unfold Tr.add
 split
 ·rename_i he
  obtain ⟨h1,h2,h3,_⟩:=add_ok he
  exact h.snoc h1 h2 h3
 ·exact h
theorem Xck (name:List UInt8) {r:Rec}:∀ (l:List Rec) (k i:Nat) (t:Rec),l[k]?=some t→t.name=r.name→atN name (l.set k r) i=atN name l i
 | [],k,i,t,h,_=>by simp at h
 | a::l,0,i,t,h,he=>by
  simp at h; subst h
  rw [List.set_cons_zero,atN,atN,he]
 | a::l,k+1,i,t,h,he=>by
  rw [List.set_cons_succ,atN,atN,Xck name l k (i+1) t (by simpa using h) he]
theorem put_ok {l:List Rec} {r:Rec} (h:putE l r=0):X2u r=true∧∃ (j:Nat) (t:Rec),at0 l r.name=(j:Int)∧l[j]?=some t∧t.name=r.name∧t.parent=r.parent∧get l r.name=some t:=by
 unfold putE at h
 split at h
 ·cases h
 ·rename_i h1
  refine ⟨by simpa using h1,?_⟩
  rcases get_at l r.name with ⟨_,h2⟩ | ⟨j,t,h2,h3,h4,h5⟩
  ·rw [h2] at h; cases h
  ·rw [h5] at h
   simp only at h
   split at h
   ·cases h
   ·rename_i h6
    exact ⟨j,t,h2,h3,h4,by simpa using h6,h5⟩
theorem Wf.set {l:List Rec} (h:Wf l) {j:Nat} {t r:Rec} (ht:l[j]?=some t) (hn:t.name=r.name) (hp:t.parent=r.parent) (hr:X2u r=true):Wf (l.set j r):=by
 have hj:=(Y0.1 ht).1
 have e:∀ name,at0 (l.set j r) name=at0 l name:=fun name=>Xck name l j 0 t ht hn
 have g:∀ (i:Nat) (s:Rec),(l.set j r)[i]?=some s→∃ u,l[i]?=some u∧u.name=s.name∧u.parent=s.parent:=fun i s hs=>by
  rw [Y1f] at hs
  split at hs
  ·rename_i hij
   subst hij
   cases hs
   exact ⟨t,ht,hn,hp⟩
  ·exact ⟨s,hs,rfl,rfl⟩
 refine ⟨fun s hs=>?_,fun i k s u hi hk he=>?_,fun i s hi=>?_⟩
 ·rcases List.mem_or_eq_of_mem_set hs with h1 | h1
  ·exact h.right s h1
  ·subst h1; exact hr
 ·obtain ⟨s',h1,h2,_⟩:=g i s hi
  obtain ⟨u',h3,h4,_⟩:=g k u hk
  exact h.one i k s' u' h1 h3 (by rw [h2,h4,he])
 ·obtain ⟨s',h1,_,h2⟩:=g i s hi
  rw [e,← h2]
  exact h.up i s' h1
theorem Wf.put {l:List Rec} (h:Wf l) {r:Rec}:Wf (put l r):=by
 unfold Tr.put
 split
 ·rename_i he
  obtain ⟨h1,j,t,h2,h3,h4,h5,_⟩:=put_ok he
  rw [h2,Yh]
  exact h.set h3 h4 h5 h1
 ·exact h
def pathF (l:List Rec):Nat→Int→List Rec
 | 0,_=>[]
 | f+1,i=>if i<0 then [] else match l[i.toNat]? with
  | some r=>r::pathF l f (at0 l r.parent)
  | none=>[]
def pathI (l:List Rec) (i:Int):List Rec:=pathF l (i.toNat+1) i
def path (l:List Rec) (name:List UInt8):List Rec:=pathI l (at0 l name)
def Xih (l:List Rec) (name:List UInt8):List Rec:=l.filter fun r=>decide (name≠[]) && decide (r.parent=name)
def kids (l:List Rec) (name:List UInt8):List (List UInt8):=(Xih l name).map Rec.name
def X2p (l:List Rec):Nat→List UInt8→List (List UInt8)
 | 0,_=>[]
 | f+1,name=>name::(kids l name).flatMap (X2p l f)
def below (l:List Rec) (name:List UInt8):List (List UInt8):=if 0≤at0 l name then X2p l l.length name else []
def drop (l:List Rec) (name:List UInt8):List Rec:=l.filter fun r=>!(below l name).contains r.name
def getD (l:List Rec) (name:List UInt8):Rec:=(get l name).getD r0
end Tr
namespace Go.Proofs.YtokmddjcdfailaaGreatDoor
open Gk Ul Pc Pat Xm Tr
def Xj1 (p:Px):List Value:=[S p.1,S p.2]
def MKC:List Value:=X8r Xj1 MK
structure Kx (I:Im):Prop where
 mks:At I (ad 7 0) MKC
 pow : ∀ (B w : World) (As : List Xe), Sat B w I As → Go.Lib.TabIs Tryz.prog w "internal/strconv.uint64pow10" .u64 Go.Lib.pow10Tab
 max:∀ (B w:World) (As:List Xe),Sat B w I As→∃ m,w.cell? ⟨1,0,none⟩=some (.int .i64 m)
theorem Xh9 {B w:World} {I J:Im} {As:List Xe} (hl:Le I J):Sat B w J As→Sat B w I As:=fun ⟨g,h1,h2⟩=>⟨g,h1,h2.os,h2.tape,h2.output,fun b o hi=>h2.imm b o (hl b o hi),h2.own,h2.nodup,fun b o hm=>by
  cases hi:I b with
  | none=>rfl
  | some x=>have:=h2.apart b o hm; rw [hl b x hi] at this; cases this⟩
theorem Kx.mono {I J:Im} (h:Kx I) (hl:Le I J):Kx J :=
 ⟨h.mks.mono hl,fun B w As s=>h.pow B w As (Xh9 hl s),fun B w As s=>h.max B w As (Xh9 hl s)⟩
end Go.Proofs.YtokmddjcdfailaaGreatDoor
namespace Go.Proofs.YtokmddjcdfailaaGreatDoor
open Gk Ul Pc Tk Tr
def PREV:List (List UInt8):=[[],pre 1,pre 2,pre 3,pre 4,pre 5,pre 6]
def PreAt (I:Im):Prop:=At I (ad 0 0) (PREV.map S)
theorem PreAt.mono {I J:Im} (h:PreAt I) (hl:Le I J):PreAt J:=At.mono h hl
theorem Xiy {k:Nat} (h:k<7):(((PREV.map S).drop (k*1)))[0]?=some (S (pre k)):=by
 match k,h with
 | 0,_=>rfl
 | 1,_=>rfl
 | 2,_=>rfl
 | 3,_=>rfl
 | 4,_=>rfl
 | 5,_=>rfl
 | 6,_=>rfl
def X8o (k:Int):List UInt8:=if k<1∨6<k then [] else pre k.toNat
theorem Ex.slcArr {P:Program} {n:Nat} {L:Env} {w:World} {d:Option Nat} {ty:TypeId} {pos:String} {af:Array Edge} {gg:Option (Nat×Bool)} {t e:TypeId} {x:Operand} {p:Addr} {m s:Nat} (hx:Ev n L x (.pointer (some p))) (ht:P.underlying t=some (.array m e)) (hs:∀ w,(Go.sizeOf e).run P w=.ok s w) :
  Ex P n L w ⟨d,.slice t x none none none,ty,pos,af,gg⟩ (.slice (some (if m=0 then p else p.add (0*s))) (m - 0) (m - 0)) w:=fun a ha=>by
 obtain ⟨e1,e2⟩:=X3m ht
 have h:=run_sliceAt_array_all (P:=P) w t p (by rw [e1,e2]; exact ht)
 rw [e1,e2,hs] at h
 simp [execOp,hx a ha,h,slicedAt]
def X8f (p:List UInt8):List (List UInt8)→Nat→Int
 | [],_=>-1
 | x::r,i=>if p=x then (i:Int) else X8f p r (i+1)
theorem X5e (p:List UInt8):∀ (n:Nat) (r:List (List UInt8)) (i:Nat),(∀ (j:Nat) x,j<n→r[j]?=some x→p≠x)→X8f p r i=X8f p (r.drop n) (i+min n r.length)
 | 0,r,i,_=>by simp
 | n+1,[],i,_=>by simp [X8f]
 | n+1,x::r,i,h=>by
  rw [X8f,if_neg (h 0 x (by omega) rfl),X5e p n r (i+1) (fun j y hj hy=>h (j+1) y (by omega) (by simpa using hy)),Yx,Y3]
  congr 1
  omega
theorem Xau {p:List UInt8} {l:List (List UInt8)} {i:Nat} (h:∀ (j:Nat) x,j<i→l[j]?=some x→p≠x) (hs:l[i]?=some p):X8f p l 0=(i:Int):=by
 have hi:=(Y0.1 hs).1
 rw [X5e p i l 0 h,Yq,Y2e (by omega),Yz hi,(Y0.1 hs).2,X8f,if_pos rfl]
theorem X8g {p:List UInt8} {l:List (List UInt8)} (h:∀ (j:Nat) x,l[j]?=some x→p≠x):X8f p l 0=-1:=by
 rw [X5e p l.length l 0 (fun j x _ hx=>h j x hx),Y1r]
 rfl
theorem Xav (p:List UInt8):(1≤X8f p PREV 0→X1s p≠0∧X8f p PREV 0=(X1s p:Int))∧(¬ 1≤X8f p PREV 0→X1s p=0):=by
 unfold PREV X1s
 simp only [X8f]
 by_cases h0:p=[]
 ·subst h0
  exact ⟨fun h=>by simp at h,fun _=>by decide⟩
 rw [if_neg h0]
 by_cases h1:p=pre 1
 ·rw [if_pos h1,if_pos h1]; exact ⟨fun _=>⟨by decide,by decide⟩,fun h=>absurd (by decide) h⟩
 rw [if_neg h1,if_neg h1]
 by_cases h2:p=pre 2
 ·rw [if_pos h2,if_pos h2]; exact ⟨fun _=>⟨by decide,by decide⟩,fun h=>absurd (by decide) h⟩
 rw [if_neg h2,if_neg h2]
 by_cases h3:p=pre 3
 ·rw [if_pos h3,if_pos h3]; exact ⟨fun _=>⟨by decide,by decide⟩,fun h=>absurd (by decide) h⟩
 rw [if_neg h3,if_neg h3]
 by_cases h4:p=pre 4
 ·rw [if_pos h4,if_pos h4]; exact ⟨fun _=>⟨by decide,by decide⟩,fun h=>absurd (by decide) h⟩
 rw [if_neg h4,if_neg h4]
 by_cases h5:p=pre 5
 ·rw [if_pos h5,if_pos h5]; exact ⟨fun _=>⟨by decide,by decide⟩,fun h=>absurd (by decide) h⟩
 rw [if_neg h5,if_neg h5]
 by_cases h6:p=pre 6
 ·rw [if_pos h6,if_pos h6]; exact ⟨fun _=>⟨by decide,by decide⟩,fun h=>absurd (by decide) h⟩
 rw [if_neg h6,if_neg h6]
 exact ⟨fun h=>absurd h (by decide),fun _=>rfl⟩
theorem X6f (a:Option Addr) (c:Nat) (l:List (List UInt8)) (hll:l.length≤100000) (p:List UInt8) (B w:World) (I:Im) (hA:RS I a 1 l.length (l.map S)) (As:List Xe) (hS:Sat B w I As) :
  Calls Tryz.prog 17 [.slice a l.length c,S p].toArray w (Ret fun v w'=>v=I64 (X8f p l 0)∧Sat B w' I As):=by
 refine calls Qf17 rfl Tryz.ntmps17 rfl (.seq (.q 1 rfl (.seq (.seq (.region (.run 3 rfl ⟨⟨_,Xw⟩,trivial⟩ (.nil (.block (.loop (σ:=Nat) (fun i=>[(0,.slice a l.length c),(1,S p),(7,I64 (l.length:Nat)),(8,I64 (i:Nat))]) (fun i w=>i≤l.length∧(∀ (j:Nat) x,j<i→l[j]?=some x→p≠x)∧Sat B w I As) (fun i=>l.length - i) 0 ⟨rfl,rfl,rfl,rfl,trivial⟩ ⟨Y14 _,fun _ _ h=>absurd h (by omega),hS⟩ ?_)))))))))
 rintro i w ⟨hi,hno,hS⟩
 change WC _ _ _ _ [(0,.slice a l.length c),(1,S p),(7,I64 (l.length:Nat)),(8,I64 (i:Nat))] w
 refine .seq (.q 1 rfl (.seq ?_))
 refine WC.cond rfl (fun hb9=>?_) (fun hb9=>?_)
 ·
  have hc9:=hb9; try simp only [Yf] at hc9
  refine .skip (.seq (.block (.seq ?_)))
  obtain ⟨x,hx⟩:∃ x,l[i]?=some x:=⟨_,Yb (by omega)⟩
  obtain ⟨q,rfl,hq⟩:=hA.2 (by omega)
  have hqx:((l.map S).drop ((i:Int).toNat*1))[0]?=some (S x):=by rw [Yp,Yh,Y1x,Yt,Yk,hx]; rfl
  refine .q 2 rfl (.seq (.t 3 rfl (.val (.indexAddrI (.of rfl) (.of rfl) (by omega) (by omega) Xw Qs9) rfl (.val (.ldI (v:=S x) (.of rfl) hS (hq.add _) Qg9 hqx) rfl (.q 1 rfl (.nil ?_))))))
  refine WC.cond rfl (fun hb16=>?_) (fun hb16=>?_)
  ·
   have hc16:=hb16; try simp only [Yf] at hc16
   refine .seq (.q 2 rfl (.ret (X38 Qr17 rfl ?_)))
   have e:p=x:=by simpa using hb16
   subst e
   exact ⟨_,rfl,by rw [Xau hno hx],hS⟩
  have hc16:=hb16; try simp only [Yf] at hc16
  refine .skip (.region (.run 2 rfl ⟨⟨by omega,by omega⟩,trivial⟩ (.nil ?_)))
  refine ⟨i+1,⟨rfl,rfl,rfl,rfl,trivial⟩,⟨by omega,fun j y hj hy=>?_,hS⟩,by omega⟩
  rcases Y1c j i with h1 | h1
  ·exact hno j y h1 hy
  ·have e:j=i:=by omega
   subst e
   rw [hx] at hy; cases hy
   simpa using hb16
 have hc9:=hb9; try simp only [Yf] at hc9
 refine .exit (.seq (.q 1 rfl (.ret (X38 Qr17 rfl ?_))))
 exact ⟨_,rfl,by rw [X8g (fun j x hx=>hno j x (by have:=(Y0.1 hx).1; omega) hx)],hS⟩
theorem Xbj (k:Int) (B w:World) (I:Im) (hP:PreAt I) (As:List Xe) (hS:Sat B w I As) :
  Calls Tryz.prog 20 [I64 k].toArray w (Ret fun v w'=>v=S (X8o k)∧Sat B w' I As):=by
 refine calls Qf20 rfl Tryz.ntmps20 rfl (.seq (.q 1 rfl (.seq (.seq (.t 3 rfl (.gval rfl rfl (fun hg1=>(.move (.of rfl))) rfl (.gval rfl rfl (fun hg1=>(.gtr (.gd hg1 rfl) (.of rfl))) rfl (.val (.por (.of rfl) (.of rfl) (.of rfl)) rfl (.nil ?_)))))))))
 refine WC.cond rfl (fun hb8=>?_) (fun hb8=>?_)
 ·
  have hc8:=hb8; try simp only [Yf] at hc8
  refine .seq (.q 1 rfl (.ret (X38 Tryz.results20 rfl ?_)))
  exact ⟨_,rfl,by rw [X8o,if_pos (by omega)],hS⟩
 have hc8:=hb8; try simp only [Yf] at hc8
 refine .skip (.seq ?_)
 have hk7:k.toNat<7:=by omega
 refine .t 1 rfl (.val (.arrAddrI (i:=k) (.of rfl) (.of rfl) (by omega) (by omega) Qu79 Qs9) rfl (.val (.ldI (v:=S (pre k.toNat)) (.of rfl) hS (At.add hP _) Qg9 (Xiy hk7)) rfl (.q 1 rfl (.nil (.ret (X38 Tryz.results20 rfl ?_))))))
 exact ⟨_,rfl,by rw [X8o,if_neg (by omega)],hS⟩
abbrev HEXD:List UInt8:=[48,49,50,51,52,53,54,55,56,57,97,98,99,100,101,102]
theorem hx_idx (c:UInt8):(match hx c with | some d=>Go.Lib.indexByte HEXD c=(d:Int) | none=>Go.Lib.indexByte HEXD c=-1):=by
 have:=X7x (p:=fun c=>match hx c with | some d=>Go.Lib.indexByte HEXD c == (d:Int) | none=>Go.Lib.indexByte HEXD c == -1) (by decide +kernel) c
 cases h:hx c with
 | some d=>rw [h] at this; simpa using this
 | none=>rw [h] at this; simpa using this
theorem Xfs {s:List UInt8} {i:Nat} {n d:Nat} (hi:i<s.length) (hn:hxS 0 (s.take i)=some n) (hd:hx (at_ s (i:Int))=some d):hxS 0 (s.take (i+1))=some (16*n+d):=by
 have:s[i]?=some (at_ s (i:Int)):=Xcl hi
 rw [Y2u,this,Y3f,X9g,hn,Y24]
 simp only [hxS,hd]
theorem Xdm:∀ (s:List UInt8) (i n:Nat),i<s.length→hx (at_ s (i:Int))=none→hxS n s=none
 | [],i,_,h,_=>by simp at h
 | c::r,0,n,_,h=>by
  rw [hxS,show hx c=none from h]
 | c::r,i+1,n,hi,h=>by
  rw [hxS]
  cases hx c with
  | none=>rfl
  | some d=>exact Xdm r i _ (by simpa using hi) (by
    have e:at_ (c::r) ((i+1:Nat):Int)=at_ r (i:Int):=by simp [at_]
    rw [e] at h; exact h)
theorem or_low {n d:Nat} (hd:d<16):(16*n) ||| d=16*n+d:=by
 have:=Nat.two_pow_add_eq_or_of_lt (i:=4) (b:=d) hd n
 simpa using this.symm
theorem Xfh (s:List UInt8) (hs:s.length≤1000000) (B w:World) (I:Im) (As:List Xe) (hS:Sat B w I As) :
  Calls Tryz.prog 30 [S s].toArray w (Ret fun v w'=>v=(match X2j s with | some d=>.tuple #[U64 (d:Nat),.bool true] | none=>.tuple #[U64 0,.bool false])∧Sat B w' I As):=by
 refine calls Tryz.func30 rfl Tryz.ntmps30 rfl (.seq (.q 2 rfl (.seq (.seq (.region (.run 3 rfl ⟨Qu9,trivial⟩ (.nil ?_)))))))
 refine WC.cond rfl (fun hb9=>?_) (fun hb9=>?_)
 ·
  have hc9:=hb9; try simp only [Yf] at hc9
  refine .seq (.q 2 rfl (.ret (ret2 Tryz.results30 rfl rfl ?_)))
  exact ⟨_,rfl,by rw [X2j,if_neg (by omega)],hS⟩
 have hc9:=hb9; try simp only [Yf] at hc9
 refine .skip (.seq (.q 1 rfl (.seq (.seq (.region (.run 3 rfl ⟨Qu9,trivial⟩ (.nil (.block (.loop (σ:=Nat×Nat) (fun ⟨i,n⟩=>[(0,S s),(4,U64 (n:Nat)),(11,I64 (s.length:Nat)),(12,I64 (i:Nat))]) (fun ⟨i,n⟩ w=>i≤s.length∧hxS 0 (s.take i)=some n∧n<16 ^ i∧Sat B w I As) (fun ⟨i,n⟩=>s.length - i) (0,0) ⟨rfl,rfl,rfl,rfl,trivial⟩ ⟨Y14 _,rfl,by decide,hS⟩ ?_)))))))))
 rintro ⟨i,n⟩ w ⟨hi,hn,hn16,hS⟩
 change WC _ _ _ _ [(0,S s),(4,U64 (n:Nat)),(11,I64 (s.length:Nat)),(12,I64 (i:Nat))] w
 refine .seq (.q 1 rfl (.seq ?_))
 refine WC.cond rfl (fun hb13=>?_) (fun hb13=>?_)
 ·
  have hc13:=hb13; try simp only [Yf] at hc13
  refine .skip (.seq (.block (.seq (.q 2 rfl (.seq (.region (.run 3 rfl ⟨⟨⟨by omega,by omega⟩,Qu9⟩,trivial⟩ (.call Tryz.func53 rfl (X1 (.of rfl) (X1 (.of rfl) X6)) rfl (X6y HEXD (at_ s (i:Int)) _) ?_))))))))
  rintro _ _ ⟨rfl,rfl⟩
  refine .q 1 rfl (.nil (.seq (.seq ?_)))
  have hxi:=hx_idx (at_ s (i:Int))
  refine .q 2 rfl ?_
  refine WC.cond rfl (fun hb20=>?_) (fun hb20=>?_)
  ·
   have hc20:=hb20; try simp only [Yf] at hc20
   refine .seq (.q 2 rfl (.ret (ret2 Tryz.results30 rfl rfl ?_)))
   refine ⟨_,rfl,?_,hS⟩
   have hdn:hx (at_ s (i:Int))=none:=by
    cases hd:hx (at_ s (i:Int)) with
    | none=>rfl
    | some d=>exfalso; rw [hd] at hxi; simp only at hxi; rw [hxi] at hb20; simp at hb20; omega
   rw [X2j,if_pos (by omega),Xdm s i 0 (by omega) hdn]
  have hc20:=hb20; try simp only [Yf] at hc20
  refine .skip ?_
  obtain ⟨d,hd⟩:∃ d,hx (at_ s (i:Int))=some d:=by
   cases hd:hx (at_ s (i:Int)) with
   | none=>exfalso; rw [hd] at hxi; simp only at hxi; rw [hxi] at hb20; simp at hb20
   | some d=>exact ⟨d,rfl⟩
  rw [hd] at hxi
  simp only at hxi
  have hd16:=hx_lt hd
  rw [hxi]
  have hn15:n<16 ^ 15:=Y27 hn16 (Nat.pow_le_pow_right (by decide) (by omega))
  have hn60:n<1152921504606846976:=by simpa using hn15
  refine .t 1 rfl (.val (.shl (.of rfl) (.of rfl) (by decide) (by decide)) rfl ?_)
  rw [show IntKind.u64.wrap ((n:Int)*2 ^ (4:Int).toNat)=((16*n:Nat):Int) by rw [IntKind.wrap_u64]; simp; omega]
  refine .q 1 rfl ?_
  refine WL.val (.cvi (.of rfl) Qu3 Qu40 (by rw [IntKind.wrap_u64]; omega)) rfl ?_
  refine .val (.or64 (a:=16*n) (b:=d) (by omega) (by omega) (.of rfl) (.of rfl)) rfl ?_
  rw [or_low hd16]
  refine .q 1 rfl (.nil (.region (.run 2 rfl ⟨⟨by omega,by omega⟩,trivial⟩ (.nil ?_))))
  refine ⟨(i+1,16*n+d),⟨rfl,rfl,rfl,rfl,trivial⟩,⟨by (try dsimp only); omega,Xfs (by omega) hn hd,?_,hS⟩,by (try dsimp only); omega⟩
  (try dsimp only)
  rw [Y2y]; omega
 have hc13:=hb13; try simp only [Yf] at hc13
 refine .exit (.seq (.q 3 rfl (.ret (ret2 Tryz.results30 rfl rfl ?_))))
 refine ⟨_,rfl,?_,hS⟩
 rw [Y1k (by omega)] at hn
 rw [X2j,if_pos (by omega),hn]
theorem Xca (s:List UInt8) (hs:s.length≤1000000) (B w:World) (I:Im) (hK:Known I) (hP:PreAt I) (As:List Xe) (hS:Sat B w I As) :
  Calls Tryz.prog 19 [S s].toArray w (Ret fun v w'=>v=(match X8 s with | some (k,d)=>.tuple #[I64 (k:Nat),U64 (d:Nat),.bool true] | none=>.tuple #[I64 0,U64 0,.bool false])∧Sat B w' I As):=by
 refine calls Qf19 rfl Tryz.ntmps19 rfl (.seq (.q 3 rfl (.seq (.t 1 rfl (.call Qf18 rfl (X1 (.of rfl) (X1 (.of rfl) X6)) rfl (Xbg s 45 hs B _ I hK _ hS) ?_)))))
 clear hS
 rintro _ w ⟨rfl,hS⟩
 refine .q 7 rfl (.nil (.seq (.t 1 rfl ?_)))
 refine WL.call Tryz.func30 rfl (X1 (.of rfl) X6) rfl (Xfh _ (by have:=Xia [45] s; rw [Y6]; omega) B _ I _ hS) ?_
 clear hS
 rintro _ w ⟨rfl,hS⟩
 rcases hdr:X2j ((X1e [45] s).drop 1) with _ | d
 ·
  refine .val (.move (.of rfl)) rfl (.q 4 rfl (.nil (.seq (.region (.val (Ex.slcArr (m:=7) (s:=1) (.of rfl) Qu79 Qs9) rfl (.q 1 rfl (.call Qf17 rfl (X1 (.of rfl) (X1 (.of rfl) X6)) rfl (X6f (some (ad 0 0)) 7 PREV (by decide) (upto [45] s) B _ I ⟨rfl,fun _=>⟨_,rfl,hP⟩⟩ As hS) ?_)))))))
  clear hS
  rintro _ w ⟨rfl,hS⟩
  refine .q 1 rfl (.nil (.seq (.seq (.t 3 rfl (.gval rfl rfl (fun hg1=>(.move (.of rfl))) rfl (.gval rfl rfl (fun hg1=>(.lss (.gd hg1 rfl) (.of rfl))) rfl (.val (.por (.of rfl) (.of rfl) (.of rfl)) rfl (.nil ?_))))))))
  refine WC.cond rfl (fun hb30=>?_) (fun hb30=>?_)
  ·
   have hc30:=hb30; try simp only [Yf] at hc30
   refine .seq (.q 3 rfl (.ret (ret3 Qr19 rfl rfl rfl ?_)))
   refine ⟨_,rfl,?_,hS⟩
   have:X8 s=none:=by
    unfold X8
    split
    ·rfl
    ·rw [hdr]; rfl
   rw [this]
  have hc30:=hb30; try simp only [Yf] at hc30
  refine .skip (.seq (.q 5 rfl (.ret (ret3 Qr19 rfl rfl rfl ?_))))
  exfalso; simp at hb30
 refine .val (.move (.of rfl)) rfl (.q 4 rfl (.nil (.seq (.region (.val (Ex.slcArr (m:=7) (s:=1) (.of rfl) Qu79 Qs9) rfl (.q 1 rfl (.call Qf17 rfl (X1 (.of rfl) (X1 (.of rfl) X6)) rfl (X6f (some (ad 0 0)) 7 PREV (by decide) (upto [45] s) B _ I ⟨rfl,fun _=>⟨_,rfl,hP⟩⟩ As hS) ?_)))))))
 clear hS
 rintro _ w ⟨rfl,hS⟩
 refine .q 1 rfl (.nil (.seq (.seq (.t 3 rfl (.gval rfl rfl (fun hg1=>(.move (.of rfl))) rfl (.gval rfl rfl (fun hg1=>(.lss (.gd hg1 rfl) (.of rfl))) rfl (.val (.por (.of rfl) (.of rfl) (.of rfl)) rfl (.nil ?_))))))))
 refine WC.cond rfl (fun hb30=>?_) (fun hb30=>?_)
 ·
  have hc30:=hb30; try simp only [Yf] at hc30
  refine .seq (.q 3 rfl (.ret (ret3 Qr19 rfl rfl rfl ?_)))
  refine ⟨_,rfl,?_,hS⟩
  have h0:=(Xav (upto [45] s)).2 (by simp at hb30; omega)
  rw [X8,if_pos h0]
 have hc30:=hb30; try simp only [Yf] at hc30
 refine .skip (.seq (.q 5 rfl (.ret (ret3 Qr19 rfl rfl rfl ?_))))
 refine ⟨_,rfl,?_,hS⟩
 obtain ⟨h0,h1⟩:=(Xav (upto [45] s)).1 (by simp at hb30; omega)
 rw [X8,if_neg h0,hdr,h1]
 rfl
end Go.Proofs.YtokmddjcdfailaaGreatDoor
namespace Go.Proofs.YtokmddjcdfailaaGreatDoor
open Gk Go.RowKit Go.WideShapes Go.ChangeShapes
structure Sv where
 id:Int
 ord:Nat
 urls:List UInt8
 login:Bool
 proxy:Bool
 back:Bool
 calls:List UInt8
 rel:List (List UInt8)
def Xeh (s:Sv) (a:Option Addr) (c:Nat):List Value:=[I64 s.id,F64 s.ord,S s.urls,.bool s.login,.bool s.proxy,.bool s.back,S s.calls,.slice a s.rel.length c]
def SvAt (I:Im) (s:Sv) (l:List Value):Prop:=∃ a c,l=Xeh s a c∧s.rel.length≤c∧RS I a 1 s.rel.length (s.rel.map S)
theorem SvAt.mono {I J:Im} {s:Sv} {l:List Value} (h:SvAt I s l) (hl:Le I J):SvAt J s l:=by
 obtain ⟨a,c,e,h1,h2⟩:=h
 exact ⟨a,c,e,h1,h2.mono hl⟩
structure Sv.fits (s:Sv):Prop where
 id:-9223372036854775808≤s.id∧s.id≤9223372036854775807
 ord:s.ord<18446744073709551616
 urls:s.urls.length≤maxLen
 calls:s.calls.length≤maxLen
 rel:s.rel.length≤maxLen∧∀ x∈s.rel,x.length≤maxLen
def SvsAt (I:Im) (a:Option Addr) (l:List Sv):Prop:=∀ (i:Nat) (s:Sv),l[i]?=some s→∃ p ra rc,a=some p∧At I (p.add (i*8)) (Xeh s ra rc)∧s.rel.length≤rc∧RS I ra 1 s.rel.length (s.rel.map S)
theorem SvsAt.mono {I J:Im} {a:Option Addr} {l:List Sv} (h:SvsAt I a l) (hl:Le I J):SvsAt J a l:=fun i s hs=>by
 obtain ⟨p,ra,rc,e,h1,h2,h3⟩:=h i s hs
 exact ⟨p,ra,rc,e,h1.mono hl,h2,h3.mono hl⟩
end Go.Proofs.YtokmddjcdfailaaGreatDoor
namespace Go.Proofs.YtokmddjcdfailaaGreatDoor
open Gk Pc Ul Pat
theorem Xi0 {n:Nat} (h:¬ n<10):Go.Lib.decDigits n=Go.Lib.decDigits (n / 10) ++ [UInt8.ofNat (48+n % 10)]:=by
 rw [Go.Lib.decDigits,dif_neg h]
theorem X6e (m:Nat) (hm:m≤65535) (B w:World) (I:Im) (As:List Xe) (hS:Sat B w I As) :
  Calls Tryz.prog 24 [I64 (m:Nat)].toArray w (Ret fun v w'=>v=S (Go.Lib.decDigits m)∧Sat B w' I As):=by
 refine calls Tryz.func24 rfl Tryz.ntmps24 rfl (.seq (.q 1 rfl (.seq (.q 1 rfl (.seq (.block (.loop (σ:=Nat×List UInt8) (fun ⟨n,out⟩=>[(0,I64 (n:Nat)),(3,S out)]) (fun ⟨n,out⟩ w=>n≤m∧Go.Lib.decDigits m=Go.Lib.decDigits n ++ out∧Sat B w I As) (fun ⟨n,out⟩=>n) (m,[]) ⟨rfl,rfl,trivial⟩ ⟨Yd _,by simp,hS⟩ ?_)))))))
 rintro ⟨n,out⟩ w ⟨hn,hd,hS⟩
 change WC _ _ _ _ [(0,I64 (n:Nat)),(3,S out)] w
 refine .seq (.seq (.q 2 rfl ?_))
 refine WC.cond rfl (fun hb5=>?_) (fun hb5=>?_)
 ·
  have hc5:=hb5; try simp only [Yf] at hc5
  refine .skip (.block (.seq ?_))
  have hbg:=Xi0 (n:=n) (by omega)
  have hlo2:=congrArg List.length hd
  rw [Y2,hbg,Y2] at hlo2
  have h5:=X99 m hm
  refine .t 1 rfl (.val (.rem (.of rfl) (.of rfl) (by omega) (by omega)) rfl (.run 1 rfl ⟨⟨by omega,by omega⟩,trivial⟩ ?_))
  refine WL.val (.cvi (.of rfl) Qu3 Qu5 (by rw [IntKind.wrap_u8]; omega)) rfl ?_
  refine .buildSlice (cs:=[_]) hS (X10 (.of rfl) X18) Xab Qs5 Qz5 rfl rfl rfl rfl ?_
  clear hS; intro b10 w hS
  refine WL.val (.str1 (b:=b10) (cap:=1) (c:=UInt8.ofNat (48+n % 10)) (i:=(48+(n:Int) % 10)) (.of rfl) hS (k:=0) rfl (by rw [Y1u]; omega) Xab Qu5 Qu9) rfl ?_
  refine WL.run 3 rfl ⟨by (try simp only [Y2,Y3,Ye]); omega,trivial⟩ ?_
  refine .nil (.t 1 rfl ?_)
  refine WL.val (.quo (.of rfl) (.of rfl) (by omega) (by omega) (by rw [IntKind.wrap_i64]; omega)) rfl ?_
  refine .q 1 rfl (.nil ?_)
  refine ⟨(n / 10,_),⟨rfl,rfl,trivial⟩,⟨by (try dsimp only); omega,?_,hS.drop (k:=0) rfl⟩,by (try dsimp only); omega⟩
  rw [hd,hbg,Y7]
 have hc5:=hb5; try simp only [Yf] at hc5
 refine .exit (.seq ?_)
 have hsm:=Go.Lib.decDigits_one (i:=n) (by omega)
 have hlo2:=congrArg List.length hd
 rw [Y2] at hlo2
 have h5:=X99 m hm
 refine .region (.run 2 rfl ⟨⟨by omega,by omega⟩,trivial⟩ ?_)
 refine WL.val (.cvi (.of rfl) Qu3 Qu5 (by rw [IntKind.wrap_u8]; omega)) rfl ?_
 refine .buildSlice (cs:=[_]) hS (X10 (.of rfl) X18) Xab Qs5 Qz5 rfl rfl rfl rfl ?_
 clear hS; intro b19 w hS
 refine WL.val (.str1 (b:=b19) (cap:=1) (c:=UInt8.ofNat (48+n)) (i:=(48+(n:Int))) (.of rfl) hS (k:=0) rfl (by rw [Y1u]; omega) Xab Qu5 Qu9) rfl ?_
 refine WL.run 3 rfl ⟨by (try simp only [Y2,Y3,Ye]); omega,trivial⟩ ?_
 refine .nil (.ret (X38 Tryz.results24 rfl ?_))
 refine ⟨_,rfl,?_,hS.drop (k:=0) rfl⟩
 rw [hd,hsm]
end Go.Proofs.YtokmddjcdfailaaGreatDoor
namespace Rk
open Flt
def sl:Nat→Nat→List Int
 | 0,_=>[]
 | k+1,b=>((b / 2 ^ k % 2:Nat):Int)::sl k b
def W (x y:Nat):Nat→Option Nat
 | 0=>nf x
 | k+1=>(W x y k).bind fun v=>Ieee.double.mul v y
end Rk
namespace Srt
variable {k:Int→Nat}
def bef (k:Int→Nat) (x y:Int):Prop:=k x<k y∨(k x=k y∧x<y)
theorem Xcp {x y z:Int} (h:bef k x y) (h2:bef k y z):bef k x z:=by unfold bef at *; omega
abbrev So (k:Int→Nat) (l:List Int):Prop:=l.Pairwise (bef k)
def Xfb (A T:List Int):Prop:=∀ a∈A,∀ t∈T,a<t
theorem Xcz {A T A' T':List Int} (h:Xfb A T) (ha:∀ x∈A',x∈A) (ht:∀ x∈T',x∈T):Xfb A' T':=fun a h1 t h2=>h a (ha a h1) t (ht t h2)
inductive Full (k:Int→Nat) (s:Nat):List Int→Prop
 | nil:Full k s []
 | cons {U T:List Int}:U.length=s→So k U→Xfb U T→Full k s T→Full k s (U ++ T)
theorem Full.append {s:Nat} {A B:List Int} (ha:Full k s A) (hb:Full k s B) (hc:Xfb A B):Full k s (A ++ B):=by
 induction ha with
 | nil=>simpa using hb
 | cons h1 h2 h3 h4 ih =>
  rename_i U T
  rw [Y7]
  refine .cons h1 h2 (fun a ha t ht=>?_) (ih (Xcz hc (fun x hx=>List.mem_append_right _ hx) (fun x hx=>hx)))
  rcases Y1n.1 ht with ht | ht
  ·exact h3 a ha t ht
  ·exact hc a (Y2h _ ha) t ht
theorem Full.one {s:Nat} {U:List Int} (h:U.length=s) (hs:So k U):Full k s U:=by
 have:=Full.cons (T:=[]) h hs (fun _ _ _ h=>by cases h) .nil
 simpa using this
theorem Full.few {s:Nat} {A:List Int} (h:Full k s A) (hl:A.length<2*s):A=[]∨(A.length=s∧So k A):=by
 cases h with
 | nil=>exact .inl rfl
 | cons h1 h2 h3 h4 =>
  rename_i U T
  cases h4 with
  | nil=>exact .inr ⟨by simpa using h1,by simpa using h2⟩
  | cons g1 g2 g3 g4=>simp only [Y2] at hl; omega
def upto:Nat→List Int
 | 0=>[]
 | n+1=>upto n ++ [(n:Int)]
theorem X4q:∀ n,(upto n).length=n
 | 0=>rfl
 | n+1=>by rw [upto,Y2,X4q n]; rfl
theorem upto_mem:∀ {n:Nat} {x:Int},x∈upto n ↔ 0≤x∧x<n
 | 0,x=>by simp [upto] <;> omega
 | n+1,x=>by
  rw [upto,Y1n,upto_mem]
  simp
  omega
theorem Xem:∀ n,(upto n).Pairwise (·<·)
 | 0=>.nil
 | n+1=>by
  rw [upto]
  refine List.pairwise_append.2 ⟨Xem n,by simp,fun a ha b hb=>?_⟩
  simp at hb
  have:=upto_mem.1 ha
  omega
def Ord (k:Int→Nat) (n:Nat) (D:List Int):Prop:=So k D∧D.Perm (upto n)
theorem Ord.len {n:Nat} {D:List Int} (h:Ord k n D):D.length=n:=by rw [h.2.length_eq,X4q]
instance (k:Int→Nat) (x y:Int):Decidable (bef k x y):=by unfold bef; infer_instance
structure Sel (k:Int→Nat) (n:Nat) (us:List Bool) (Os T:List Int):Prop where
 len:us.length=n
 perm:(Os ++ T).Perm (upto n)
 so:So k Os
 before:∀ o∈Os,∀ t∈T,bef k o t
 used:∀ o∈Os,us.getD o.toNat false=true
 free:∀ t∈T,us.getD t.toNat false=false
def Best (k:Int→Nat) (T:List Int) (i:Nat) (b:Int):Prop:=(b=-1∧∀ t∈T,(i:Int)≤t)∨(b∈T∧b<i∧∀ t∈T,t<i→t=b∨bef k b t)
theorem Sel.start (k:Int→Nat) (n:Nat):Sel k n (List.replicate n false) [] (upto n) :=
 ⟨by simp,.refl _,.nil,(fun _ h=>by cases h),(fun _ h=>by cases h),fun t ht=>by
  have:=upto_mem.1 ht
  simp [Y8,Y3l,show t.toNat<n by omega]⟩
theorem Sel.mem {n:Nat} {us:List Bool} {Os T:List Int} (h:Sel k n us Os T) {t:Int} (ht:t∈T):0≤t∧t<n:=upto_mem.1 (h.perm.mem_iff.1 (List.mem_append_right _ ht))
theorem Sel.lens {n:Nat} {us:List Bool} {Os T:List Int} (h:Sel k n us Os T):Os.length+T.length=n:=by
 have:=h.perm.length_eq
 rw [Y2,X4q] at this
 exact this
theorem Best.lt {T:List Int} {i:Nat} {b:Int} (h:Best k T i b):b<i:=by
 rcases h with ⟨h,_⟩ | ⟨_,h,_⟩ <;> omega
theorem Best.is {T:List Int} {i:Nat} {b:Int} (h:Best k T i b) (h0:¬ b<0):b∈T:=by
 rcases h with ⟨h,_⟩ | ⟨h,_⟩
 ·omega
 ·exact h
theorem Best.take {n:Nat} {us:List Bool} {Os T:List Int} (h:Sel k n us Os T) {i:Nat} {b:Int} (hb:Best k T i b) (hi:i<n) (hu:us.getD i false=false) (hc:b<0∨k i<k b):Best k T (i+1) i:=by
 have hiT:(i:Int)∈T:=by
  rcases Y1n.1 (h.perm.mem_iff.2 (upto_mem.2 ⟨by omega,by omega⟩:(i:Int)∈upto n)) with h1 | h1
  ·have:=h.used _ h1
   rw [Yh,hu] at this; cases this
  ·exact h1
 refine .inr ⟨hiT,by omega,fun t ht hti=>?_⟩
 rcases Int.lt_or_le t i with h1 | h1
 ·right
  rcases hb with ⟨_,h2⟩ | ⟨h2,h3,h4⟩
  ·have:=h2 t ht; omega
  ·have hk:k i<k b:=by
    rcases hc with hc | hc
    ·have:=h.mem h2; omega
    ·exact hc
   rcases h4 t ht h1 with rfl | h5
   ·exact .inl hk
   ·exact Xcp (.inl hk) h5
 ·left; omega
theorem Best.keep {n:Nat} {us:List Bool} {Os T:List Int} (h:Sel k n us Os T) {i:Nat} {b:Int} (hb:Best k T i b) (hc:us.getD i false=true∨(¬ b<0∧¬ k i<k b)):Best k T (i+1) b:=by
 rcases hb with ⟨h1,h2⟩ | ⟨h2,h3,h4⟩
 ·refine .inl ⟨h1,fun t ht=>?_⟩
  have h5:=h2 t ht
  rcases Int.lt_or_le i t with h6 | h6
  ·omega
  ·have e:t=i:=by omega
   rcases hc with hc | hc
   ·have:=h.free t ht
    rw [e,Yh,hc] at this; cases this
   ·omega
 ·refine .inr ⟨h2,by omega,fun t ht hti=>?_⟩
  rcases Int.lt_or_le t i with h6 | h6
  ·exact h4 t ht h6
  ·have e:t=i:=by omega
   rcases hc with hc | hc
   ·have:=h.free t ht
    rw [e,Yh,hc] at this; cases this
   ·right
    subst e
    unfold bef; omega
theorem Sel.step {n:Nat} {us:List Bool} {Os T:List Int} (h:Sel k n us Os T) {b:Int} (hb:Best k T n b) (hT:0<T.length):0≤b∧b<n∧Sel k n (us.set b.toNat true) (Os ++ [b]) (T.erase b):=by
 obtain ⟨t0,ht0⟩:∃ t,t∈T:=by cases T with | nil=>simp at hT | cons t T=>exact ⟨t,Y1o⟩
 have h0:=h.mem ht0
 obtain ⟨h2,h3,h4⟩:b∈T∧b<n∧∀ t∈T,t<n→t=b∨bef k b t:=by
  rcases hb with ⟨_,h2⟩ | h2
  ·have:=h2 t0 ht0; omega
  ·exact h2
 have hb0:=h.mem h2
 have hp:T.Perm (b::T.erase b):=List.perm_cons_erase h2
 have hPn:(Os ++ (b::T.erase b)).Perm (upto n):=(List.Perm.append_left Os hp.symm).trans h.perm
 have hnd:(Os ++ (b::T.erase b)).Nodup:=hPn.nodup_iff.2 ((Xem n).imp fun h=>by omega)
 have hd2:=(Y3k.1 hnd).2.1
 have hnb:b ∉ T.erase b:=(Y2c.1 hd2).1
 have hnO:b ∉ Os:=fun ho=>(Y3k.1 hnd).2.2 b ho b Y1o rfl
 have sub:∀ t,t∈T.erase b→t∈T:=fun t ht=>List.mem_of_mem_erase ht
 refine ⟨hb0.1,h3,by simpa using h.len,by simpa using hPn,?_,?_,?_,?_⟩
 ·refine List.pairwise_append.2 ⟨h.so,by simp,fun o ho x hx=>?_⟩
  simp at hx; subst hx
  exact h.before o ho _ h2
 ·intro o ho t ht
  rcases Y1n.1 ho with ho | ho
  ·exact h.before o ho t (sub t ht)
  ·simp at ho; subst ho
   have hm:=h.mem (sub t ht)
   rcases h4 t (sub t ht) (by omega) with e | e
   ·subst e; exact absurd ht hnb
   ·exact e
 ·intro o ho
  rcases Y1n.1 ho with ho | ho
  ·have:=h.used o ho
   have hne:¬ b.toNat=o.toNat:=fun e=>by
    have hm:0≤o:=(upto_mem.1 (h.perm.mem_iff.1 (Y2h _ ho))).1
    have:b=o:=by omega
    subst this; exact hnO ho
   simpa [Y8,Y1f,hne] using this
  ·simp at ho; subst ho
   have hl:o.toNat<us.length:=by rw [h.len]; omega
   simp [Y8,Y1f,hl]
 ·intro t ht
  have:=h.free t (sub t ht)
  have hne:¬ b.toNat=t.toNat:=fun e=>by
   have hm:=h.mem (sub t ht)
   have:b=t:=by omega
   subst this; exact hnb ht
  simpa [Y8,Y1f,hne] using this
theorem Sel.done {n:Nat} {us:List Bool} {Os T:List Int} (h:Sel k n us Os T) (hl:n≤Os.length):Ord k n Os:=by
 have:=h.lens
 have hT:T=[]:=Yc (by omega)
 subst hT
 exact ⟨h.so,by simpa using h.perm⟩
end Srt
namespace Go.Proofs.YtokmddjcdfailaaGreatDoor
open Gk Rk
structure Cx (I:Im) (l:List Nat) (p:Addr):Prop where
 ex:∃ a c,At I p [.slice a l.length c]∧RS I a 1 l.length (l.map F64)
 small:∀ v∈l,v<18446744073709551616
theorem Cx.mono {I J:Im} {l:List Nat} {p:Addr} (h:Cx I l p) (hl:Le I J):Cx J l p:=by
 obtain ⟨⟨a,c,h1,h2⟩,h3⟩:=h
 exact ⟨⟨a,c,h1.mono hl,h2.mono hl⟩,h3⟩
end Go.Proofs.YtokmddjcdfailaaGreatDoor
namespace Go.Proofs.YtokmddjcdfailaaGreatDoor
open Gk
def few1 (s:Sv):Bool:=!((decide (100<(s.urls.length:Int)) && decide ((s.urls.length:Int)≤200) || decide (100<(s.calls.length:Int)) && decide ((s.calls.length:Int)≤200)) || decide (20<(s.rel.length:Int)))
def few (l:List Sv):Bool:=l.all few1 && decide ((l.length:Int)≤20)
theorem Xce (a b:Option Addr) (ca cb:Nat) (la lb:List (List UInt8)) (hla:la.length≤ca) (hlb:lb.length≤cb) (hlm:la.length≤140737488355328) (B w:World) (I:Im) (hA:RS I a 1 la.length (la.map S)) (hB:RS I b 1 lb.length (lb.map S)) (As:List Xe) (hS:Sat B w I As) :
  Calls Tryz.prog 7 [.slice a la.length ca,.slice b lb.length cb].toArray w (Ret fun v w'=>v=.bool (decide (la=lb))∧Sat B w' I As):=by
 refine calls Tryz.func7 rfl Tryz.ntmps7 rfl (.seq (.q 1 rfl (.seq (.seq (.region (.run 5 rfl ⟨⟨_,Xw⟩,⟨_,Xw⟩,trivial⟩ (.nil ?_)))))))
 refine WC.cond rfl (fun hb10=>?_) (fun hb10=>?_)
 ·
  have hc10:=hb10; try simp only [Yf] at hc10
  refine .seq (.q 1 rfl (.ret (X38 Tryz.results7 rfl ?_)))
  exact ⟨_,rfl,by rw [decide_eq_false (fun e=>by subst e; omega)],hS⟩
 have hc10:=hb10; try simp only [Yf] at hc10
 refine .skip (.seq (.seq (.q 1 rfl (.block (.loop (σ:=Nat) (fun i=>[(0,.slice a la.length ca),(1,.slice b lb.length cb),(5,I64 (i:Nat))]) (fun i w=>i≤la.length∧(∀ j,j<i→la[j]?=lb[j]?)∧Sat B w I As) (fun i=>la.length - i) 0 ⟨rfl,rfl,rfl,trivial⟩ ⟨Y14 _,fun _ h=>absurd h (by omega),hS⟩ ?_)))))
 rintro i w ⟨hi,hok,hS⟩
 change WC _ _ _ _ [(0,.slice a la.length ca),(1,.slice b lb.length cb),(5,I64 (i:Nat))] w
 refine .seq (.seq (.region (.run 4 rfl ⟨⟨_,Xw⟩,trivial⟩ (.nil ?_))))
 refine WC.cond rfl (fun hb14=>?_) (fun hb14=>?_)
 ·
  have hc14:=hb14; try simp only [Yf] at hc14
  refine .skip (.seq (.block (.seq ?_)))
  obtain ⟨x,hx⟩:∃ x,la[i]?=some x:=⟨_,Yb (by omega)⟩
  obtain ⟨y,hy⟩:∃ y,lb[i]?=some y:=⟨_,Yb (by omega)⟩
  obtain ⟨p,rfl,hp⟩:=hA.2 (by omega)
  obtain ⟨q,rfl,hq⟩:=hB.2 (by omega)
  have hpx:((la.map S).drop ((i:Int).toNat*1))[0]?=some (S x):=by rw [Yp,Yh,Y1x,Yt,Yk,hx]; rfl
  have hqy:((lb.map S).drop ((i:Int).toNat*1))[0]?=some (S y):=by rw [Yp,Yh,Y1x,Yt,Yk,hy]; rfl
  refine .quiet (by kernel_rfl) (by kernel_rfl) hS (.val (fun w hS=>(.move (.of rfl))) rfl (.val (fun w hS=>(.move (.of rfl))) rfl (.val (fun w hS=>(.indexAddrI (.of rfl) (.of rfl) (by omega) (by omega) Xw Qs9)) rfl (.val (fun w hS=>(.ldI (v:=S x) (.of rfl) hS (hp.add _) Qg9 hpx)) rfl (.val (fun w hS=>(.move (.of rfl))) rfl (.val (fun w hS=>(.move (.of rfl))) rfl (.val (fun w hS=>(.indexAddrI (.of rfl) (.of rfl) (by omega) (by omega) Xw Qs9)) rfl (.val (fun w hS=>(.ldI (v:=S y) (.of rfl) hS (hq.add _) Qg9 hqy)) rfl (.val (fun w hS=>(.nes (.of rfl) (.of rfl))) rfl (.nil ?_))))))))))
  clear hS; intro w hS
  refine WC.cond rfl (fun hb25=>?_) (fun hb25=>?_)
  ·
   have hc25:=hb25; try simp only [Yf] at hc25
   refine .seq (.q 1 rfl (.ret (X38 Tryz.results7 rfl ?_)))
   exact ⟨_,rfl,by rw [decide_eq_false (fun e=>by subst e; rw [hx] at hy; cases hy; simp at hb25)],hS⟩
  have hc25:=hb25; try simp only [Yf] at hc25
  refine .skip (.region (.run 3 rfl ⟨⟨by omega,by omega⟩,trivial⟩ (.nil ?_)))
  refine ⟨i+1,⟨rfl,rfl,rfl,trivial⟩,⟨by omega,fun j hj=>?_,hS⟩,by omega⟩
  rcases Y1c j i with h1 | h1
  ·exact hok j h1
  ·have e:j=i:=by omega
   subst e
   rw [hx,hy,show x=y by simpa using hb25]
 have hc14:=hb14; try simp only [Yf] at hc14
 refine .exit (.seq (.q 1 rfl (.ret (X38 Tryz.results7 rfl ?_))))
 refine ⟨_,rfl,?_,hS⟩
 rw [decide_eq_true (Y17 fun j=>?_)]
 rcases Y1c j la.length with h | h
 ·exact hok j (by omega)
 ·rw [Y15 h,Y15 (by omega)]
def SvsIn (I:Im) (a:Option Addr) (L:List (List Value)) (l:List Sv):Prop:=L.length=l.length∧∀ (i:Nat) (s:Sv),l[i]?=some s→∃ p c,a=some p∧L[i]?=some c∧At I (p.add (i*8)) c∧SvAt I s c
theorem SvsIn.mono {I J:Im} {a:Option Addr} {L:List (List Value)} {l:List Sv} (h:SvsIn I a L l) (hl:Le I J):SvsIn J a L l:=⟨h.1,fun i s hs=>by
 obtain ⟨p,c,e,h0,h1,h2⟩:=h.2 i s hs
 exact ⟨p,c,e,h0,h1.mono hl,h2.mono hl⟩⟩
theorem SvsIn.svs {I:Im} {a:Option Addr} {L:List (List Value)} {l:List Sv} (h:SvsIn I a L l):SvsAt I a l:=fun i s hs=>by
 obtain ⟨p,c,e,h0,h1,ra,rc,rfl,h2,h3⟩:=h.2 i s hs
 exact ⟨p,ra,rc,e,h1,h2,h3⟩
def ords (l:List Sv):List Nat:=l.map Sv.ord
end Go.Proofs.YtokmddjcdfailaaGreatDoor
namespace Pat
open Go Gk
def Xgh (k:Int):Bool:=(((k == 2) || (k == 3)) || (k == 4)) || (k == 6)
def addP (Q:List Pl):Nat→List Bool→Nat→List Bool
 | 0,set,_=>set
 | f+1,set,i=>bif set.getD i false then set else
   bif Xgh (Q.getD i (7,0,[])).1 then addP Q f ((Q.getD i (7,0,[])).2.2.foldl (fun s t=>addP Q f s t.toNat) (set.set i true)) (i+1)
   else (Q.getD i (7,0,[])).2.2.foldl (fun s t=>addP Q f s t.toNat) (set.set i true)
def SubB (s t:List Bool):Prop:=s.length=t.length∧∀ i:Nat,s.getD i false=true→t.getD i false=true
theorem SubB.refl (s:List Bool):SubB s s:=⟨rfl,fun _ h=>h⟩
theorem SubB.trans {s t u:List Bool} (h:SubB s t) (k:SubB t u):SubB s u:=⟨h.1.trans k.1,fun i hi=>k.2 i (h.2 i hi)⟩
theorem SubB.set (s:List Bool) (i:Nat):SubB s (s.set i true):=by
 refine ⟨by simp,fun j hj=>?_⟩
 rw [Y8] at hj ⊢
 rw [Y1f]
 by_cases e:i=j
 ·subst e
  have hlt:i<s.length:=by
   apply Classical.byContradiction
   intro hn
   rw [Y15 (by omega)] at hj
   cases hj
  simp [hlt]
 ·simpa [e] using hj
def WF (Q:List Pl):Prop:=∀ (i:Nat) (q:Pl),Q[i]?=some q→(∀ t∈q.2.2,0≤t∧t<(Q.length:Int))∧(Xgh q.1=true→i+1<Q.length)∧(0≤q.1∧q.1≤7)∧(q.1≠7→i+1<Q.length)∧q.2.2.length≤Q.length
theorem WF.at_ {Q:List Pl} (h:WF Q) {i:Nat} (hi:i<Q.length):(∀ t∈(Q.getD i (7,0,[])).2.2,0≤t∧t<(Q.length:Int))∧(Xgh (Q.getD i (7,0,[])).1=true→i+1<Q.length)∧(0≤(Q.getD i (7,0,[])).1∧(Q.getD i (7,0,[])).1≤7)∧((Q.getD i (7,0,[])).1≠7→i+1<Q.length)∧(Q.getD i (7,0,[])).2.2.length≤Q.length:=by
 have e:Q[i]?=some (Q.getD i (7,0,[])):=by simp [Y8,hi]
 exact h i _ e
def Xi9 (k c:Int) (b:UInt8):Bool:=bif k == 0 then c == (b.toNat:Int) else bif (k == 1) || (k == 3) then (b.toNat:Int) != 47 else k == 2
def runAt (Q:List Pl) (F:Nat) (c:UInt8) (now:List Bool) (st:List Bool×Bool×Nat) (k:Nat):List Bool×Bool×Nat :=
 bif now.getD k false then
  bif Xi9 (Q.getD k (7,0,[])).1 (Q.getD k (7,0,[])).2.1 c then
   (addP Q F st.1 (bif ((Q.getD k (7,0,[])).1 == 2) || ((Q.getD k (7,0,[])).1 == 3) then k else k+1),true,st.2.2+1)
  else (st.1,st.2.1,st.2.2+1)
 else st
def runB (Q:List Pl) (F:Nat) (c:UInt8) (now:List Bool) (steps:Nat):List Bool×Bool×Nat:=iter (runAt Q F c now) (List.replicate Q.length false,false,steps) Q.length
def runS (Q:List Pl) (F:Nat):List UInt8→List Bool→Nat→List Bool×Nat
 | [],now,st=>(now,st)
 | c::r,now,st=>bif (runB Q F c now st).2.1 then runS Q F r (runB Q F c now st).1 (runB Q F c now st).2.2 else ((runB Q F c now st).1,(runB Q F c now st).2.2)
def run (Q:List Pl) (l:List UInt8):List Bool×Nat:=runS Q (Q.length+1) l (addP Q (Q.length+1) (List.replicate Q.length false) 0) 1
theorem At.sub {I:Im} {p:Addr} {vs us:List Value} (h:At I p vs) (hu:∀ (j:Nat) (v:Value),us[j]?=some v→vs[j]?=some v):At I p us:=by
 obtain ⟨h1,arr,E,fr,h2,h3⟩:=h
 exact ⟨h1,arr,E,fr,h2,fun j v hj=>h3 j v (hu j v hj)⟩
theorem At.place {I:Im} {la:Addr} {P:List X2n} {i:Nat} {x:X2n} (h:At I la (P.flatMap enc)) (hx:P[i]?=some x):At I (la.add (i*3)) [.int .u8 x.1,.int .u8 x.2.1,x.2.2]:=by
 refine At.sub (h.add (i*3)) fun j v hj=>?_
 have hl:j<3:=by have:=(Y0.1 hj).1; simpa using this
 rw [Yp]
 have:=Xao enc 3 X9a P [] i j x hx hl
 rw [Y1d] at this
 rw [this]; exact hj
theorem PatI.opened {I:Im} {p:Addr} {Q:List Pl} {n:Nat} (h:PatI I p Q n) (hQ:0<Q.length):∃ la c P,At I p [.slice (some la) Q.length c,I64 n]∧At I la (P.flatMap enc)∧RelP I P Q:=by
 obtain ⟨a,c,P,h1,h2,h3,h4⟩:=h
 obtain ⟨la,rfl,h5⟩:=h3.2 (by rw [h4.1]; exact hQ)
 exact ⟨la,c,P,by rw [← h4.1]; exact h1,h5,h4⟩
theorem RelP.at_ {I:Im} {P:List X2n} {Q:List Pl} (h:RelP I P Q) {i:Nat} (hi:i<Q.length):∃ xa xc,P[i]?=some ((Q.getD i (7,0,[])).1,(Q.getD i (7,0,[])).2.1,.slice xa (Q.getD i (7,0,[])).2.2.length xc)∧∃ xp,0<(Q.getD i (7,0,[])).2.2.length→xa=some xp∧At I xp ((Q.getD i (7,0,[])).2.2.map I64):=by
 have e:Q[i]?=some (Q.getD i (7,0,[])):=by simp [Y8,hi]
 obtain ⟨⟨p1,p2,p3⟩,hp⟩:∃ p,P[i]?=some p:=⟨_,Yb (by rw [h.1]; exact hi)⟩
 obtain ⟨a,b,_,xa,xc,h1,_,h2⟩:=h.2 i _ _ hp e
 simp only at a b h1
 subst a; subst b; subst h1
 refine ⟨xa,xc,hp,?_⟩
 by_cases h0:0<(Q.getD i (7,0,[])).2.2.length
 ·obtain ⟨xp,rfl,h3⟩:=h2.2 h0
  exact ⟨xp,fun _=>⟨rfl,h3⟩⟩
 ·exact ⟨ad 0 0,fun h=>absurd h h0⟩
end Pat
namespace Pat
open Go Gk
inductive Pt
 | nil
 | lit (k c:Int) (r:Pt)
 | bar (r:Pt)
 | grp (b r:Pt)
namespace Pt
def len:Pt→Nat
 | nil=>0
 | lit _ _ r=>len r+1
 | bar r=>len r+1
 | grp b r=>len b+len r+2
def dep:Pt→Nat
 | nil=>0
 | lit _ _ r=>dep r
 | bar r=>dep r
 | grp b r=>max (dep b+1) (dep r)
def flat:Pt→Prop
 | nil=>True
 | lit _ _ r=>flat r
 | bar _=>False
 | grp _ r=>flat r
def app:Pt→Pt→Pt
 | nil,q=>q
 | lit k c r,q=>lit k c (app r q)
 | bar r,q=>bar (app r q)
 | grp b r,q=>grp b (app r q)
def tos:Pt→Nat→List Int
 | nil,_=>[]
 | lit _ _ r,n=>tos r (n+1)
 | bar r,n=>((n:Int)+1)::tos r (n+1)
 | grp b r,n=>tos r (n+2+len b)
def marks:Pt→Nat→List Nat
 | nil,_=>[]
 | lit _ _ r,n=>marks r (n+1)
 | bar r,n=>n::marks r (n+1)
 | grp b r,n=>marks r (n+2+len b)
def pls (es:List Int):Pt→Nat→List Pl
 | nil,_=>[]
 | lit k c r,n=>(k,c,[])::pls es r (n+1)
 | bar r,n=>(5,0,es)::pls es r (n+1)
 | grp b r,n=>(4,0,tos b (n+1))::(pls [((n+1+len b:Nat):Int)] b (n+1) ++ (6,0,[])::pls es r (n+2+len b))
theorem X3f:∀ (p:Pt) (es:List Int) (n:Nat),(pls es p n).length=p.len
 | nil,_,_=>rfl
 | lit _ _ r,es,n=>by simp [pls,len,X3f r]
 | bar r,es,n=>by simp [pls,len,X3f r]
 | grp b r,es,n=>by simp [pls,len,X3f b,X3f r]; omega
end Pt
open Pt
inductive Rep:List UInt8→Pt→Prop
 | nil:Rep [] .nil
 | one {l p}:Rep l p→Rep (63::l) (.lit 1 0 p)
 | all {l p}:Rep l p→Rep (42::42::l) (.lit 2 0 p)
 | few {l p}:l.head?≠some 42→Rep l p→Rep (42::l) (.lit 3 0 p)
 | grp {t l b p}:Rep t b→Rep l p→Rep (40::(t ++ 41::l)) (.grp b p)
 | bar {l p}:Rep l p→Rep (124::l) (.bar p)
 | esc {l p} (c:UInt8):Rep l p→Rep (92::c::l) (.lit 0 (c.toNat:Int) p)
 | byte {l p} (c:UInt8):c≠63→c≠42→c≠40→c≠124→c≠41→c≠92→Rep l p→Rep (c::l) (.lit 0 (c.toNat:Int) p)
theorem Rep.app {l m:List UInt8} {p q:Pt} (h:Rep l p) (k:Rep m q) (hs:l.getLast?=some 42→m.head?≠some 42):Rep (l ++ m) (p.app q):=by
 have sub:∀ {x:UInt8} {l:List UInt8},((x::l).getLast?=some 42→m.head?≠some 42)→l.getLast?=some 42→m.head?≠some 42:=by
  intro x l h1 h2
  refine h1 ?_
  cases l with
  | nil=>simp at h2
  | cons y l=>simpa using h2
 have suba:∀ {t l:List UInt8},((t ++ 41::l).getLast?=some 42→m.head?≠some 42)→l.getLast?=some 42→m.head?≠some 42:=by
  intro t l h1 h2
  refine h1 ?_
  rw [List.getLast?_append]
  cases l with
  | nil=>simp at h2
  | cons y l=>simp at h2 ⊢; simp [h2]
 induction h with
 | nil=>exact k
 | one _ ih=>exact .one (ih (sub hs))
 | all _ ih=>exact .all (ih (sub (sub hs)))
 | @few l p h1 _ ih =>
  refine .few ?_ (ih (sub hs))
  cases l with
  | nil=>exact hs rfl
  | cons y l=>exact h1
 | @grp t l b p hb _ _ ih =>
  have:=Rep.grp hb (ih (suba (sub hs)))
  simpa [Pt.app] using this
 | bar _ ih=>exact .bar (ih (sub hs))
 | esc c _ ih=>exact .esc c (ih (sub (sub hs)))
 | byte c h1 h2 h3 h4 h5 h6 _ ih=>exact .byte c h1 h2 h3 h4 h5 h6 (ih (sub hs))
def addm:List PFr→List Nat→List PFr
 | [],_=>[]
 | (o,bs)::r,ms=>(o,bs ++ ms)::r
theorem Xch (o:Nat) (bs:List Nat) (r:List PFr) (ms:List Nat):addm ((o,bs)::r) ms=(o,bs ++ ms)::r:=rfl
theorem Xf2 (s:List PFr):addm s []=s:=by cases s <;> simp [addm]
theorem X2f {A B:List Pl} {o:Nat} (h:o<A.length) (xs:List Int):X15 (A ++ B) o xs=X15 A o xs ++ B:=by
 unfold X15
 refine Y17 fun i=>?_
 rw [Y1j,Y21,Y21,List.length_modify,Y1j]
 by_cases e:o=i
 ·subst e; simp [h]
 ·simp [e]
theorem X5z (A:List Pl) (k c:Int) (d xs:List Int) (B:List Pl):X15 (A ++ (k,c,d)::B) A.length xs=A ++ (k,c,xs)::B:=by
 unfold X15
 refine Y17 fun i=>?_
 rw [Y1j]
 by_cases e:A.length=i
 ·subst e; simp
 ·simp [e]
  rcases Y1c i A.length with hi | hi
  ·rw [Ya hi,Ya hi]
  ·obtain ⟨j,rfl⟩:∃ j,i=A.length+(j+1):=⟨i - A.length - 1,by omega⟩
   rw [Yn (by omega),Yn (by omega)]
   simp
theorem X9y {A:List Pl} {o:Nat} {k c:Int} {d:List Int} (h:A[o]?=some (k,c,d)):X15 A o d=A:=by
 unfold X15
 refine Y17 fun i=>?_
 rw [Y1j]
 by_cases e:o=i
 ·subst e; simp [h]
 ·simp [e]
theorem X8v (A:List Pl) (o:Nat) (x y:List Int):X15 (X15 A o x) o y=X15 A o y:=by
 unfold X15
 refine Y17 fun i=>?_
 rw [Y1j,Y1j,Y1j]
 by_cases e:o=i
 ·subst e; simp [Y3u,Function.comp_def]
 ·simp [e]
theorem X34 (A:List Pl) (o:Nat) (x:List Int):(X15 A o x).length=A.length:=by simp [X15]
theorem X2b (n o:Nat):∀ (p:Pt) (A:List Pl) (k c:Int) (d:List Int),A[o]?=some (k,c,d) →
  X3x n o (A ++ pls [] p A.length) d (marks p A.length)=X15 A o (d ++ tos p A.length) ++ pls [(n:Int)] p A.length
 | .nil,A,k,c,d,h=>by simp [pls,marks,X3x,tos,X9y h]
 | .lit k' c' r,A,k,c,d,h=>by
  have ho:o<A.length:=(Y0.1 h).1
  have ih:=X2b n o r (A ++ [(k',c',[])]) k c d (by rw [Ya ho]; exact h)
  rw [Y2,X2f ho] at ih
  simpa [pls,marks,tos] using ih
 | .bar r,A,k,c,d,h=>by
  have ho:o<A.length:=(Y0.1 h).1
  have ih:=X2b n o r (X15 A o (d ++ [(A.length:Int)+1]) ++ [(5,0,[(n:Int)])]) k c (d ++ [(A.length:Int)+1]) (by
   rw [Ya (by rw [X34]; exact ho)]; simp [X15,h])
  rw [Y2,X34,X2f (by rw [X34]; exact ho),X8v] at ih
  rw [marks,X3x,pls,X2f ho]
  have e:=X5z (X15 A o (d ++ [(A.length:Int)+1])) 5 0 [] [(n:Int)] (pls [] r (A.length+1))
  rw [X34] at e
  rw [e]
  simpa [pls,tos] using ih
 | .grp b r,A,k,c,d,h=>by
  have ho:o<A.length:=(Y0.1 h).1
  have ih:=X2b n o r (A ++ ((4,0,tos b (A.length+1))::(pls [((A.length+1+len b:Nat):Int)] b (A.length+1) ++ [(6,0,[])]))) k c d (by rw [Ya ho]; exact h)
  have e:(A ++ ((4,0,tos b (A.length+1))::(pls [((A.length+1+len b:Nat):Int)] b (A.length+1) ++ [(6,0,[])]))).length=A.length+2+len b:=by
   simp [X3f]; omega
  rw [e,X2f ho] at ih
  simpa [pls,marks,tos] using ih
theorem hd_app {l rest:List UInt8} (h:l.head?≠some 42) (h2:l=[]→rest.head?≠some 42):(l ++ rest).head?≠some 42:=by
 cases l with
 | nil=>exact h2 rfl
 | cons y l=>exact h
theorem Xbo {l:List UInt8} (h:l.head?≠some 42) (i:Int) (Q:List Pl) (stk:List PFr) (ats:List Int):cmpGo (42::l) i Q stk ats=cmpGo l (i+1) (Q ++ [(3,0,[])]) stk ats:=by
 rw [X1a,if_neg (by decide),if_pos (by decide)]
 cases l with
 | nil=>rfl
 | cons d r =>
  have hd:¬ d.toNat=42:=fun e=>h (by rw [List.head?_cons]; exact congrArg _ (Y2r.1 e))
  simp only [hd,if_false]
theorem X31 {c:UInt8} {n:UInt8} (h:c≠n):¬ c.toNat=n.toNat:=fun e=>h (Y2r.1 e)
theorem Xcx {l:List UInt8} {p:Pt} (h:Rep l p):∀ (rest:List UInt8) (i:Int) (Q:List Pl) (stk:List PFr) (ats:List Int),(l.getLast?=some 42→rest.head?≠some 42)→(p.flat∨stk≠[])→ats.length=stk.length→stk.length≤4 →
  (p.dep+stk.length≤4→cmpGo (l ++ rest) i Q stk ats=cmpGo rest (i+l.length) (Q ++ pls [] p Q.length) (addm stk (marks p Q.length)) ats)∧(4<p.dep+stk.length→∀ X,cmpGo (l ++ rest) i Q stk ats≠.ok X):=by
 have sub:∀ {x:UInt8} {l rest:List UInt8},((x::l).getLast?=some 42→rest.head?≠some 42)→l.getLast?=some 42→rest.head?≠some 42:=by
  intro x l rest h1 h2
  refine h1 ?_
  cases l with
  | nil=>simp at h2
  | cons y l=>simpa using h2
 have suba:∀ {t l rest:List UInt8},((t ++ 41::l).getLast?=some 42→rest.head?≠some 42)→l.getLast?=some 42→rest.head?≠some 42:=by
  intro t l rest h1 h2
  refine h1 ?_
  rw [List.getLast?_append]
  cases l with
  | nil=>simp at h2
  | cons y l=>simp at h2 ⊢; simp [h2]
 induction h with
 | nil=>intro rest i Q stk ats _ _ _ h4; simp [pls,marks,Xf2,dep]; intro hh; omega
 | @one l p _ ih =>
  intro rest i Q stk ats hs hf ha h4
  have:=ih rest (i+1) (Q ++ [(1,0,[])]) stk ats (sub hs) hf ha h4
  rw [Yr,X1a,if_pos (show (63:UInt8).toNat=63 by decide)]
  simpa [pls,marks,dep,Int.add_assoc,Int.add_comm,Int.add_left_comm] using this
 | @all l p _ ih =>
  intro rest i Q stk ats hs hf ha h4
  have:=ih rest (i+2) (Q ++ [(2,0,[])]) stk ats (sub (sub hs)) hf ha h4
  rw [Yr,X1a,if_neg (show ¬ (42:UInt8).toNat=63 by decide),if_pos (show (42:UInt8).toNat=42 by decide)]
  simp only [Yr]
  rw [if_pos (show (42:UInt8).toNat=42 by decide)]
  rw [show i+((42::42::l).length:Nat)=i+2+(l.length:Int) by simp; omega]
  simpa [pls,marks,dep] using this
 | @few l p h1 _ ih =>
  intro rest i Q stk ats hs hf ha h4
  have:=ih rest (i+1) (Q ++ [(3,0,[])]) stk ats (sub hs) hf ha h4
  rw [Yr,Xbo (hd_app h1 fun e=>by subst e; exact hs rfl)]
  rw [show i+((42::l).length:Nat)=i+1+(l.length:Int) by simp; omega]
  simpa [pls,marks,dep] using this
 | @bar l p _ ih =>
  intro rest i Q stk ats hs hf ha h4
  cases stk with
  | nil=>rcases hf with hf | hf; exact hf.elim; exact absurd rfl hf
  | cons f stk =>
   obtain ⟨o,bs⟩:=f
   have:=ih rest (i+1) (Q ++ [(5,0,[])]) ((o,bs ++ [Q.length])::stk) ats (sub hs) (.inr (by simp)) ha h4
   rw [Yr,X1a,if_neg (show ¬ (124:UInt8).toNat=63 by decide),if_neg (show ¬ (124:UInt8).toNat=42 by decide),if_neg (show ¬ (124:UInt8).toNat=40 by decide),if_pos (show (124:UInt8).toNat=124 by decide)]
   simp only []
   rw [show i+((124::l).length:Nat)=i+1+(l.length:Int) by simp; omega]
   simpa [pls,marks,dep,addm] using this
 | @esc l p c _ ih =>
  intro rest i Q stk ats hs hf ha h4
  have:=ih rest (i+2) (Q ++ [(0,(c.toNat:Int),[])]) stk ats (sub (sub hs)) hf ha h4
  rw [Yr,X1a,if_neg (show ¬ (92:UInt8).toNat=63 by decide),if_neg (show ¬ (92:UInt8).toNat=42 by decide),if_neg (show ¬ (92:UInt8).toNat=40 by decide),if_neg (show ¬ (92:UInt8).toNat=124 by decide),if_neg (show ¬ (92:UInt8).toNat=41 by decide),if_pos (show (92:UInt8).toNat=92 by decide)]
  simp only [Yr]
  rw [show i+((92::c::l).length:Nat)=i+2+(l.length:Int) by simp; omega]
  simpa [pls,marks,dep] using this
 | @byte l p c h1 h2 h3 h4' h5 h6 _ ih =>
  intro rest i Q stk ats hs hf ha h4
  have:=ih rest (i+1) (Q ++ [(0,(c.toNat:Int),[])]) stk ats (sub hs) hf ha h4
  rw [Yr,X1a,if_neg (show ¬ c.toNat=63 from X31 h1),if_neg (show ¬ c.toNat=42 from X31 h2),if_neg (show ¬ c.toNat=40 from X31 h3),if_neg (show ¬ c.toNat=124 from X31 h4'),if_neg (show ¬ c.toNat=41 from X31 h5),if_neg (show ¬ c.toNat=92 from X31 h6)]
  rw [show i+((c::l).length:Nat)=i+1+(l.length:Int) by simp; omega]
  simpa [pls,marks,dep] using this
 | @grp t l b p _ _ ihb ih =>
  intro rest i Q stk ats hs hf ha h4
  rw [Yr,Y7,Yr,X1a,if_neg (show ¬ (40:UInt8).toNat=63 by decide),if_neg (show ¬ (40:UInt8).toNat=42 by decide),if_pos (show (40:UInt8).toNat=40 by decide)]
  by_cases h5:stk.length=4
  ·rw [if_pos h5]
   refine ⟨fun h=>?_,fun _ X h=>by cases h⟩
   simp [dep] at h
   omega
  ·rw [if_neg h5]
   have h1:=ihb (41::(l ++ rest)) (i+1) (Q ++ [(4,0,[])]) ((Q.length,[])::stk) (ats ++ [i]) (fun _=>by simp) (.inr (by simp)) (by simp [ha]) (by simp; omega)
   by_cases h6:b.dep+(stk.length+1)≤4
   ·have h7:=h1.1 (by simpa using h6)
    rw [h7]
    have h8:=ih rest (i+1+t.length+1) (Q ++ ((4,0,tos b (Q.length+1))::(pls [((Q.length+1+len b:Nat):Int)] b (Q.length+1) ++ [(6,0,[])]))) stk ats (suba (sub hs)) hf ha h4
    have hc:=X2b (Q.length+1+len b) Q.length b (Q ++ [(4,0,[])]) 4 0 [] (by simp)
    have hl:=X5z Q 4 0 [] (tos b (Q.length+1)) []
    simp only [Y2,List.length_singleton,Y1e] at hc
    rw [hl] at hc
    rw [X1a,if_neg (show ¬ (41:UInt8).toNat=63 by decide),if_neg (show ¬ (41:UInt8).toNat=42 by decide),if_neg (show ¬ (41:UInt8).toNat=40 by decide),if_neg (show ¬ (41:UInt8).toNat=124 by decide),if_pos (show (41:UInt8).toNat=41 by decide)]
    simp only [Xch,Y2,List.length_singleton,Y1e,X3f]
    rw [hc]
    have ht:(ats ++ [i]).take stk.length=ats:=by rw [← ha]; simp
    rw [ht]
    have e1:(Q ++ ((4,0,tos b (Q.length+1))::(pls [((Q.length+1+len b:Nat):Int)] b (Q.length+1) ++ [(6,0,[])]))).length=Q.length+2+len b:=by simp [X3f]; omega
    rw [e1] at h8
    have e2:i+((40::(t ++ 41::l)).length:Nat)=i+1+t.length+1+l.length:=by simp; omega
    rw [e2]
    have e3:4<(Pt.grp b p).dep+stk.length ↔ 4<p.dep+stk.length:=by simp [dep]; omega
    have e4:(Pt.grp b p).dep+stk.length≤4 ↔ p.dep+stk.length≤4:=by simp [dep]; omega
    rw [e3,e4]
    simpa [pls,marks] using h8
   ·refine ⟨fun h=>?_,fun _=>h1.2 (by simp; omega)⟩
    simp [dep] at h
    omega
end Pat
namespace Pat
open Go Gk Pt
inductive Splits:Nat→List UInt8→Prop
 | last {l p}:Rep l p→p.flat→p.dep≤4→Splits 0 l
 | more {d t l p}:Rep t p→p.dep+(d+1)≤4→Splits d l→Splits (d+1) (t ++ 41::l)
theorem Splits.lit {d:Nat} {l pre:List UInt8} {k c:Int} (h:Splits d l) (hp:∀ {t p},(t.head?=some 42→l.head?=some 42)→Rep t p→Rep (pre ++ t) (.lit k c p)):Splits d (pre ++ l):=by
 cases h with
 | last h1 h2 h3=>exact .last (hp (fun h=>h) h1) h2 h3
 | @more d t l p h1 h2 h3 =>
  rw [← Y7]
  refine .more (hp ?_ h1) h2 h3
  intro e
  cases t with
  | nil=>simp at e
  | cons x t=>simpa using e
theorem Splits.grp {d:Nat} {t l:List UInt8} {b:Pt} (h:Splits d l) (h1:Rep t b) (h2:b.dep+(d+1)≤4):Splits d (40::(t ++ 41::l)):=by
 cases h with
 | @last _ p k1 k2 k3=>exact .last (.grp h1 k1) k2 (by simp [dep]; omega)
 | @more d t2 l2 p k1 k2 k3 =>
  have:=Splits.more (.grp h1 k1) (by simp [dep]; omega) k3
  simpa using this
theorem X4x {l:List UInt8} {p:Pt} (h:Rep l p) (hf:p.flat) (hl:l.length≤200) (hd:p.dep≤4):cmp l=.ok (pls [] p 0 ++ [(7,0,[])]):=by
 have h5:=(Xcx h [] 0 [] [] [] (fun _=>by simp) (.inl hf) rfl (by simp)).1 (by simpa using hd)
 rw [cmp,if_neg (by omega)]
 rw [Y1d,Xcw] at h5
 simpa using h5
def Succ (Q:List Pl) (i j:Nat):Prop:=(Xgh (Q.getD i (7,0,[])).1=true∧j=i+1)∨(∃ t∈(Q.getD i (7,0,[])).2.2,j=t.toNat)
def Cl (Q:List Pl) (a b:List Bool):Prop:=SubB a b∧∀ x,b.getD x false=true→a.getD x false=false→∀ y,Succ Q x y→b.getD y false=true
theorem Cl.refl (Q:List Pl) (a:List Bool):Cl Q a a:=⟨SubB.refl a,fun x h k=>by rw [h] at k; cases k⟩
theorem Cl.trans {Q:List Pl} {a b c:List Bool} (h:Cl Q a b) (k:Cl Q b c):Cl Q a c:=by
 refine ⟨h.1.trans k.1,fun x hx hn y hy=>?_⟩
 cases hb:b.getD x false with
 | true=>exact k.1.2 y (h.2 x hb hn y hy)
 | false=>exact k.2 x hx hb y hy
def Closed (Q:List Pl) (s:List Bool):Prop:=∀ x,s.getD x false=true→∀ y,Succ Q x y→s.getD y false=true
theorem Closed.cl {Q:List Pl} {a b:List Bool} (h:Closed Q a) (k:Cl Q a b):Closed Q b:=by
 intro x hx y hy
 cases ha:a.getD x false with
 | true=>exact k.1.2 y (h x ha y hy)
 | false=>exact k.2 x hx ha y hy
theorem Xfp (n x:Nat):(List.replicate n false).getD x false=false:=by
 rw [Y8,Y3l]; split <;> rfl
section
variable {Q:List Pl} (hW:WF Q) {F:Nat} (hF:Q.length<F) (now:List Bool) (c:UInt8)
end
end Pat
namespace Pat
open Go Gk Pt
abbrev Lang:=List UInt8→Prop
def cat (A B:Lang):Lang:=fun s=>∃ u v,s=u ++ v∧A u∧B v
namespace Pt
def ok:Pt→Prop
 | nil=>True
 | lit k _ r=>(0≤k∧k≤3)∧ok r
 | bar r=>ok r
 | grp b r=>ok b∧ok r
end Pt
theorem Rep.ok {l:List UInt8} {p:Pt} (h:Rep l p):p.ok:=by
 induction h with
 | nil=>trivial
 | one _ ih=>exact ⟨⟨by decide,by decide⟩,ih⟩
 | all _ ih=>exact ⟨⟨by decide,by decide⟩,ih⟩
 | few _ _ ih=>exact ⟨⟨by decide,by decide⟩,ih⟩
 | grp _ _ h1 h2=>exact ⟨h1,h2⟩
 | bar _ ih=>exact ih
 | esc c _ ih=>exact ⟨⟨by decide,by decide⟩,ih⟩
 | byte c _ _ _ _ _ _ _ ih=>exact ⟨⟨by decide,by decide⟩,ih⟩
theorem Rep.len {l:List UInt8} {p:Pt} (h:Rep l p):p.len≤l.length:=by
 induction h <;> simp [Pt.len] at*<;> omega
def Seg (Q:List Pl) (n:Nat) (L:List Pl):Prop:=∀ (i:Nat) (q:Pl),L[i]?=some q→Q[n+i]?=some q
theorem Seg.head {Q:List Pl} {n:Nat} {q:Pl} {L:List Pl} (h:Seg Q n (q::L)):Q[n]?=some q:=h 0 q rfl
theorem Seg.tail {Q:List Pl} {n:Nat} {q:Pl} {L:List Pl} (h:Seg Q n (q::L)):Seg Q (n+1) L:=fun i x hx=>by
 rw [show n+1+i=n+(i+1) by omega]; exact h (i+1) x (by simpa using hx)
theorem Seg.left {Q:List Pl} {n:Nat} {L M:List Pl} (h:Seg Q n (L ++ M)):Seg Q n L:=fun i x hx=>h i x (by rw [Ya (Y0.1 hx).1]; exact hx)
theorem Seg.right {Q:List Pl} {n:Nat} {L M:List Pl} (h:Seg Q n (L ++ M)):Seg Q (n+L.length) M:=fun i x hx=>by
 rw [Y10]; exact h (L.length+i) x (by rw [Yn (by omega)]; simpa using hx)
end Pat
namespace Pat
open Go Gk Pt
def seg (s:List UInt8) (i j:Nat):List UInt8:=(s.drop i).take (j - i)
theorem Xge (s:List UInt8) (i:Nat):seg s i i=[]:=by simp [seg]
theorem X8u (s:List UInt8) {i m j:Nat} (h1:i≤m) (h2:m≤j) (hj:j≤s.length):seg s i j=seg s i m ++ seg s m j:=by
 unfold seg
 rw [show j - i=(m - i)+(j - m) by omega,List.take_add,Yy,show i+(m - i)=m by omega]
theorem X9w (s:List UInt8) {i j:Nat} (hi:i≤j) (hj:j≤s.length):(seg s i j).length=j - i:=by simp [seg]; omega
theorem Xj2 (s:List UInt8) {i j:Nat} {u v:List UInt8} (hi:i≤j) (hj:j≤s.length) (h:seg s i j=u ++ v):u=seg s i (i+u.length)∧v=seg s (i+u.length) j∧i+u.length≤j:=by
 have hl:=congrArg List.length h
 rw [X9w s hi hj,Y2] at hl
 have hm:i+u.length≤j:=by omega
 rw [X8u s (Nat.le_add_right i u.length) hm hj] at h
 have:=List.append_inj h (by rw [X9w s (by omega) (by omega)]; omega)
 exact ⟨this.1.symm,this.2.symm,hm⟩
def EndsAt (s:List UInt8) (fr:List Bool) (L:Lang) (R:List Bool):Prop:=R.length=s.length+1∧∀ j,j≤s.length→(R.getD j false=true ↔ ∃ i,i≤j∧fr.getD i false=true∧L (seg s i j))
theorem EndsAt.congr {s:List UInt8} {fr R:List Bool} {L M:Lang} (h:EndsAt s fr L R) (e:∀ u,L u ↔ M u):EndsAt s fr M R :=
 ⟨h.1,fun j hj=>(h.2 j hj).trans ⟨fun ⟨i,a,b,c⟩=>⟨i,a,b,(e _).1 c⟩,fun ⟨i,a,b,c⟩=>⟨i,a,b,(e _).2 c⟩⟩⟩
theorem EndsAt.nil {s:List UInt8} {fr:List Bool} (h:fr.length=s.length+1):EndsAt s fr (fun u=>u=[]) fr:=by
 refine ⟨h,fun j hj=>⟨fun h=>⟨j,Yd _,h,Xge s j⟩,?_⟩⟩
 rintro ⟨i,h1,h2,h3⟩
 have:=X9w s h1 hj
 rw [h3] at this
 have e:i=j:=by simp at this; omega
 subst e; exact h2
theorem EndsAt.cat {s:List UInt8} {fr R1 R2:List Bool} {A B:Lang} (h:EndsAt s fr A R1) (k:EndsAt s R1 B R2):EndsAt s fr (cat A B) R2:=by
 refine ⟨k.1,fun j hj=>?_⟩
 rw [k.2 j hj]
 constructor
 ·rintro ⟨m,h1,h2,h3⟩
  obtain ⟨i,h4,h5,h6⟩:=(h.2 m (by omega)).1 h2
  exact ⟨i,by omega,h5,_,_,X8u s h4 h1 hj,h6,h3⟩
 ·rintro ⟨i,h1,h2,u,v,h3,h4,h5⟩
  obtain ⟨e1,e2,e3⟩:=Xj2 s h1 hj h3
  refine ⟨i+u.length,e3,(h.2 _ (by omega)).2 ⟨i,by omega,h2,?_⟩,?_⟩
  ·rw [← e1]; exact h4
  ·rw [← e2]; exact h5
def orAt (R1:List Bool) (out:List Bool) (k:Nat):List Bool:=out.set k (out.getD k false || R1.getD k false)
theorem X8n (R1 out:List Bool):∀ k,(iter (orAt R1) out k).length=out.length∧∀ j,j<out.length→(iter (orAt R1) out k).getD j false=(out.getD j false || (decide (j<k) && R1.getD j false))
 | 0=>⟨rfl,fun j _=>by simp [iter]⟩
 | k+1=>by
  obtain ⟨h1,h2⟩:=X8n R1 out k
  rw [iter]
  unfold orAt at h1 h2 ⊢
  refine ⟨by rw [Y35]; exact h1,fun j hj=>?_⟩
  rw [Y8,Y1f]
  by_cases e:k=j
  ·subst e
   simp only [if_true,h1,hj,Y25]
   rw [h2 k hj]
   simp
  ·simp only [e,if_false]
   rw [← Y8,h2 j hj]
   have:decide (j<k+1)=decide (j<k):=by simp; omega
   rw [this]
theorem EndsAt.or {s:List UInt8} {fr R1 R2:List Bool} {A B:Lang} (h:EndsAt s fr A R1) (k:EndsAt s fr B R2):EndsAt s fr (fun u=>A u∨B u) (iter (orAt R2) R1 (s.length+1)):=by
 obtain ⟨h1,h2⟩:=X8n R2 R1 (s.length+1)
 refine ⟨h1.trans h.1,fun j hj=>?_⟩
 rw [h2 j (by rw [h.1]; omega),Y29,Y5,decide_eq_true_eq,h.2 j hj,k.2 j hj]
 constructor
 ·rintro (⟨i,a,b,c⟩ | ⟨_,i,a,b,c⟩)
  ·exact ⟨i,a,b,.inl c⟩
  ·exact ⟨i,a,b,.inr c⟩
 ·rintro ⟨i,a,b,c | c⟩
  ·exact .inl ⟨i,a,b,c⟩
  ·exact .inr ⟨by omega,i,a,b,c⟩
theorem EndsAt.none (s:List UInt8) (fr:List Bool):EndsAt s fr (fun _=>False) (List.replicate (s.length+1) false) :=
 ⟨by simp,fun j hj=>⟨fun h=>(by rw [Xfp] at h; cases h),fun ⟨_,_,_,h⟩=>h.elim⟩⟩
inductive Alts:List UInt8→Pt→Int→List Int→Prop
 | last {t b} (i:Int):Rep t b→b.flat→Alts t b i []
 | more {t1 b1 t2 b2 ps} (i:Int):Rep t1 b1→b1.flat→Alts t2 b2 (i+t1.length+1) ps→Alts (t1 ++ 124::t2) (b1.app (.bar b2)) i ((i+t1.length)::ps)
theorem Alts.pre {x t:List UInt8} {b:Pt} {i:Int} {ps:List Int} {f:Pt→Pt} (hf:∀ p,p.flat→(f p).flat) (hfa:∀ p q,f (p.app q)=(f p).app q) (h:Alts t b (i+x.length) ps) (hp:∀ {t1 p},(t1.head?=some 42→t.head?=some 42)→Rep t1 p→Rep (x ++ t1) (f p)):Alts (x ++ t) (f b) i ps:=by
 cases h with
 | last _ h1 h2=>exact .last i (hp (fun h=>h) h1) (hf _ h2)
 | @more t1 b1 t2 b2 ps _ h1 h2 h3 =>
  rw [← Y7,hfa]
  have e:i+(x.length:Int)+(t1.length:Int)=i+((x ++ t1).length:Int):=by simp; omega
  rw [e] at h3 ⊢
  refine .more i (hp ?_ h1) (hf _ h2) h3
  intro e
  cases t1 with
  | nil=>simp at e
  | cons y t1=>simpa using e
def spc (c:UInt8):Bool:=((((((c.toNat:Int) == 63) || ((c.toNat:Int) == 42)) || ((c.toNat:Int) == 40)) || ((c.toNat:Int) == 41)) || ((c.toNat:Int) == 124)) || ((c.toNat:Int) == 92)
def lit:List UInt8→List UInt8
 | []=>[]
 | c::l=>(bif spc c then [92,c] else [c]) ++ lit l
end Pat
namespace Go.Proofs.YtokmddjcdfailaaGreatDoor
open Gk Pat
def z0:Sv:=⟨0,0,[],false,false,false,[],[]⟩
def right (l:List Sv):Prop:=∀ s∈l,(∃ Q,cmp s.urls=.ok Q)∧∃ Q,cmp s.calls=.ok Q
def Xfj (s:Sv) (a:Option Addr) (c:Nat) (p q:Addr):List Value:=[I64 s.id,F64 s.ord,S s.urls,.bool s.login,.bool s.proxy,.bool s.back,S s.calls,.slice a s.rel.length c,.pointer (some p),.pointer (some q)]
def EntAt (I:Im) (s:Sv) (l:List Value):Prop:=∃ a c p q Q R,l=Xfj s a c p q∧s.rel.length≤c∧RS I a 1 s.rel.length (s.rel.map S)∧cmp s.urls=.ok Q∧PatI I p Q s.urls.length∧cmp s.calls=.ok R∧PatI I q R s.calls.length
def EntsIn (I:Im) (a:Option Addr) (E:List (List Value)) (l:List Sv):Prop:=E.length=l.length∧∀ (i:Nat) (s:Sv),l[i]?=some s→∃ p c,a=some p∧E[i]?=some c∧At I (p.add (i*10)) c∧EntAt I s c
def EntsW (w:World) (I:Im) (a:Option Addr) (l:List Sv):Prop:=∀ (i:Nat) (s:Sv),l[i]?=some s→∃ p c,a=some p∧(∀ (j:Nat) v,c[j]?=some v→w.cell? ((p.add (i*10)).add j)=some v)∧EntAt I s c
theorem EntsIn.now {B w:World} {I:Im} {As:List Xe} {a:Option Addr} {E:List (List Value)} {l:List Sv} (h:EntsIn I a E l) (hS:Sat B w I As):EntsW w I a l:=fun i s hs=>by
 obtain ⟨p,c,e,_,h1,h2⟩:=h.2 i s hs
 exact ⟨p,c,e,fun j v hj=>X98 hS h1 hj,h2⟩
end Go.Proofs.YtokmddjcdfailaaGreatDoor
namespace Go.Proofs.YtokmddjcdfailaaGreatDoor
open Gk Ul Pc Tk Tr
theorem SepAll.app:∀ {Xs As:List Xe} {h:X3h},SepAll (Xs ++ As) h ↔ ∃ h1 h2,h=h1 ++ h2∧SepAll Xs h1∧SepAll As h2
 | [],As,h=>⟨fun hs=>⟨[],h,rfl,rfl,hs⟩,fun ⟨h1,h2,e,h3,h4⟩=>by
   have h3:h1=[]:=h3
   subst h3; subst e; exact h4⟩
 | X::Xs,As,h=>by
  constructor
  ·rintro ⟨h1,h2,rfl,hx,hs⟩
   obtain ⟨h3,h4,rfl,h5,h6⟩:=(SepAll.app (Xs:=Xs)).1 hs
   exact ⟨h1 ++ h3,h4,by rw [Y7],⟨h1,h3,rfl,hx,h5⟩,h6⟩
  ·rintro ⟨h1,h2,rfl,⟨h3,h4,rfl,hx,h5⟩,h6⟩
   exact ⟨h3,h4 ++ h2,by rw [Y7],hx,(SepAll.app (Xs:=Xs)).2 ⟨h4,h2,rfl,h5,h6⟩⟩
def Box {X:Type} (T:X→List Xe):Xe:=fun h=>∃ x,SepAll (T x) h
theorem Sat.box {X:Type} {T:X→List Xe} {B w:World} {I:Im} {As:List Xe} (x:X) (hS:Sat B w I (T x ++ As)):Sat B w I (Box T::As):=by
 obtain ⟨h,hs,hg⟩:=hS
 obtain ⟨h1,h2,rfl,h3,h4⟩:=SepAll.app.1 hs
 exact ⟨h1 ++ h2,⟨h1,h2,rfl,⟨x,h3⟩,h4⟩,hg⟩
def roomI (n:Int):Int:=max 0 (min n 64)
end Go.Proofs.YtokmddjcdfailaaGreatDoor
