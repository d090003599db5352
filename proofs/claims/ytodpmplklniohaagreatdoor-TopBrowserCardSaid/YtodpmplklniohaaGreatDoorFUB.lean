/- Part 2 of what the proof stands on. -/
import Derived.Test.YtodpmplklniohaaGreatDoorFUA
set_option linter.unusedVariables false
set_option linter.unusedSimpArgs false
set_option maxHeartbeats 2000000
set_option maxRecDepth 20000
set_option synthInstance.maxHeartbeats 400000
set_option synthInstance.maxSize 10000
open Go Gk
variable {p:Addr}{Ad:Array Bool}{af:Array Edge}{fs:Array Field}{ops GJ:Array Oper}{ts:Array TypeId}{held want:Bool}{R:Ending->Wo->Prop}{L L' M:AK}{fd:Field}{fn:Func}{f:FuncId}{I J:Im}{Fx FA kind FH:Int}{As BT Hs:La}{G:List (Bool×Bool)}{pl:List (Nat×Nat)}{T:List Int}{D ks:List Nat}{rest:List Oper}{Ay Bi key nm pw Ap u:Lu}{args cs ds news vs xs zs:Lv}{b bytes c cap d d0 d1 db fuel i k kb lg m n n0 nn o size:Nat}{nd sp:Nat->Bool}{ps:Nat->Int}{a a0 ka:Oa}{op:Op}{P:Program}{S1 S2 g1 g2:Prop}{pos:String}{H X α β σ:Type}{E dst src t' ty:TypeId}{us v v0:Va}{B w:Wo}{C:Wo->Prop}{A:X1}{K K':BK}
namespace Go.Proofs.W9
open Gk Go Tryz
instance:Ph prog 30 (.float .f64 0) 1 8:=⟨t30,by kernel_rfl,O,O,O,O⟩
instance:Ph prog 58 (.agg #[S [],S []]) 2 32:=⟨t58,by kernel_rfl,O,O,O,O⟩
instance:Ph prog 89 (.agg #[S [],S [],Ab 0,Ab 0]) 4 48:=⟨t89,by kernel_rfl,O,O,O,O⟩
instance:Ph prog 138 (.agg #[S [],.slice none 0 0,S [],.slice none 0 0]) 4 80:=⟨t138,by kernel_rfl,O,O,O,O⟩
instance:Ph prog 148 (.agg #[S [],S [],S [],Ab 0,.bool false,.bool false]) 6 64:=⟨t148,by kernel_rfl,O,O,O,O⟩
instance:Ph prog 172 (.slice none 0 0) 1 24:=⟨t172,by kernel_rfl,O,O,O,O⟩
instance:Ph prog 188 (.agg #[Ab 0,S [],S [],S [],S [],S [],Ab 0,Ab 0,Ab 0,.bool false]) 10 120:=⟨t188,by kernel_rfl,O,O,O,O⟩
instance:Ph prog 243 (.agg #[Ab 0,.float .f64 0,S [],.bool false,.bool false,.bool false,S [],.slice none 0 0,.pointer none,.pointer none]) 10 96:=⟨t243,by kernel_rfl,O,O,O,O⟩
instance:Ph prog 248 (.slice none 0 0) 1 24:=⟨t248,by kernel_rfl,O,O,O,O⟩
instance:Ph prog 270 (.agg #[S [],S [],.bool false]) 3 40:=⟨t270,by kernel_rfl,O,O,O,O⟩
instance:Ph prog 497 (.agg #[.int .u8 0,.int .u8 0,.slice none 0 0]) 3 32:=⟨t497,by kernel_rfl,O,O,O,O⟩
instance:Sz prog 3 1:=⟨BU⟩
instance:Sz prog 4 1:=⟨EY⟩
instance:Sz prog 5 1:=⟨FJ⟩
instance:Sz prog 9 1:=⟨Bf⟩
instance:Sz prog 22 1:=⟨US⟩
instance:Sz prog 30 1:=⟨KX⟩
instance:Sz prog 32 28:=⟨kl⟩
instance:Sz prog 34 1:=⟨sizeOf34⟩
instance:Sz prog 45 1:=⟨sizeOf45⟩
instance:Sz prog 46 1:=⟨JE⟩
instance:Sz prog 48 3:=⟨Zl⟩
instance:Sz prog 52 2:=⟨sizeOf52⟩
instance:Sz prog 58 2:=⟨DU⟩
instance:Sz prog 63 1:=⟨sizeOf63⟩
instance:Sz prog 66 1:=⟨sizeOf66⟩
instance:Sz prog 69 1:=⟨Po⟩
instance:Sz prog 71 8:=⟨KY⟩
instance:Sz prog 73 3:=⟨Jz⟩
instance:Sz prog 75 1:=⟨Z4⟩
instance:Sz prog 81 1:=⟨Z5⟩
instance:Sz prog 89 4:=⟨Z6⟩
instance:Sz prog 93 1:=⟨sizeOf93⟩
instance:Sz prog 104 1:=⟨sizeOf104⟩
instance:Sz prog 105 1:=⟨sizeOf105⟩
instance:Sz prog 118 4:=⟨sizeOf118⟩
instance:Sz prog 136 1:=⟨x7⟩
instance:Sz prog 138 4:=⟨Gb⟩
instance:Sz prog 148 6:=⟨MO⟩
instance:Sz prog 167 1:=⟨sizeOf167⟩
instance:Sz prog 172 1:=⟨Jf⟩
instance:Sz prog 178 5:=⟨sizeOf178⟩
instance:Sz prog 188 10:=⟨UJ⟩
instance:Sz prog 243 10:=⟨sG⟩
instance:Sz prog 248 1:=⟨x8⟩
instance:Sz prog 260 3:=⟨Mi⟩
instance:Sz prog 270 3:=⟨x_⟩
instance:Sz prog 295 6:=⟨sizeOf295⟩
instance:Sz prog 310 4:=⟨sizeOf310⟩
instance:Sz prog 329 1:=⟨Q2⟩
instance:Sz prog 358 32:=⟨ql⟩
instance:Sz prog 360 33:=⟨qm⟩
instance:Sz prog 394 6:=⟨sizeOf394⟩
instance:Sz prog 403 4:=⟨sizeOf403⟩
instance:Sz prog 406 3:=⟨ya⟩
instance:Sz prog 428 1:=⟨sizeOf428⟩
instance:Sz prog 429 1:=⟨sizeOf429⟩
instance:Sz prog 491 1:=⟨sizeOf491⟩
instance:Sz prog 497 3:=⟨Q4⟩
instance:Sz prog 520 1:=⟨sizeOf520⟩
instance:Un prog 3 (.int .i64):=⟨Dq⟩
instance:Un prog 5 (.int .u8):=⟨CY⟩
instance:Un prog 9 .string:=⟨BV⟩
instance:Un prog 25 (.slice 71):=⟨underlying25⟩
instance:Un prog 26 (.slice 73):=⟨underlying26⟩
instance:Un prog 37 (.pointer 84):=⟨underlying37⟩
instance:Un prog 45 (.slice 22):=⟨ky⟩
instance:Un prog 46 (.slice 58):=⟨H2⟩
instance:Un prog 63 (.slice 148):=⟨kB⟩
instance:Un prog 66 (.slice 188):=⟨Uo⟩
instance:Un prog 69 (.slice 9):=⟨OX⟩
instance:Un prog 93 (.slice 89):=⟨kC⟩
instance:Un prog 103 (.slice 358):=⟨underlying103⟩
instance:Un prog 104 (.slice 360):=⟨Z7⟩
instance:Un prog 105 (.slice 4):=⟨MR⟩
instance:Un prog 136 (.slice 138):=⟨MS⟩
instance:Un prog 170 (.slice 172):=⟨MU⟩
instance:Un prog 172 (.slice 5):=⟨Db⟩
instance:Un prog 173 (.slice 270):=⟨Q9⟩
instance:Un prog 239 (.slice 243):=⟨MV⟩
instance:Un prog 240 (.slice 30):=⟨MW⟩
instance:Un prog 248 (.slice 3):=⟨sJ⟩
instance:Un prog 329 (.pointer 331):=⟨yd⟩
instance:Un prog 428 (.slice 497):=⟨underlying428⟩
instance:Un prog 429 (.slice 248):=⟨underlying429⟩
instance:Un prog 489 (.slice 491):=⟨Ri⟩
-- Un 492
instance:Zv prog 3 (Ab 0):=⟨M7⟩
instance:Zv prog 5 (.int .u8 0):=⟨OG⟩
instance:Zv prog 9 (S []):=⟨K8⟩
instance:Zv prog 22 (.int .u64 0):=⟨rV⟩
instance:Zv prog 30 (.float .f64 0):=⟨zeroValue30⟩
instance:Zv prog 32 (.agg #[.slice none 0 0,.slice none 0 0,Ab 0,Ab 0,Ab 0,Ab 0,Ab 0,Ab 0,Ab 0,Ab 0,Ab 0,Ab 0,Ab 0,Ab 0,Ab 0,Ab 0,Ab 0,Ab 0,Ab 0,Ab 0,Ab 0,Ab 0,Ab 0,Ab 0,.float .f64 0,.float .f64 0,.float .f64 0,Ab 0]):=⟨zeroValue32⟩
instance:Zv prog 34 (Ab 0):=⟨zeroValue34⟩
instance:Zv prog 48 (.agg #[Ab 0,.slice none 0 0,S []]):=⟨zeroValue48⟩
instance:Zv prog 52 (.agg #[S [],S []]):=⟨zeroValue52⟩
instance:Zv prog 58 (.agg #[S [],S []]):=⟨zeroValue58⟩
instance:Zv prog 69 (.slice none 0 0):=⟨aC⟩
instance:Zv prog 71 (.agg #[Ab 0,.float .f64 0,S [],.bool false,.bool false,.bool false,S [],.slice none 0 0]):=⟨zeroValue71⟩
instance:Zv prog 73 (.agg #[S [],S [],.slice none 0 0]):=⟨aD⟩
instance:Zv prog 89 (.agg #[S [],S [],Ab 0,Ab 0]):=⟨zeroValue89⟩
instance:Zv prog 101 (.agg #[.pointer none,.pointer none,.pointer none,.pointer none,Ab 0,Ab 0,Ab 0,Ab 0,Ab 0,Ab 0,Ab 0,Ab 0,Ab 0,Ab 0,Ab 0,Ab 0,Ab 0,Ab 0,Ab 0,Ab 0,Ab 0,Ab 0,Ab 0,Ab 0,Ab 0,Ab 0]):=⟨zeroValue101⟩
instance:Zv prog 118 (.agg #[S [],S [],.slice none 0 0,S []]):=⟨an⟩
instance:Zv prog 138 (.agg #[S [],.slice none 0 0,S [],.slice none 0 0]):=⟨zeroValue138⟩
instance:Zv prog 148 (.agg #[S [],S [],S [],Ab 0,.bool false,.bool false]):=⟨aq⟩
instance:Zv prog 172 (.slice none 0 0):=⟨M5⟩
instance:Zv prog 178 (.agg #[Ab 0,.float .f64 0,.float .f64 0,.float .f64 0,.slice none 0 0]):=⟨zeroValue178⟩
instance:Zv prog 188 (.agg #[Ab 0,S [],S [],S [],S [],S [],Ab 0,Ab 0,Ab 0,.bool false]):=⟨au⟩
instance:Zv prog 243 (.agg #[Ab 0,.float .f64 0,S [],.bool false,.bool false,.bool false,S [],.slice none 0 0,.pointer none,.pointer none]):=⟨ay⟩
instance:Zv prog 248 (.slice none 0 0):=⟨zeroValue248⟩
instance:Zv prog 260 (.agg #[Ab 0,Ab 0,Ab 0]):=⟨zeroValue260⟩
instance:Zv prog 270 (.agg #[S [],S [],.bool false]):=⟨zeroValue270⟩
instance:Zv prog 295 (.agg #[S [],S [],.bool false,.bool false,.bool false,.bool false]):=⟨zeroValue295⟩
instance:Zv prog 310 (.agg #[S [],.slice none 0 0,.slice none 0 0,S []]):=⟨zeroValue310⟩
instance:Zv prog 331 (.agg #[.pointer none,.slice none 0 0]):=⟨aA⟩
instance:Zv prog 394 (.agg #[S [],S [],Ab 0,S [],S [],.bool false]):=⟨zeroValue394⟩
instance:Zv prog 406 (.agg #[S [],S [],S []]):=⟨zeroValue406⟩
instance:Zv prog 491 (.nilFunc):=⟨zeroValue491⟩
instance:Zv prog 497 (.agg #[.int .u8 0,.int .u8 0,.slice none 0 0]):=⟨zeroValue497⟩
instance:Zv prog 520 (.nilFunc):=⟨zeroValue520⟩
attribute [instance] i3 i4 i5 i6 i7 i8 i9 i10 i11 i12 i13 i14 i15 i16 i17 i18 i19 i20 i21 i22 i23 i24 i25 i26 i28 i29 i30 i31 i32 i33 i34 i35 i36 i37 i38 i39 i40 i41 i42 i43 i44 i45 i46 i47 i48 i49 i50 i51 i52 i53 i54 i55 i56 i57 i58 i59 i60 i61 i62 i64 i65 i66 i67 i68 i69 i70 i72 i73 i75 i76 i77 i78 i79 i81 i82 i83 i84 i85 i86 i87 i88 i89 i90 i91 i92 i93 i94 i95 i96 i97 i98 i99 AdD AdE AdF AdG AdH i105 AdI i107 AdJ i109 AdK AdL AdM AdN AdO AdP AdQ i117 AdR AdS AdT AdU AdV AdW i124 AdX AdY i127 AdZ Ad0 i130 i131 Ad1 Ad2 Ad3 Ad4 Ad5 i138 i139 Ad6 i141 Ad7 i143 Ad8 i145 i146 Ad9 Ad_ Aea Aeb i154 Aec Aed i157 i159 i160 Aee i167 i168 Aef Aeg i171 Aeh i173 Aei i175 Aej Aek Ael Aem Aen Aeo i182 i183 Aep Aeq Aer Aes Aet Aeu Aev Aew Aex i193 i194 Aey i196 Aez AeA AeB i201 AeC AeD AeE i206 AeF i208 AeG i210 AeH AeI AeJ AeK AeL AeM i218 AeN AeO i222 AeP AeQ AeR i226 i227 i228 i229 AeS AeT i232 i233 i234 AeU i236 AeV AeW AeX AeY AeZ Ae0 Ae1 Ae2 Ae3 Ae4 Ae5 Ae6 Ae7 Ae8 Ae9 Ae_ Afa Afb Afc Afd Afe Aff Afg Afh Afi Afj Afk Afl Afm Afn Afo Afp Afq Afr Afs Aft Afu Afv Afw Afx Afy Afz AfA AfB AfC AfD AfE AfF AfG AfH AfI AfJ AfK AfL AfM AfN AfO AfP AfQ AfR AfS AfT AfU AfV AfW AfX AfY AfZ Af0 Af1 Af2 Af3 Af4 Af5 Af6 Af7 Af8 Af9 Af_ Aga Agb Agc Agd Age Agf Agg Agh Agi Agj Agk Agl Agm Agn Ago Agp Agq Agr Ags Agt Agu Agv Agw Agx Agy Agz AgA AgB AgC AgD AgE AgF AgG AgH AgI AgJ AgK AgL AgM AgN AgO AgP AgQ AgR AgS AgT
end Go.Proofs.W9
namespace Gk
open Go
section
variable {P:Program} {n k d i m:Nat} {l:List Oper} {K:BK} {L:AK} {w w0:Wo} {B:Wo} {I J:Im} {As BT Hs:La} {S S1 S2 S3 Q q:Prop} {op:Op} {v u:Va} {ty:TypeId} {pos:String} {af:Array Edge} {nd:Nat->Bool} {SP:Wo->Prop} {pl:List Nat} {Ad:Array Bool} {o:Oper} {hold:Bool}
theorem Br.y(i:Nat){r:List Nat}{v:Va}{d:Nat}[o:Is (Fu l i) ⟨some d,op,ty,pos,af,none⟩](hx:∀w J R,Le I J->Aa B w J (bD Hs R)->Ex P n L w ⟨some d,op,ty,pos,af,none⟩ v w)(c:Br P n l.toArray (SG B I Hs) nd K true m r (Ad.setIfInBounds i true) ((d,v)::L) w)
  (ok:Kr (J_ l.toArray nd (m+1) (i::r) Ad&&(!JJ op&&(xy .any l.toArray nd i&&xA .any l.toArray Ad))):=by exact⟨by kernel_rfl⟩) (hd:Nat.blt d n=true:=by rfl):Br P n l.toArray (SG B I Hs) nd K true (m+1) (i::r) Ad L w:=λhh=>by
 have h:=ok.h;rw[Yb,Yb]at h;obtain⟨h0,he,hw⟩:=h;obtain⟨h1,h2,h3,_,_⟩:=z1 h0 (PJ o) (su he);exact WD.FG (i:=i) (PJ o) h1 h2 h3 hw (hh O) (λw ⟨J,R,hL,hR⟩=>hx w J R hL hR) hd (c hh)
theorem Br.j(i:Nat){r:List Nat}{v:Va}{d:Nat}[o:Is (Fu l i) ⟨some d,op,ty,pos,af,none⟩](hx:∀w,Ex P n L w ⟨some d,op,ty,pos,af,none⟩ v w)(c:Br P n l.toArray SP nd K hold m r (Ad.setIfInBounds i true) ((d,v)::L) w)
  (ok:Kr (J_ l.toArray nd (m+1) (i::r) Ad&&!JJ op):=by exact⟨by kernel_rfl⟩) (hd:Nat.blt d n=true:=by rfl):Br P n l.toArray SP nd K hold (m+1) (i::r) Ad L w:=λhh=>by
 have h:=ok.h;rw[Yb]at h;obtain⟨h1,h2,h3,_,_⟩:=z1 h.1 (PJ o) (su h.2);exact WD.ik (i:=i) (PJ o) h1 h2 h3 hx hd (c hh)
theorem Br.e{r:List Nat}{o:Oper}[a:Is (Fu l i) o](h:WL P n l.toArray (HZ (iP P n l.toArray SP nd K i m r Ad w) (Td K)) [o] L w)(ok:Kr (J_ l.toArray nd (m+1) (i::r) Ad&&JJ o.op):=by exact⟨by kernel_rfl⟩):Br P n l.toArray SP nd K hold (m+1) (i::r) Ad L w :=
 have h9:=ok.h
 Br.eff (by rw[Yb]at h9;exact h9.1) (PJ a) (by rw[Yb]at h9;exact h9.2) h
end
end Gk
namespace Pc
def plain(c:Ui):Bool:=(97<=c&&c<=122)||(65<=c&&c<=90)||(48<=c&&c<=57)||c==45||c==46||c==95||c==126
def Fq(c:Ui):Int:=if 48<=c&&c<=57 then c.toNat-48 else if 97<=c&&c<=102 then c.toNat-87 else if 65<=c&&c<=70 then c.toNat-55 else -1
def Ms(n:Nat):Ui:=if n<10 then UInt8.ofNat (48+n)else UInt8.ofNat (55+n)
def RL(c:Ui):Lu:=[37,Ms (c.toNat/16),Ms (c.toNat%16)]
def G1(c:Ui):Lu:=if plain c then[c]else RL c
def byteOf(a b:Ui):Ui:=UInt8.ofNat (16*Fq a+Fq b).toNat
def told:List UInt8->Option UInt8
 | a::b::_=>if Fq a<0\/Fq b<0 then none else some (byteOf a b)
 | _=>none
def sR:Nat->List UInt8->Option (List UInt8)
 | 0,_=>some []
 | _+1,[]=>some []
 | f+1,c::r=>if c=37 then match told r with
   | none=>none
   | some v=>(sR f (r.drop 2)).map (G1 v++·)
  else(sR f r).map (c::·)
def H4(s:Lu):Option Lu:=sR (s.length+1) s
theorem r_{r:Lu}{v:Ui}(h:told r=some v):2<=r.length:=by
 match r,h with
 | a::b::_,_=>simp
 | [_],h=>simp[told]at h
 | [],h=>simp[told]at h
theorem Xc9:∀(f g:Nat) (s:Lu),s.length<f->s.length<g->sR f s=sR g s
 | 0,_,_,h,_=>by omega
 | _+1,0,_,_,h=>by omega
 | f+1,g+1,[],_,_=>rfl
 | f+1,g+1,c::r,hf,hg=>by
  simp only[sR]
  split
  ·cases ht:told r with
   | none=>rfl
   | some v =>
    simp only
    have:=r_ ht
    simp only[List.length_cons]at hf hg
    rw[Xc9 f g (r.drop 2) (by rw[Ye];omega) (by rw[Ye];omega)]
  ·simp only[List.length_cons]at hf hg
   rw[Xc9 f g r om om]
theorem Xux:H4 []=some []:=rfl
theorem Xal(c:Ui)(r:Lu):H4 (c::r)=if c=37 then match told r with
   | none=>none
   | some v=>(H4 (r.drop 2)).map (G1 v++·)
  else(H4 r).map (c::·):=by
 unfold H4;simp only[List.length_cons,sR]
 split
 ·cases ht:told r with
  | none=>rfl
  | some v =>
   simp only
   have:=r_ ht
   rw[Xc9 (r.length+1) ((r.drop 2).length+1) (r.drop 2) (by rw[Ye];omega) om]
 ·rfl
theorem X8f(c:Ui):Fq c=-1\/(0<=Fq c/\Fq c<=15):=by
 unfold Fq;have h:=c.toNat_lt;simp only[Yb,dq1,yv]
 have e1:(48:Ui).toNat=48:=rfl;have e2:(57:Ui).toNat=57:=rfl;have e3:(97:Ui).toNat=97:=rfl;have e4:(102:Ui).toNat=102:=rfl;have e5:(65:Ui).toNat=65:=rfl;have e6:(70:Ui).toNat=70:=rfl;rw[e1,e2,e3,e4,e5,e6];split
 ·right;omega
 ·split
  ·right;omega
  ·split
   ·right;omega
   ·left;rfl
theorem Xuw:∀(s t:Lu),H4 s=some t->t.length<=s.length:=by
 intro s
 induction hn:s.length using Nat.strongRecOn generalizing s with
 | _ n ih =>
  intro t h;cases s with
  | nil=>rw[Xux]at h;injection h with h;subst h;simp
  | cons c r =>
   rw[Xal]at h;simp only[List.length_cons]at hn
   split at h
   ·cases ht:told r with
    | none=>rw[ht]at h;cases h
    | some v =>
     rw[ht]at h;simp only at h
     have hl:=r_ ht;cases hr:H4 (r.drop 2)with
     | none=>rw[hr]at h;cases h
     | some u =>
      rw[hr]at h;simp at h
      subst h
      have:=ih (r.drop 2).length (by rw[Ye];omega) (r.drop 2) O u hr
      rw[Ye]at this;rw[Y0]
      have:(G1 v).length<=3:=by unfold G1;split<;>simp[RL]
      omega
   ·cases hr:H4 r with
    | none=>rw[hr]at h;cases h
    | some u =>
     rw[hr]at h;simp at h
     subst h
     have:=ih r.length om r O u hr
     simp only[List.length_cons]
     omega
theorem Xf{p:Ui->Bool}(h:(List.range 256).all (λn=>p (UInt8.ofNat n))=true)(c:Ui):p c=true:=by
 have:=Yv.1 h c.toNat (yL.2 c.toNat_lt)
 simpa using this
def Gl:Lu:=[48,49,50,51,52,53,54,55,56,57,65,66,67,68,69,70]
theorem Xn8(a b:Ui)(ha:0<=Fq a)(hb:0<=Fq b):((byteOf a b).toNat:Int)=16*Fq a+Fq b:=by
 have h1:=X8f a;have h2:=X8f b;unfold byteOf
 rw[Y5d];omega
end Pc
namespace Go.Proofs.W9
open Gk Pc
open Tryz
theorem Xx:prog.info? 5=some t5:=by kernel_rfl
theorem X9l:prog.info? 331=some t331:=by kernel_rfl
def BJ(I:Im):Prop:=At I (ad 0 0) (Ax Gl)
theorem BJ.mono(h:BJ I)(hl:Le I J):BJ J:=At.mono h hl
theorem XO(c:Ui):((((((decide (97<=(c.toNat:Int))&&decide ((c.toNat:Int)<=122))||(decide (65<=(c.toNat:Int))&&decide ((c.toNat:Int)<=90)))||(decide (48<=(c.toNat:Int))&&decide ((c.toNat:Int)<=57)))||((c.toNat:Int)==45))||((c.toNat:Int)==46))||((c.toNat:Int)==95)||((c.toNat:Int)==126))=plain c :=
 eq_of_beq (Xf (p:=λc=>((((((decide (97<=(c.toNat:Int))&&decide ((c.toNat:Int)<=122))||(decide (65<=(c.toNat:Int))&&decide ((c.toNat:Int)<=90)))||(decide (48<=(c.toNat:Int))&&decide ((c.toNat:Int)<=57)))||((c.toNat:Int)==45))||((c.toNat:Int)==46))||((c.toNat:Int)==95)||((c.toNat:Int)==126))==plain c) dk c)
theorem SK(h:n<16):(Ax Gl)[n]?=some (U8 (Ms n).toNat):=by
 have:∀n:Fin 16,Gl[n.val]?=some (Ms n.val):=by decide+kernel
 rw[Ys,this ⟨n,h⟩];rfl
theorem Ag_(c:Ui):((c.toNat:Int)/2^(4:Int).toNat)=((c.toNat/16:Nat):Int):=by
 show(c.toNat:Int)/16=_
 omega
theorem Aad(c:Ui):bits .and .u8 (c.toNat:Int) 15=((c.toNat%16:Nat):Int) :=
 eq_of_beq (Xf (p:=λc=>bits .and .u8 (c.toNat:Int) 15==((c.toNat%16:Nat):Int)) dk c)
theorem wZ(c:Ui)(w:Wo):Cz 195 [U8 c.toNat] w λv w'=>v=.bool (plain c)/\w=w':=by
 refine gH 14 (gH 14 ?_);exact gG 12 ⟨Y5 Value.bool (XO c),O⟩
theorem Xg6(c:Ui)(hd:BJ I)(As:La)(hS:Aa B w I As):Ce B I As 210 [U8 c.toNat] w (S (RL c)):=by
 refine gG 1 ?_;have qO:c.toNat/16<16:=by have:=c.toNat_lt;omega
 have h15:c.toNat%16<16:=om
 refine .tail 8 kr kr ?_;replace hS:=hS.drew;generalize w.drew=w at hS ⊢;refine .vm O O (.val (.shr (.of O) (.of O) de de) O ?_);rw[Ag_ c];refine .val (.Bc (i:=((c.toNat/16:Nat):Int)) (.of O) (.of O) om om Re FJ) O ?_;refine .val (.Ca (.of O) hS (hd.add _) HT (by rw[U6,Hn,Gv];(try rw[Y8]);exact SK (n:=c.toNat/16) qO)) O ?_;refine .vm O O (.val (.IW (.inl O) (.of O) (.of O)) O ?_);rw[Aad c];refine .val (.Bc (i:=((c.toNat%16:Nat):Int)) (.of O) (.of O) om om Re FJ) O ?_;refine .val (.Ca (.of O) hS (hd.add _) HT (by rw[U6,Hn,Gv];(try rw[Y8]);exact SK (n:=c.toNat%16) h15)) O ?_;refine .nil ?_;show WL _ _ _ _ _ _ _
 refine .dr (gH 1 ?_);clear hS;intro R5 w hS;refine .val (.E0 (l:=RL c) (b:=R5) (o:=0) (cap:=3) (.of O) hS (k:=0) O Db CY BV (λj hj=>by
  have hj3:j<3:=hj
  match j,hj3 with
  | 0,_=>rfl
  | 1,_=>rfl
  | 2,_=>rfl)) O ?_
 exact gG 1 ⟨O,hS.s⟩
def YM(c:Ui):Ui:=if 97<=c&&c<=102 then c-32 else c
theorem wF{c:Ui}(h:97<=c.toNat/\c.toNat<=102):(c.toNat:Int)-32=((YM c).toNat:Int):=by
 have:=Xf (p:=λc=>!(decide (97<=c.toNat/\c.toNat<=102))||(c.toNat:Int)-32==((YM c).toNat:Int)) dk c
 simpa[h]using this
theorem wG{c:Ui}(h:¬ (97<=c.toNat/\c.toNat<=102)):YM c=c:=by
 have:=Xf (p:=λc=>decide (97<=c.toNat/\c.toNat<=102)||YM c==c) dk c
 simpa[h]using this
theorem wE{c:Ui}(h:i<16)(he:YM c=Gl.getD i 0):Fq c=(i:Int):=by
 have:=Xf (p:=λc=>(List.range 16).all λi=>!(YM c==Gl.getD i 0)||Fq c==(i:Int)) dk c
 have:=Yv.1 this i (yL.2 h)
 simpa[he]using this
theorem o9{c:Ui}(h:∀i,i<16->Gl.getD i 0≠YM c):Fq c=-1:=by
 have:=Xf (p:=λc=>(List.range 16).any (λi=>Gl.getD i 0==YM c)||Fq c == -1) dk c
 simp only[PM,beq_iff_eq]at this
 rcases this with h1|h1
 ·obtain⟨i,hi,h2⟩:=Y4i.1 h1;simp only[beq_iff_eq]at h2
  exact Yy h2 (h i (yL.1 hi))
 ·exact h1
theorem Xng(c:Ui)(hd:BJ I)(As:La)(hS:Aa B w I As):Ce B I As 443 [U8 c.toNat] w (Ab (Fq c)):=by
 refine gH 1 (.nil (.Aai (σ:=Ui) (λu=>[(0,U8 u.toNat)]) (λu w=>u=YM c/\Aa B w I As) ?_ ?_))
 ·refine gM 6 ?_ ?_<;>intro CQ DO
  ·refine gH 1 ?_;refine .val (.AbO (.of O) (.of O) (by rw[IntKind.wrap_u8];simp only[Yb,dq1]at CQ;omega)) O ?_;refine gG 1 (⟨YM c,⟨?_,trivial⟩,O,hS⟩);have h97:97<=c.toNat/\c.toNat<=102:=by simp only[Yb,dq1]at CQ;omega
   show some (Value.int .u8 ((c.toNat:Int)-32))=some (U8 ((YM c).toNat:Int))
   rw[wF h97]
  refine gG 0 (⟨YM c,⟨?_,trivial⟩,O,hS⟩);have h97:¬ (97<=c.toNat/\c.toNat<=102):=by simp only[qF,dq2]at CQ;omega
  show some (U8 (c.toNat:Int))=some (U8 ((YM c).toNat:Int))
  rw[wG h97]
 rintro u w ⟨hu,hS⟩;refine gG 0 (.val (.Cy (us:=Ax Gl) (.of O) hS hd isAgg420 sizeOf420 O (λ_ _ h=>h)) O (gG 1 (.lk [0,13] (σ:=Nat) (λi _m=>(14,Ab (i:Nat))::_m) (λi w=>i<=16/\(∀j,j<i->Gl.getD j 0≠u)/\Aa B w I As) (λi=>16-i) 0 ⟨de,λ_ h=>Yy h om,hS⟩ ?_)));rintro i w ⟨hi,AL,hS⟩;refine gN 1 ?_ ?_<;>intro G8
 ·refine gH 1 ?_;refine .val (.eO (vs:=Ax Gl) (v:=U8 (Gl.getD i 0).toNat) (.of O) (.of O) om om Re FJ HT (by rw[Ys];(try rw[Y8]);rw[Ya,Y2 (show i<Gl.length by have:Gl.length=16:=rfl;omega)];rfl)) O ?_;refine gM 5 ?_ ?_<;>intro BX FX
  ·refine gG 2 (⟨?_,hS⟩);simp only[beq_iff_eq]at BX
   rw[hu]at BX;rw[wE (c:=c) (i:=i) om (JH.1 om)]
  refine gG 2 (rd (i+1) ⟨om,λj hj=>?_,hS⟩);rcases C5 j i with h1|h1
  ·exact AL j h1
  ·have e:j=i:=om
   subst e;simp only[beq_eq_false_iff_ne]at BX
   exact λe=>BX (by rw[e])
 refine gG 1 (⟨?_,hS⟩);rw[hu]at AL;rw[o9 (c:=c) (λj hj=>AL j om)]
def wC(a b:Int):Int:=IntKind.u8.wrap (bits .or .i64 (IntKind.i64.wrap (a*2^(4:Int).toNat)) (bits .and .i64 b 15))
theorem YL(a b:Ui)(ha:0<=Fq a)(hb:0<=Fq b):wC (Fq a) (Fq b)=((Pc.byteOf a b).toNat:Int):=by
 rw[Xn8 a b ha hb];have h1:=X8f a;have h2:=X8f b;have h:∀x y:Fin 16,wC (x.val:Int) (y.val:Int)=16*(x.val:Int)+(y.val:Int):=by decide+kernel
 have:=h ⟨(Fq a).toNat,om⟩ ⟨(Fq b).toNat,om⟩
 simp only[yx ha,yx hb]at this
 exact this
theorem iz(s:Lu)(i:Int)(h0:0<=i)(h1:i<=9223372036854775800)(hd:BJ I)(As:La)(hS:Aa B w I As):Ce B I As 419 [S s,Ab i] w (if(s.length:Int)<=i+2 then .tuple #[.int .u8 0,.bool false]else .tuple #[.int .u8 (wC (Fq (at_ s (i+1))) (Fq (at_ s (i+2)))),.bool (decide (0<=Fq (at_ s (i+1)))&&decide (0<=Fq (at_ s (i+2))))]):=by
 refine gN 7 ?_ ?_<;>intro B_
 ·exact gG 2 ⟨by rw[Y7 B_],hS⟩
 refine gG 0 (.qt hS (.val (λw hS=>(.mo O)) O (.val (λw hS=>(.mo O)) O (.val (λw hS=>(.add (.of O) (.of O) ⟨om,om⟩)) O (.val (λw hS=>(.index (.of O) (.of O) om om BV)) O (.call func443 O (Be O X4) O (λw hS=>Xng (at_ s (i+1)) hd _ hS) (.val (λw hS=>(.mo O)) O (.val (λw hS=>(.mo O)) O (.val (λw hS=>(.add (.of O) (.of O) ⟨om,om⟩)) O (.val (λw hS=>(.index (.of O) (.of O) om om BV)) O (.call func443 O (Be O X4) O (λw hS=>Xng (at_ s (i+2)) hd _ hS) (.val (λw hS=>(.ao O)) O (.val (λw hS=>(.ao O)) O (.nil ?_))))))))))))));clear hS;intro w hS;refine gH 3 (.val (.IW (.inl O) (.of O) (.of O)) O (.val (.IW (.inr (.inl O)) (.of O) (.of O)) O (.val (.Hp (.of O) Dq CY) O ?_)));exact gG 8 ⟨by rw[Y3 om];rfl,hS⟩
theorem Xej(c:Ui)(b:Bool)(hd:BJ I)(As:La)(hS:Aa B w I As):Ce B I As 447 [U8 c.toNat,.bool b] w (S (if(b&&!plain c)=true then RL c else[c])):=by
 refine gH 4 (.AG (T:=λw=>Aa B w I As) O O O func195 O (λAi=>(X5 (.gd Ai O) X4)) O (λAi=>Ux (wZ c w) hS) hS ?_);clear hS;rintro w hS;refine gM 2 ?_ ?_<;>intro CQ DO
 ·refine gE 1 (Xg6 c hd) ?_;clear hS;intro w hS;exact gG 1 ⟨by rw[Y7 CQ],hS⟩
 refine gH 2 ?_;clear hS;intro Vm w hS;refine .val (.oV (c:=c) (.of O) hS (k:=0) O O Db CY BV) O ?_;exact gG 1 ⟨by rw[Y3 (by rw[CQ];simp)],hS.s⟩
theorem Xaa(bb:Nat)(p v:Va)(hp:p=.pointer none\/p=ptr bb 0)(F:La)(hS:Aa B w I (Ae bb [p,v] 331::F)):Calls prog 297 #[ptr bb 0] w (A4 λu w'=>u=.tuple #[]/\Aa B w' I (Ae bb [ptr bb 0,v] 331::F)):=by
 rcases hp with rfl|rfl
 ·refine gG 5 (.E1 (rfl) (gH 2 (.val (.iv (.of O) hS (k:=0) O yd Rj X9l de sz) O (.val (.extern func393 kr kr kr (e:=Extern.AbiNoEscape.same) kr (Be O X4) (Go.Lib.run_noEscape w _)) O (.val (.P5 (.of O) hS (k:=0) O Rj yd X9l kr) O ?_)))));refine gG 3 ?_;clear hS;intro w hS;exact⟨O,hS⟩
 ·refine gG 5 (.AF (rfl) (gH 5 (.val (.nV (.of O) (.of O) yd X9l trivial) O (gG 0 (.AF (rfl) ?_)))));exact gG 0 ⟨O,hS⟩
theorem Xk7(bb:Nat)(p v:Va)(l:Lu)(c:Ui)(hp:p=.pointer none\/p=ptr bb 0)(F:La)(hS:Aa B w I (Ae bb [p,v] 331::Ar 5 1 v l.length (Ax l)::F))(hl:l.length<=140737488000000):Calls prog 208 #[ptr bb 0,U8 c.toNat] w (A4 λu w'=>u=.nilIface/\∃v',Aa B w' I (Ae bb [ptr bb 0,v'] 331::Ar 5 1 v' (l++[c]).length (Ax (l++[c]))::F)):=by
 refine gE 2 (Xaa bb p v hp) ?_;clear hS;intro w hS;obtain⟨va,vc,rfl,rq,_⟩:=hS.vS 1;refine gG 12 ?_;clear hS;intro qL a14 c14 uz w hS;exact⟨O,_,su hS⟩
theorem Xr(bb:Nat)(p v:Va)(l s:Lu)(hp:p=.pointer none\/p=ptr bb 0)(F:La)(hS:Aa B w I (Ae bb [p,v] 331::Ar 5 1 v l.length (Ax l)::F))(hl:l.length+s.length<=140737488000000):Calls prog 209 #[ptr bb 0,S s] w (A4 λu w'=>u=.tuple #[Ab s.length,.nilIface]/\∃v',Aa B w' I (Ae bb [ptr bb 0,v'] 331::Ar 5 1 v' (l++s).length (Ax (l++s))::F)):=by
 refine gE 3 (Xaa bb p v hp) ?_;clear hS;intro w hS;obtain⟨va,vc,rfl,rq,_⟩:=hS.vS 1;refine gH 6 (.Fh hS (.of O) (.of O) (k:=1) O Db BV Xx O O O om O ?_);clear hS;intro v14 w hS;dsimp only[List.set]at hS;obtain⟨a14,c14,rfl,uz,_⟩:=hS.Av (k:=1) (v:=v14) O;refine gG 7 ?_;clear hS;intro w hS;exact⟨O,_,su hS⟩
theorem wR(bb:Nat)(p v:Va)(l:Lu)(hv:l=[]->v=.slice none 0 0)(F:La)(hS:Aa B w I (Ae bb [p,v] 331::Ar 5 1 v l.length (Ax l)::F)):Calls prog 211 #[ptr bb 0] w (A4 λu w'=>u=S l/\Aa B w' I F):=by
 by_cases h0:l=[]
 ·obtain rfl:=hv h0;subst h0;refine gG 1 (.tail 10 kr kr ?_);replace hS:=hS.drew;generalize w.drew=w at hS ⊢;refine .vm O O (.val (.no O) O ?_);refine .val (by exact .fo 1 O qw O O Jf O) O ?_;refine .val (by exact(.lo O hS (k:=0) O UI O)) O ?_;refine .val (.L7 (.of O)) O (.vm O O (.val (.no O) O ?_));refine .val (by exact .fo 1 O qw O O Jf O) O ?_;refine .val (by exact(.lo O hS (k:=0) O UI O)) O ?_;refine .val (.D4 (.of O) Db) O (.nil ?_);show WL _ _ _ _ _ _ _
  refine .dr (.val (.He (.of O) (.of O)) O ?_);exact gG 1 ⟨O,hS.s⟩
 ·have h1:0<l.length:=U5.2 h0;obtain⟨vb,vc,r,rfl,ET,HP,GQ,hv4,hT⟩:=hS.AP (k:=1) O h1;clear hS;have hS:=hT;clear hT;try dsimp only[List.set]at hS
  have FB:l.length<=9223372036854775807:=by unfold maxLen at HP;omega
  refine gG 1 (.tail 10 kr kr ?_);replace hS:=hS.drew;generalize w.drew=w at hS ⊢;refine .vm O O (.val (.no O) O ?_);refine .val (by exact .fo 1 O qw O O Jf O) O ?_;refine .val (by exact(.lo O hS (k:=0) O UI O)) O ?_;refine .val (.XZ (.of O) om) O (.vm O O (.val (.no O) O ?_));refine .val (by exact .fo 1 O qw O O Jf O) O ?_;refine .val (by exact(.lo O hS (k:=0) O UI O)) O ?_;refine .val (.D4 (.of O) Db) O (.nil ?_);show WL _ _ _ _ _ _ _
  refine .dr (.unsafeString hS (k:=1) O (.of O) (.of O) h0 Rf kr om O ?_);clear hS;intro w hS;try dsimp only[List.eraseIdx]at hS
  exact gG 1 ⟨O,hS.s⟩
theorem T8(c:Ui)(hd:BJ I)(As:La)(hS:Aa B w I As):Calls prog 447 #[U8 c.toNat,.bool false] w (A4 λv w'=>v=S [c]/\Aa B w' I As) :=
 (Xej c false hd As hS).mono λe w' he=>by
  obtain⟨v,rfl,rfl,h⟩:=he;exact⟨_,O,by simp,h⟩
theorem T9(c:Ui)(hd:BJ I)(As:La)(hS:Aa B w I As):Calls prog 447 #[U8 c.toNat,.bool true] w (A4 λv w'=>v=S (G1 c)/\Aa B w' I As) :=
 (Xej c true hd As hS).mono λe w' he=>by
  obtain⟨v,rfl,rfl,h⟩:=he;refine⟨_,O,?_,h⟩;unfold G1;cases plain c<;>rfl
theorem iA(s:Lu)(i:Nat)(h1:i<=9223372036854775800)(hd:BJ I)(As:La)(hS:Aa B w I As):Calls prog 419 #[S s,Ab (i:Nat)] w (A4 λv w'=>∃tv ok,v=.tuple #[.int .u8 tv,.bool ok]/\(match Pc.told (s.drop (i+1))with|none=>ok=false|some b=>ok=true/\tv=(b.toNat:Int))/\Aa B w' I As) :=
 (iz s (i:Int) om om hd As hS).mono λe w' he=>by
  obtain⟨v,rfl,rfl,h⟩:=he
  by_cases hl:s.length<=i+2
  ·have:Pc.told (s.drop (i+1))=none:=by
    have hl:(s.drop (i+1)).length<=1:=by rw[Ye];omega
    match s.drop (i+1),hl with
    | [],_=>rfl
    | [_],_=>rfl
   rw[Y7 om,this];exact⟨_,O,0,false,O,O,h⟩
  ·have e1:s.drop (i+1)=at_ s ((i:Int)+1)::at_ s ((i:Int)+2)::s.drop (i+3):=by
    rw[Xe s (show i+1<s.length by omega),Xe s (show i+1+1<s.length by omega)];rfl
   rw[Y3 om,e1];refine⟨_,O,_,_,O,?_,h⟩;simp only[Pc.told]
   by_cases hn:Fq (at_ s ((i:Int)+1))<0\/Fq (at_ s ((i:Int)+2))<0
   ·rw[Y7 hn];simp only[qF,dq2]
    omega
   ·rw[Y3 hn];refine⟨?_,YL _ _ om om⟩;simp only[Yb,dq1]
    omega
theorem cI(s:Lu)(hl:s.length<=1000000)(hd:BJ I)(As:La)(hS:Aa B w I As):Ce B I As 347 [S s,.func (.func 447) #[] #[]] w (match H4 s with|none=>.tuple #[S [],Ab 11]|some t=>.tuple #[S t,Ab 0]):=by
 refine gG 4 ?_;clear hS;intro b6 w hS;replace hS:=(hS.An 5 1).pick 1 O;try dsimp only[List.eraseIdx]at hS
 refine .lk [0,1,6] (σ:=Lu×Va×Va×Nat) (λ(out,p,v,i) _m=>(7,Ab (i:Nat))::_m) (λ(out,p,v,i) w=>i<=s.length/\out.length+(s.length-i)*3<=s.length*3/\H4 s=(H4 (s.drop i)).map (out++·)/\(p=.pointer none\/p=ptr b6 0)/\(out=[]->v=.slice none 0 0)/\Aa B w I (Ae b6 [p,v] 331::Ar 5 1 v (out).length (Ax (out))::As)) (λ(out,p,v,i)=>s.length-i) ([],.pointer none,.slice none 0 0,0) ⟨Y4 _,by simp,by simp,.inl O,λ_=>rfl,hS⟩ ?_;rintro⟨out,p,v,i⟩ w ⟨hi,Mz,AL,hp,mZ,hS⟩;refine gN 4 ?_ ?_<;>intro DP
 ·refine gM 4 ?_ ?_<;>intro C_ IG
  ·refine gH 4 (.B0 (cap:=[]) func447 O (.of O) (Be O (Be O X4)) O (T8 (at_ s (i:Int)) hd _ hS) ?_);clear hS;rintro _ w ⟨rfl,hS⟩;refine gC 0 (Xr b6 p v out ([at_ s (i:Int)]) hp _ hS (by simp only[List.length_cons,List.length_nil];omega)) ?_;clear hS;rintro _ w ⟨rfl,v2,hS⟩;refine gG 3 ?_;have cH:at_ s (i:Int)≠37:=λe=>by rw[e]at C_;simp at C_
   refine rd (out++[at_ s (i:Int)],ptr b6 0,v2,i+1) ⟨od,by(try dsimp only);rw[Y0];simp only[List.length_cons,List.length_nil];omega,?_,.inr O,λh=>Yy h sz,hS⟩;rw[AL,Xe s om,Xal,Y3 cH];cases H4 (s.drop (i+1))<;>simp
  refine gF 2 (iA s i om hd) ?_;clear hS;rintro _ w ⟨tv,ok,rfl,N4,hS⟩;refine gM 7 ?_ ?_<;>intro Da FY
  ·refine gG 2 (⟨?_,hS.s⟩);have cH:at_ s (i:Int)=37:=JH.1 (by simp only[bne_eq_false_iff_eq]at C_;show(at_ s (i:Int)).toNat=37;omega);have ht:Pc.told (s.drop (i+1))=none:=by
    cases ht:Pc.told (s.drop (i+1))with
    | none=>rfl
    | some v=>rw[ht]at N4;rw[N4.1]at Da;simp at Da
   have:H4 s=none:=by rw[AL,Xe s om,Xal,Y7 cH,ht];rfl
   rw[this]
  refine gG 0 ?_;have cH:at_ s (i:Int)=37:=JH.1 (by simp only[bne_eq_false_iff_eq]at C_;show(at_ s (i:Int)).toNat=37;omega);obtain⟨vb,hv⟩:∃v,Pc.told (s.drop (i+1))=some v:=by
   cases ht:Pc.told (s.drop (i+1))with
   | some v=>exact⟨v,O⟩
   | none=>rw[ht]at N4;simp only at N4;rw[N4]at Da;simp at Da
  rw[hv]at N4;obtain⟨_,rfl⟩:=N4;have rr:=r_ hv;rw[Ye]at rr;have Ahs:(G1 vb).length<=3:=by unfold G1;split<;>simp[RL]
  have Aa6:out++G1 vb≠[]:=λe=>by
   have:=(Y5y.1 e).2
   unfold G1 at this;split at this<;>simp[RL]at this
  refine gH 2 (.B0 (cap:=[]) func447 O (.of O) (Be O (Be O X4)) O (T9 vb hd _ hS) ?_);clear hS;rintro _ w ⟨rfl,hS⟩;refine gC 0 (Xr b6 p v out (G1 vb) hp _ hS om) ?_;clear hS;rintro _ w ⟨rfl,v2,hS⟩;refine gG 6 ?_;refine rd (out++G1 vb,ptr b6 0,v2,i+3) ⟨od,by(try dsimp only);rw[Y0];omega,?_,.inr O,λh=>Yy h Aa6,hS⟩;rw[AL,Xe s om,Xal,Y7 cH,hv];simp only[yK]
  cases H4 (s.drop (i+3))<;>simp[Yc,Y5v]
 refine gE 0 (wR b6 p v out mZ) ?_;clear hS;intro w hS;refine gG 2 (⟨?_,hS⟩)
 have:H4 s=some out:=by rw[AL,Yk om,Xux];simp
 rw[this]
theorem tL(s:Lu)(hl:s.length<=1000000)(hd:BJ I)(As:La)(hS:Aa B w I As):Calls prog 347 #[S s,.func (.func 447) #[] #[]] w (A4 λv w'=>∃n1 n2,v=.tuple #[n1,n2]/\.tuple #[n1,n2]=(match H4 s with|none=>Value.tuple #[S [],Ab 11]|some t=>.tuple #[S t,Ab 0])/\Aa B w' I As) :=
 (cI s hl hd As hS).mono λe w' he=>by
  obtain⟨v,rfl,rfl,h⟩:=he;cases H4 s with
  | none=>exact⟨_,O,_,_,O,O,h⟩
  | some t=>exact⟨_,O,_,_,O,O,h⟩
theorem Xs7(s:Lu)(hl:s.length<=1000000)(hd:BJ I)(As:La)(hS:Aa B w I As):Ce B I As 429 [S s] w (match H4 s with|none=>.tuple #[S [],Ab 11]|some t=>.tuple #[S t,Ab 0]):=by
 refine gF 3 (tL s hl hd) ?_;clear hS;rintro _ w ⟨n1,n2,rfl,hn,hS⟩;exact gG 4 ⟨hn,hS⟩
end Go.Proofs.W9
namespace Ul
open Pc Gk
def lo(c:Ui):Ui:=if 65<=c&&c<=90 then c+32 else c
def low(s:Lu):Lu:=s.map lo
theorem kP(s:Lu):(low s).length=s.length:=Yh ..
def Pb(s:Lu)(i:Nat):Lu:=low (s.take i)++s.drop i
theorem mid_zero(s:Lu):Pb s 0=s:=by simp[Pb,low]
theorem mid_end(s:Lu)(i:Nat)(h:s.length<=i):Pb s i=low s:=by
 simp[Pb,Yg h,Yk h]
theorem S9(s:Lu)(i:Nat):(Pb s i).length=s.length:=by
 simp[Pb,low];omega
theorem fk(s:Lu)(i:Nat)(h:i<s.length):(Pb s i)[i]?=some (at_ s i):=by
 have e:(low (s.take i)).length=i:=by rw[kP,Yl];omega
 unfold Pb;rw[Yq om,e,qJ,Xe s h];rfl
theorem Xuu(s:Lu)(i:Nat)(h:i<s.length):(Pb s i).set i (lo (at_ s i))=Pb s (i+1):=by
 have e:(low (s.take i)).length=i:=by rw[kP,Yl];omega
 unfold Pb;rw[yu _ _ om,e,qJ,Xe s h,List.set_cons_zero,Yo,low,low,Ym,Yc]
 congr 1
 have:s[i]?=some (at_ s i):=by
  rw[Y2 h,at_,Y8,Ya,Y2 h];rfl
 rw[this];rfl
theorem Abo{c:Ui}(h:65<=(c.toNat:Int)/\(c.toNat:Int)<=90):((lo c).toNat:Int)=c.toNat+32:=by
 have h1:(65<=c&&c<=90)=true:=by
  simp only[Yb,dq1,yv]
  have e1:(65:Ui).toNat=65:=rfl;have e2:(90:Ui).toNat=90:=rfl;rw[e1,e2];omega
 rw[lo,Y7 h1,UInt8.toNat_add]
 have:(32:Ui).toNat=32:=rfl
 rw[this];omega
theorem Abn{c:Ui}(h:¬ (65<=(c.toNat:Int)/\(c.toNat:Int)<=90)):lo c=c:=by
 have h1:¬ (65<=c&&c<=90)=true:=by
  simp only[Yb,dq1,yv]
  have e1:(65:Ui).toNat=65:=rfl;have e2:(90:Ui).toNat=90:=rfl;rw[e1,e2];omega
 rw[lo,Y3 h1]
theorem gA{l:List α}{a:α}(h:l[i]?=some a):l.set i a=l:=by
 apply U7
 intro j;rw[yB];split
 ·rename_i e
  subst e;rw[h,Y7 (Y1.1 h).1]
 ·rfl
theorem fl(s:Lu)(i:Nat)(h:i<s.length)(hn:lo (at_ s i)=at_ s i):Pb s i=Pb s (i+1):=by
 rw[<-Xuu s i h,hn];exact(gA (fk s i h)).symm
def NW(c:Ui):Bool:=plain c&&!(c==95||c==126)
def qd(s:Lu):Bool:=!(s.isEmpty||decide (64<s.length))&&s.all NW
theorem Xo7(c:Ui):((!plain c||((c.toNat:Int)==95))||((c.toNat:Int)==126))=!NW c :=
 eq_of_beq (Xf (p:=λc=>((!plain c||((c.toNat:Int)==95))||((c.toNat:Int)==126))==!NW c) dk c)
def BAD:Lu:=[34,60,62,35,92,94,123,124,125,96]
def qh(c:Ui):Bool:=(33<=c&&c<=126)&&!BAD.contains c
theorem Xjn(c:Ui):((decide ((c.toNat:Int)<33)||decide (126<(c.toNat:Int)))||decide (0<=Go.Lib.indexByte BAD c))=!qh c :=
 eq_of_beq (Xf (p:=λc=>((decide ((c.toNat:Int)<33)||decide (126<(c.toNat:Int)))||decide (0<=Go.Lib.indexByte BAD c))==!qh c) dk c)
theorem xL{p:Ui->Bool}{s:Lu}(h:∀j,j<i->j<s.length->p (at_ s (j:Int))=true)(hi:s.length<=i):s.all p=true:=by
 rw[Yv];intro x hx;obtain⟨j,hj,e⟩:=List.mem_iff_getElem.1 hx
 have:=h j om hj
 rw[at_,Y8,Ya,Y2 hj]at this;rw[<-e];exact this
theorem Xg2{p:Ui->Bool}{s:Lu}(hi:i<s.length)(h:p (at_ s (i:Int))=false):s.all p=false:=by
 rw[Y5j];refine⟨at_ s (i:Int),?_,by rw[h];decide⟩;rw[at_,Y8,Ya,Y2 hi];exact Zw _
def Ks(c:Ui):Bool:=48<=c&&c<=57
def val(s:Lu):Nat:=s.foldl (λn c=>10*n+(c.toNat-48)) 0
def Jc(s:Lu):Bool:=s.all Ks&&!(s.headD 0==48)&&decide (1<=val s)&&decide (val s<=65535)
theorem Xtp(c:Ui):(decide ((c.toNat:Int)<48)||decide (57<(c.toNat:Int)))=!Ks c :=
 eq_of_beq (Xf (p:=λc=>(decide ((c.toNat:Int)<48)||decide (57<(c.toNat:Int)))==!Ks c) dk c)
theorem TU(s:Lu)(c:Ui):val (s++[c])=10*val s+(c.toNat-48):=by simp[val,Lm]
theorem z_(s:Lu)(i:Nat)(h:i<s.length):val (s.take (i+1))=10*val (s.take i)+((at_ s (i:Int)).toNat-48):=by
 have:s[i]?=some (at_ s i):=by
  rw[Y2 h,at_,Y8,Ya,Y2 h];rfl
 rw[Yo,this];exact TU _ _
theorem iH(s:Lu):∀(i j:Nat),i<=j->val (s.take i)<=val (s.take j):=by
 intro i j h
 induction j with
 | zero=>rw[show i=0 by omega];exact Yd _
 | succ j ih =>
  by_cases e:i=j+1
  ·rw[e];exact Yd _
  ·by_cases hj:j<s.length
   ·have:=ih om
    rw[z_ s j hj];omega
   ·have:=ih om
    have e2:s.take (j+1)=s.take j:=by rw[Yg om,Yg om]
    rw[e2];exact this
theorem pd(s:Lu)(h:6<=s.length)(h0:Ks (at_ s 0)=true)(h1:at_ s 0≠48):65535<val s:=by
 have h2:1<=val (s.take 1):=by
  rw[z_ s 0 om];have hd:=h0;simp only[Ks,Yb,dq1,yv]at hd
  have e1:(48:Ui).toNat=48:=rfl;rw[e1]at hd
  have:(at_ s 0).toNat≠48:=λe=>h1 (JH.1 e)
  show 1<=_+((at_ s 0).toNat-48)
  omega
 have step:∀i,i<s.length->10*val (s.take i)<=val (s.take (i+1)):=λi hi=>by rw[z_ s i hi];omega
 have a1:10*val (s.take 1)<=val (s.take 2):=step 1 om;have a2:10*val (s.take 2)<=val (s.take 3):=step 2 om;have a3:10*val (s.take 3)<=val (s.take 4):=step 3 om;have a4:10*val (s.take 4)<=val (s.take 5):=step 4 om;have a5:10*val (s.take 5)<=val (s.take 6):=step 5 om;have a6:=iH s 6 s.length h;rw[Jm]at a6;omega
def IU:Lu:=[104,116,116,112]
def ji:Lu:=[104,116,116,112,115]
def nZ(s:Lu):Nat:=if s=ji then 443 else 80
def UM(s Dt:Lu):Nat:=if val s=nZ Dt then 0 else val s
def Bb(Ay s:Lu):Lu:=s.takeWhile λc=>!Ay.contains c
def Xd(Ay s:Lu):Lu:=s.dropWhile λc=>!Ay.contains c
theorem pP(Ay s:Lu):Bb Ay s++Xd Ay s=s:=List.takeWhile_append_dropWhile
theorem Xkj{Ay:Lu}:∀{s:Lu} {i:Nat},Go.Lib.indexAny s Ay=i->Bb Ay s=s.take i/\Xd Ay s=s.drop i/\i<s.length
 | [],i,h=>by simp[Go.Lib.indexAny]at h
 | b::l,i,h=>by
  rw[Go.Lib.indexAny]at h;split at h
  ·rename_i hb
   have:i=0:=om
   subst this;have jH:b∈Ay:=su hb
   simp[Bb,Xd,jH]
  ·rename_i hb
   have jH:Ay.contains b=false:=su hb
   split at h
   ·omega
   ·have IQ:=Go.Lib.indexAny_ge Ay l
    rename_i A8
    have AhX:Go.Lib.indexAny l Ay≠-1:=λe=>A8 (beq_iff_eq.2 e)
    obtain⟨k,hk⟩:∃k:Nat,Go.Lib.indexAny l Ay=k:=⟨(Go.Lib.indexAny l Ay).toNat,om⟩
    obtain⟨a,b',c⟩:=Xkj hk
    have:i=k+1:=om
    subst this;refine⟨?_,?_,by simp;omega⟩
    ·show(b::l).takeWhile _=_
     rw[yz];simp only[jH,Y4x,if_true,qG]
     rw[<-a];rfl
    ·show(b::l).dropWhile _=_
     rw[Y3w];simp only[jH,Y4x,if_true,Kw]
     rw[<-b'];rfl
theorem Xdq{Ay:Lu}:∀{s:Lu},Go.Lib.indexAny s Ay=-1->Bb Ay s=s/\Xd Ay s=[]
 | [],_=>⟨O,O⟩
 | b::l,h=>by
  rw[Go.Lib.indexAny]at h;split at h
  ·omega
  ·rename_i hb
   have jH:Ay.contains b=false:=su hb
   split at h
   ·rename_i A8
    obtain⟨a,c⟩:=Xdq (s:=l) (Ay:=Ay) (beq_iff_eq.1 A8);refine⟨?_,?_⟩
    ·show(b::l).takeWhile _=_
     rw[yz];simp only[jH,Y4x,if_true]
     show b::Bb Ay l=_
     rw[a]
    ·show(b::l).dropWhile _=_
     rw[Y3w];simp only[jH,Y4x,if_true]
     exact c
   ·have IQ:=Go.Lib.indexAny_ge Ay l;omega
theorem Xo8{l:Lu}{c:Ui}(h:128<=c.toNat)(hl:∀(j:Nat) b,l[j]?=some b->b.toNat<128):Go.Lib.indexByte l c=-1:=by
 have IQ:=Go.Lib.indexByte_ge l c
 by_cases e:Go.Lib.indexByte l c=-1
 ·exact e
 ·obtain⟨k,hk⟩:∃k:Nat,Go.Lib.indexByte l c=k:=⟨(Go.Lib.indexByte l c).toNat,om⟩
  have:=(Go.Lib.indexByte_some hk).1
  have:=hl _ _ this
  omega
theorem GD{l:Lu}{c:Ui}:(0<=Go.Lib.indexByte l c)↔l.contains c=true:=by
 have IQ:=Go.Lib.indexByte_ge l c;constructor
 ·intro h;obtain⟨k,hk⟩:∃k:Nat,Go.Lib.indexByte l c=k:=⟨(Go.Lib.indexByte l c).toNat,om⟩
  have:=(Go.Lib.indexByte_some hk).1
  rw[Y4y];exact Y6 this
 ·intro h
  by_cases e:Go.Lib.indexByte l c=-1
  ·have:=Go.Lib.indexByte_none e
   rw[Y4y]at h;obtain⟨k,hk⟩:=O3.1 h;exact Yy hk (this k)
  ·omega
theorem Rx{s:Lu}(h:i<s.length):s[i]?=some (at_ s i):=by
 rw[Y2 h,at_,Y8,Ya,Y2 h];rfl
def iO(s:Lu):Prop:=∀(j:Nat) b,s[j]?=some b->b.toNat<128
def rv(s cs:Lu)(i:Nat):Int:=if(Go.Utf8.decode ⟨s.toArray⟩ i).1<128 then Go.Lib.indexByte cs (UInt8.ofNat (Go.Utf8.decode ⟨s.toArray⟩ i).1)else -1
theorem bC{s cs:Lu}(G_:iO cs)(hi:i<s.length)(AL:Go.Lib.NoAny s cs i):(0<=rv s cs i->Go.Lib.indexAny s cs=i)/\(rv s cs i<0->Go.Lib.NoAny s cs (i+(Go.Utf8.decode ⟨s.toArray⟩ i).2)/\i+(Go.Utf8.decode ⟨s.toArray⟩ i).2<=s.length/\1<=(Go.Utf8.decode ⟨s.toArray⟩ i).2):=by
 unfold rv;rcases C5 (at_ s (i:Int)).toNat 128 with h|h
 ·rw[Xf8 s i hi h];dsimp only
  rw[Y7 h,show UInt8.ofNat (at_ s (i:Int)).toNat=at_ s (i:Int)by simp,GD];refine⟨λhc=>Go.Lib.indexAny_hit AL (Rx hi) hc,λhc=>⟨AL.succ (Rx hi) ?_,om,om⟩⟩;cases hb:cs.contains (at_ s (i:Int))with
  | false=>rfl
  | true=>have:=GD.2 hb;omega
 ·obtain⟨h1,h2,h3,h4,h5⟩:=Xnf s i hi h;rw[Y3 om];refine⟨λhc=>by omega,λ_=>⟨λj b hj hb=>?_,h4,h3⟩⟩;rcases C5 j i with FD|FD
  ·exact AL j b FD hb
  ·have LF:=h5 j FD hj;have ER:j<s.length:=(Y1.1 hb).1;rw[Rx ER]at hb;cases hb
   cases hc:cs.contains (at_ s (j:Int))with
   | false=>rfl
   | true =>
    rw[Y4y]at hc;obtain⟨k,hk⟩:=O3.1 hc
    have:=G_ k _ hk
    omega
end Ul
namespace Go.Proofs
open Go.Shelf
open Tryz
def Tryz.Hz:Go.Shelf.Ren:=⟨λ|156=>117|165=>212|166=>209|169=>211|240=>297|241=>298|276=>393|277=>394|n=>n,λ|31=>69|9=>9|3=>3|4=>4|0=>0|20=>20|72=>331|76=>199|70=>329|37=>172|75=>198|127=>421|164=>492|5=>5|80=>334|n=>n,λ|n=>n⟩
theorem Tryz.nO:Go.Proofs.Lays.n156 prog Hz:={
 mixed:=by kernel_rfl
 f156:=func117.trans (Y5 some kr)
 f165:=func212.trans (Y5 some kr)
 f166:=func209.trans (Y5 some kr)
 f169:=func211.trans (Y5 some kr)
 f240:=func297.trans (Y5 some kr)
 f241:=func298.trans (Y5 some kr)
 f276:=func393.trans (Y5 some kr)
 f277:=func394.trans (Y5 some kr)
 t0:=km
 a0:=kh
 z0:=ki
 v0:=kD
 t3:=Dq
 a3:=Cv
 z3:=BU
 v3:=M7
 t4:=OE
 a4:=I8
 z4:=EY
 v4:=Pu
 t9:=BV
 a9:=BF
 z9:=Bf
 v9:=K8
 t20:=ku
 a20:=isAgg20
 z20:=kj
 v20:=kE
 t31:=OX
 a31:=Z0
 z31:=Po
 v31:=aC
 t37:=Db
 a37:=UI
 z37:=Jf
 v37:=M5
 t70:=yd
 a70:=isAgg329
 z70:=Q2
 v70:=zeroValue329
 t72:=qw
 a72:=isAgg331
 z72:=sizeOf331
 v72:=aA
 t75:=Q_
 a75:=isAgg198
 z75:=sizeOf198
 v75:=aw
 t76:=Z_
 a76:=isAgg199
 z76:=sizeOf199
 v76:=ax
 t127:=Rf
 a127:=isAgg421
 z127:=sizeOf421
 v127:=aB
 t164:=Rj
 a164:=isAgg492
 z164:=sizeOf492
 v164:=zeroValue492 }
theorem Tryz.Gi:Builder.Extra prog Hz:={
 sizeBuilder:=by kernel_rfl
 liesBuilder:=by kernel_rfl
 t5:=CY
 a5:=HT
 z5:=FJ
 v5:=OG
 infoByte:=by kernel_rfl
 cellsByte:=by kernel_rfl
 sizeByte:=by kernel_rfl
 neB5:=by decide }
open Go.RowKit in
theorem strings_Join(bk o c:Nat)(xs:List ByteArray)(sep:ByteArray)(w:Wo)(uH:∀(j:Nat) x,xs[j]?=some x->w.cell? ⟨bk,o+j,none⟩=some (.string x))(hbk:bk<w.heap.size)(hN:xs.length<=140737488355328)(AaO:xs.length<=c)(hlen:(Lib.join (xs.map (·.data.toList)) sep.data.toList).length<=140737488355328):Calls prog 117 #[.slice (some ⟨bk,o,none⟩) xs.length c,.string sep] w λe w'=>e=.returned (.string ⟨(Lib.join (xs.map (·.data.toList)) sep.data.toList).toArray⟩)/\Below w.heap.size w w':=Any.strings_Join nO Gi bk o c xs sep w uH hbk hN AaO hlen
def Tryz.Ol:Go.Shelf.Ren:=⟨λ|160=>173|232=>263|231=>262|227=>264|234=>266|233=>265|236=>268|235=>267|228=>349|271=>351|151=>350|197=>338|120=>420|152=>395|260=>412|137=>409|119=>436|224=>335|225=>334|217=>333|266=>410|n=>n,λ|9=>9|4=>4|3=>3|5=>5|117=>385|116=>384|0=>0|124=>388|21=>21|105=>455|46=>180|119=>528|139=>531|138=>530|n=>n,λ|3=>8|4=>9|n=>n⟩
theorem Tryz.S4:Go.Proofs.Lays.n160 prog Ol:={
 mixed:=by kernel_rfl
 f119:=MJ.trans (Y5 some kr)
 f120:=func420.trans (Y5 some kr)
 f137:=Ik.trans (Y5 some kr)
 f151:=func350.trans (Y5 some kr)
 f152:=func395.trans (Y5 some kr)
 f160:=func173.trans (Y5 some kr)
 f197:=func338.trans (Y5 some kr)
 f217:=Hh.trans (Y5 some kr)
 f224:=Ij.trans (Y5 some kr)
 f225:=Ii.trans (Y5 some kr)
 f227:=func264.trans (Y5 some kr)
 f228:=func349.trans (Y5 some kr)
 f231:=func262.trans (Y5 some kr)
 f232:=func263.trans (Y5 some kr)
 f233:=func265.trans (Y5 some kr)
 f234:=func266.trans (Y5 some kr)
 f235:=func267.trans (Y5 some kr)
 f236:=func268.trans (Y5 some kr)
 f260:=func412.trans (Y5 some kr)
 f266:=Hi.trans (Y5 some kr)
 f271:=func351.trans (Y5 some kr)
 t0:=km
 a0:=kh
 z0:=ki
 v0:=kD
 t3:=Dq
 a3:=Cv
 z3:=BU
 v3:=M7
 t4:=OE
 a4:=I8
 z4:=EY
 v4:=Pu
 t5:=CY
 a5:=HT
 z5:=FJ
 v5:=OG
 t9:=BV
 a9:=BF
 z9:=Bf
 v9:=K8
 t21:=KZ
 a21:=MM
 z21:=MP
 v21:=M6
 t46:=kX
 a46:=kU
 z46:=kW
 v46:=kY
 t105:=Rh
 a105:=QW
 z105:=Q3
 v105:=Rr
 t116:=underlying384
 a116:=isAgg384
 z116:=sizeOf384
 t117:=underlying385
 a117:=isAgg385
 z117:=sizeOf385
 v117:=zeroValue385
 t119:=Rn
 a119:=QY
 z119:=Q6
 t124:=underlying388
 a124:=isAgg388
 z124:=sizeOf388
 v124:=zeroValue388
 t138:=Ro
 a138:=QZ
 z138:=Q7
 v138:=Rt
 t139:=Rp
 a139:=Q1
 z139:=Q8
 v139:=Ru
 g3:=by kernel_rfl
 g4:=by kernel_rfl }
open Go.RowKit in
theorem strings_Trim_one(s:ByteArray)(c:Ui)(hc:c.toNat<128)(w:Wo)(hs:s.size<=9223372036854775807):Calls prog 173 #[.string s,.string ⟨#[c]⟩] w λe w'=>e=.returned (.string ⟨(Lib.trimB s.data.toList c).toArray⟩)/\(w'=w\/w'=w.drew):=Any.strings_Trim_one S4 s c hc w hs
def Tryz.Od:Go.Shelf.Ren:=⟨λ|119=>436|n=>n,λ|21=>21|4=>4|n=>n,λ|n=>n⟩
theorem Tryz.nH:Go.Proofs.Lays.n119 prog Od:={
 mixed:=by kernel_rfl
 f119:=MJ.trans (Y5 some kr)
 t4:=OE
 a4:=I8
 z4:=EY
 v4:=Pu
 t21:=KZ
 a21:=MM
 z21:=MP
 v21:=M6 }
theorem Tryz.utf8_ValidRune(r:Int)(w:Wo):Calls prog 436 #[.int .i32 r] w λe w'=>e=.returned (.bool (Lib.validRune r))/\w'=w:=Any.utf8_ValidRune nH r w
def Tryz.Oc:Go.Shelf.Ren:=⟨λ|106=>153|213=>244|265=>329|n=>n,λ|9=>9|3=>3|n=>n,λ|n=>n⟩
theorem Tryz.nG:Go.Proofs.Lays.n106 prog Oc:={
 mixed:=by kernel_rfl
 f106:=func153.trans (Y5 some kr)
 f213:=func244.trans (Y5 some kr)
 f265:=func329.trans (Y5 some kr)
 t3:=Dq
 a3:=Cv
 z3:=BU
 v3:=M7
 t9:=BV
 a9:=BF
 z9:=Bf
 v9:=K8 }
open Go.RowKit in
theorem strings_Compare(a b:ByteArray)(w:Wo):Calls prog 153 #[.string a,.string b] w λe w'=>e=.returned (.int .i64 (Lib.compareBytes a.data.toList b.data.toList))/\w'=w:=Any.strings_Compare nG a b w
def Tryz.Oe:Go.Shelf.Ren:=⟨λ|137=>409|217=>333|266=>410|n=>n,λ|9=>9|5=>5|3=>3|n=>n,λ|n=>n⟩
theorem Tryz.nI:Go.Proofs.Lays.n137 prog Oe:={
 mixed:=by kernel_rfl
 f137:=Ik.trans (Y5 some kr)
 f217:=Hh.trans (Y5 some kr)
 f266:=Hi.trans (Y5 some kr)
 t3:=Dq
 a3:=Cv
 z3:=BU
 v3:=M7
 t5:=CY
 a5:=HT
 z5:=FJ
 v5:=OG
 t9:=BV
 a9:=BF
 z9:=Bf
 v9:=K8 }
open Go.RowKit in
theorem strings_IndexByte(s:ByteArray)(c:Int)(w:Wo):Calls prog 409 #[.string s,.int .u8 c] w λe w'=>e=.returned (.int .i64 (Lib.indexByte s.data.toList c.toNat.toUInt8))/\w'=w:=Any.strings_IndexByte nI s c w
def Tryz.Ob:Go.Shelf.Ren:=⟨λ|103=>26|210=>74|206=>154|n=>n,λ|9=>9|4=>4|24=>86|3=>3|n=>n,λ|n=>n⟩
theorem Tryz.nF:Go.Proofs.Lays.n103 prog Ob:={
 mixed:=by kernel_rfl
 f103:=func26.trans (Y5 some kr)
 f206:=func154.trans (Y5 some kr)
 f210:=func74.trans (Y5 some kr)
 t3:=Dq
 a3:=Cv
 z3:=BU
 v3:=M7
 t4:=OE
 a4:=I8
 z4:=EY
 v4:=Pu
 t9:=BV
 a9:=BF
 z9:=Bf
 v9:=K8
 t24:=underlying86
 a24:=isAgg86
 z24:=sizeOf86
 v24:=zeroValue86 }
open Go.RowKit in
theorem strings_CutPrefix(s p:ByteArray)(w:Wo):Calls prog 26 #[.string s,.string p] w λe w'=>e=.returned (.tuple #[.string ⟨(Lib.trimPrefix s.data.toList p.data.toList).toArray⟩,.bool (Lib.hasPrefix s.data.toList p.data.toList)])/\w'=w:=Any.strings_CutPrefix nF s p w
def Tryz.LX:Go.Shelf.Ren:=⟨λ|171=>86|243=>166|246=>259|283=>343|284=>344|285=>345|286=>346|129=>328|317=>415|318=>416|319=>417|320=>418|337=>441|338=>442|n=>n,λ|3=>3|9=>9|2=>2|4=>4|171=>462|0=>0|53=>22|37=>172|5=>5|173=>464|212=>512|51=>437|20=>20|213=>513|46=>180|232=>357|233=>537|n=>n,λ|17=>7|18=>11|19=>12|n=>n⟩
theorem Tryz.eS:Go.Proofs.LaysM.n171 prog LX:={
 mixed:=by kernel_rfl
 f129:=func328.trans (Y5 some kr)
 f171:=func86.trans (Y5 some kr)
 f243:=func166.trans (Y5 some kr)
 f246:=func259.trans (Y5 some kr)
 f283:=func343.trans (Y5 some kr)
 f284:=func344.trans (Y5 some kr)
 f285:=func345.trans (Y5 some kr)
 f286:=func346.trans (Y5 some kr)
 f317:=func415.trans (Y5 some kr)
 f318:=func416.trans (Y5 some kr)
 f319:=func417.trans (Y5 some kr)
 f320:=func418.trans (Y5 some kr)
 f337:=func441.trans (Y5 some kr)
 f338:=func442.trans (Y5 some kr)
 t0:=km
 a0:=kh
 z0:=ki
 v0:=kD
 t2:=underlying2
 a2:=isAgg2
 z2:=sizeOf2
 v2:=zeroValue2
 t3:=Dq
 a3:=Cv
 z3:=BU
 v3:=M7
 t4:=OE
 a4:=I8
 z4:=EY
 v4:=Pu
 t5:=CY
 a5:=HT
 z5:=FJ
 v5:=OG
 t9:=BV
 a9:=BF
 z9:=Bf
 v9:=K8
 t20:=ku
 a20:=isAgg20
 z20:=kj
 v20:=kE
 t37:=Db
 a37:=UI
 z37:=Jf
 v37:=M5
 t46:=kX
 a46:=kU
 z46:=kW
 v46:=kY
 t51:=OS
 a51:=sF
 z51:=sH
 v51:=yf
 t53:=ae
 a53:=isAgg22
 z53:=US
 v53:=rV
 t171:=underlying462
 a171:=isAgg462
 z171:=sizeOf462
 v171:=zeroValue462
 t173:=underlying464
 a173:=isAgg464
 z173:=sizeOf464
 v173:=zeroValue464
 t212:=ak
 a212:=isAgg512
 z212:=sizeOf512
 v212:=zeroValue512
 t213:=underlying513
 a213:=isAgg513
 z213:=sizeOf513
 t232:=underlying357
 a232:=isAgg357
 z232:=sizeOf357
 v232:=zeroValue357
 t233:=underlying537
 a233:=isAgg537
 z233:=sizeOf537
 v233:=zeroValue537
 g17:=by kernel_rfl
 g18:=by kernel_rfl
 g19:=by kernel_rfl
 i0:=by kernel_rfl
 i2:=by kernel_rfl
 i3:=by kernel_rfl
 i4:=by kernel_rfl
 i5:=by kernel_rfl
 i9:=by kernel_rfl
 i20:=by kernel_rfl
 i37:=by kernel_rfl
 i46:=by kernel_rfl
 i51:=by kernel_rfl
 i53:=by kernel_rfl
 i171:=by kernel_rfl
 i173:=by kernel_rfl
 i212:=by kernel_rfl
 i232:=by kernel_rfl
 i233:=by kernel_rfl
 m17:=by kernel_rfl
 m18:=by kernel_rfl
 m19:=by kernel_rfl }
open Go.RowKit Go.Sort Go.Lib in
theorem strconv_Itoa(n : Int)(h0 : -9223372036854775808 ≤ n)(h1 : n ≤ 9223372036854775807)(w : World)(Adt : Lib.TabIs prog w "internal/strconv.uint64pow10" .u64 Lib.pow10Tab):Calls prog 86 #[.int .i64 n] w λe w'=>e=.returned (.string ⟨(Lib.itoa n).toArray⟩)/\∃k os,w'=grow (w.drewN k) os:=Any.strconv_Itoa eS n h0 h1 w Adt
def Tryz.LW:Go.Shelf.Ren:=⟨λ|172=>85|244=>164|245=>165|247=>254|279=>255|280=>256|281=>257|282=>258|287=>340|316=>341|171=>86|205=>342|321=>413|322=>414|243=>166|246=>259|283=>343|284=>344|285=>345|286=>346|129=>328|317=>415|318=>416|319=>417|320=>418|337=>441|338=>442|n=>n,λ|9=>9|3=>3|75=>198|76=>199|4=>4|5=>5|167=>374|37=>172|0=>0|85=>375|2=>2|168=>377|53=>22|175=>457|46=>180|210=>460|127=>421|145=>510|143=>508|21=>21|171=>462|173=>464|212=>512|51=>437|20=>20|213=>513|232=>357|233=>537|80=>334|n=>n,λ|15=>4|16=>5|17=>7|18=>11|19=>12|n=>n⟩
theorem Tryz.IY:Go.Proofs.LaysC.n172 prog LW:={
 mixed:=by kernel_rfl
 f129:=func328.trans (Y5 some kr)
 f171:=func86.trans (Y5 some kr)
 f172:=func85.trans (Y5 some kr)
 f205:=func342.trans (Y5 some kr)
 f243:=func166.trans (Y5 some kr)
 f244:=func164.trans (Y5 some kr)
 f245:=func165.trans (Y5 some kr)
 f246:=func259.trans (Y5 some kr)
 f247:=func254.trans (Y5 some kr)
 f279:=func255.trans (Y5 some kr)
 f280:=func256.trans (Y5 some kr)
 f281:=func257.trans (Y5 some kr)
 f282:=func258.trans (Y5 some kr)
 f283:=func343.trans (Y5 some kr)
 f284:=func344.trans (Y5 some kr)
 f285:=func345.trans (Y5 some kr)
 f286:=func346.trans (Y5 some kr)
 f287:=func340.trans (Y5 some kr)
 f316:=func341.trans (Y5 some kr)
 f317:=func415.trans (Y5 some kr)
 f318:=func416.trans (Y5 some kr)
 f319:=func417.trans (Y5 some kr)
 f320:=func418.trans (Y5 some kr)
 f321:=func413.trans (Y5 some kr)
 f322:=func414.trans (Y5 some kr)
 f337:=func441.trans (Y5 some kr)
 f338:=func442.trans (Y5 some kr)
 t0:=km
 a0:=kh
 z0:=ki
 v0:=kD
 t2:=underlying2
 a2:=isAgg2
 z2:=sizeOf2
 v2:=zeroValue2
 t3:=Dq
 a3:=Cv
 z3:=BU
 v3:=M7
 t4:=OE
 a4:=I8
 z4:=EY
 v4:=Pu
 t5:=CY
 a5:=HT
 z5:=FJ
 v5:=OG
 t9:=BV
 a9:=BF
 z9:=Bf
 v9:=K8
 t20:=ku
 a20:=isAgg20
 z20:=kj
 v20:=kE
 t21:=KZ
 a21:=MM
 z21:=MP
 v21:=M6
 t37:=Db
 a37:=UI
 z37:=Jf
 v37:=M5
 t46:=kX
 a46:=kU
 z46:=kW
 v46:=kY
 t51:=OS
 a51:=sF
 z51:=sH
 v51:=yf
 t53:=ae
 a53:=isAgg22
 z53:=US
 v53:=rV
 t75:=Q_
 a75:=isAgg198
 z75:=sizeOf198
 v75:=aw
 t76:=Z_
 a76:=isAgg199
 z76:=sizeOf199
 v76:=ax
 t85:=underlying375
 a85:=isAgg375
 z85:=sizeOf375
 v85:=zeroValue375
 t127:=Rf
 a127:=isAgg421
 z127:=sizeOf421
 v127:=aB
 t143:=underlying508
 a143:=isAgg508
 z143:=sizeOf508
 v143:=zeroValue508
 t145:=underlying510
 a145:=isAgg510
 z145:=sizeOf510
 v145:=zeroValue510
 t167:=underlying374
 a167:=isAgg374
 z167:=sizeOf374
 v167:=zeroValue374
 t168:=underlying377
 a168:=isAgg377
 z168:=sizeOf377
 v168:=zeroValue377
 t171:=underlying462
 a171:=isAgg462
 z171:=sizeOf462
 v171:=zeroValue462
 t173:=underlying464
 a173:=isAgg464
 z173:=sizeOf464
 v173:=zeroValue464
 t175:=underlying457
 a175:=isAgg457
 z175:=sizeOf457
 v175:=zeroValue457
 t210:=underlying460
 a210:=isAgg460
 z210:=sizeOf460
 v210:=zeroValue460
 t212:=ak
 a212:=isAgg512
 z212:=sizeOf512
 v212:=zeroValue512
 t213:=underlying513
 a213:=isAgg513
 z213:=sizeOf513
 t232:=underlying357
 a232:=isAgg357
 z232:=sizeOf357
 v232:=zeroValue357
 t233:=underlying537
 a233:=isAgg537
 z233:=sizeOf537
 v233:=zeroValue537
 g15:=by kernel_rfl
 g16:=by kernel_rfl
 g17:=by kernel_rfl
 g18:=by kernel_rfl
 g19:=by kernel_rfl
 t80:=underlying334
 a80:=isAgg334
 z80:=sizeOf334
 v80:=zeroValue334
 i0:=by kernel_rfl
 i2:=by kernel_rfl
 i3:=by kernel_rfl
 i4:=by kernel_rfl
 i5:=by kernel_rfl
 i9:=by kernel_rfl
 i20:=by kernel_rfl
 i21:=by kernel_rfl
 i37:=by kernel_rfl
 i46:=by kernel_rfl
 i51:=by kernel_rfl
 i53:=by kernel_rfl
 i75:=by kernel_rfl
 i76:=by kernel_rfl
 i80:=by kernel_rfl
 i85:=by kernel_rfl
 i127:=by kernel_rfl
 i143:=by kernel_rfl
 i145:=by kernel_rfl
 i167:=by kernel_rfl
 i168:=by kernel_rfl
 i171:=by kernel_rfl
 i173:=by kernel_rfl
 i175:=by kernel_rfl
 i210:=by kernel_rfl
 i212:=by kernel_rfl
 i232:=by kernel_rfl
 i233:=by kernel_rfl
 m15:=by kernel_rfl
 m16:=by kernel_rfl
 m17:=by kernel_rfl
 m18:=by kernel_rfl
 m19:=by kernel_rfl
 c0:=by kernel_rfl
 c2:=by kernel_rfl
 c3:=by kernel_rfl
 c4:=by kernel_rfl
 c5:=by kernel_rfl
 c9:=by kernel_rfl
 c20:=by kernel_rfl
 c21:=by kernel_rfl
 c37:=by kernel_rfl
 c46:=by kernel_rfl
 c51:=by kernel_rfl
 c53:=by kernel_rfl
 c75:=by kernel_rfl
 c76:=by kernel_rfl
 c80:=by kernel_rfl
 c85:=by kernel_rfl
 c127:=by kernel_rfl
 c143:=by kernel_rfl
 c145:=by kernel_rfl
 c167:=by kernel_rfl
 c168:=by kernel_rfl
 c171:=by kernel_rfl
 c173:=by kernel_rfl
 c175:=by kernel_rfl
 c210:=by kernel_rfl
 c212:=by kernel_rfl
 c213:=by kernel_rfl
 c232:=by kernel_rfl
 c233:=by kernel_rfl }
open Go.RowKit in
theorem strconv_Atoi_ok(s:ByteArray)(mU:s.size<=9223372036854775806)(v:Int)(h:Lib.atoiAll s.data.toList=.ok v)(w:Wo):Calls prog 85 #[.string s] w λe w'=>e=.returned (.tuple #[.int .i64 v,.nilIface])/\(w'=w\/∃t,w'=Lib.bytesWorld w 5 t):=Any.strconv_Atoi_ok IY s mU v h w
open Go.RowKit in
theorem strconv_Atoi_range(s:ByteArray)(Ac7:s.size<=281474976710656)(h:Lib.atoiAll s.data.toList=.range)(ev:Va)(w:Wo)(hv:w.cell? ⟨5,0,none⟩=some ev)(uQ:ev=.nilIface\/∃te pe,ev=.iface te pe):Calls prog 85 #[.string s] w λe w'=>∃N,e=.returned (.tuple #[.int .i64 (Lib.atoiSat s.data.toList),.iface 377 (.pointer (some ⟨N,0,none⟩))])/\w.heap.size<=N/\w'.heap[N]?=some (.cells #[.string ⟨#[65,116,111,105]⟩,.string s,ev] 460 (0,0))/\Below w.heap.size w w':=Any.strconv_Atoi_range IY s Ac7 h ev w hv uQ
def Tryz.Of:Go.Shelf.Ren:=⟨λ|145=>82|220=>162|219=>250|217=>333|225=>334|224=>335|267=>336|266=>410|314=>411|n=>n,λ|9=>9|4=>4|59=>60|3=>3|5=>5|46=>180|146=>506|51=>437|n=>n,λ|1=>2|n=>n⟩
theorem Tryz.nJ:Go.Proofs.Lays.n145 prog Of:={
 mixed:=by kernel_rfl
 f145:=func82.trans (Y5 some kr)
 f217:=Hh.trans (Y5 some kr)
 f219:=func250.trans (Y5 some kr)
 f220:=func162.trans (Y5 some kr)
 f224:=Ij.trans (Y5 some kr)
 f225:=Ii.trans (Y5 some kr)
 f266:=Hi.trans (Y5 some kr)
 f267:=func336.trans (Y5 some kr)
 f314:=func411.trans (Y5 some kr)
 t3:=Dq
 a3:=Cv
 z3:=BU
 v3:=M7
 t4:=OE
 a4:=I8
 z4:=EY
 v4:=Pu
 t5:=CY
 a5:=HT
 z5:=FJ
 v5:=OG
 t9:=BV
 a9:=BF
 z9:=Bf
 v9:=K8
 t46:=kX
 a46:=kU
 z46:=kW
 v46:=kY
 t51:=OS
 a51:=sF
 z51:=sH
 v51:=yf
 t59:=underlying60
 a59:=isAgg60
 z59:=sizeOf60
 v59:=zeroValue60
 t146:=Rm
 a146:=QX
 z146:=Q5
 v146:=Rs
 g1:=by kernel_rfl }
open Go.RowKit Go.Lib in
theorem strings_Cut(s sep:ByteArray)(m:Int)(w:Wo)(hs:s.size<4294967281)(hm:w.cell? ⟨2,0,none⟩=some (.int .i64 m)):Calls prog 82 #[.string s,.string sep] w λe w'=>e=.returned (.tuple #[.string ⟨(Lib.cut s.data.toList sep.data.toList).1.toArray⟩,.string ⟨(Lib.cut s.data.toList sep.data.toList).2.1.toArray⟩,.bool (Lib.cut s.data.toList sep.data.toList).2.2])/\∃n,w'=w.drewN n:=Any.strings_Cut nJ s sep m w hs hm
def Tryz.Qy:Go.Shelf.Ren:=⟨λ|99=>150|206=>154|n=>n,λ|9=>9|4=>4|3=>3|n=>n,λ|n=>n⟩
theorem Tryz.vE:Go.Proofs.Lays.n99 prog Qy:={
 mixed:=by kernel_rfl
 f99:=MF.trans (Y5 some kr)
 f206:=func154.trans (Y5 some kr)
 t3:=Dq
 a3:=Cv
 z3:=BU
 v3:=M7
 t4:=OE
 a4:=I8
 z4:=EY
 v4:=Pu
 t9:=BV
 a9:=BF
 z9:=Bf
 v9:=K8 }
open Go.RowKit Go.Lib in
theorem strings_HasPrefix(s p:ByteArray)(w:Wo):Calls prog 150 #[.string s,.string p] w λe w'=>e=.returned (.bool (Lib.hasPrefix s.data.toList p.data.toList))/\w'=w:=Any.strings_HasPrefix vE s p w
def Tryz.N_:Go.Shelf.Ren:=⟨λ|100=>133|207=>221|n=>n,λ|9=>9|4=>4|3=>3|n=>n,λ|n=>n⟩
theorem Tryz.nE:Go.Proofs.Lays.n100 prog N_:={
 mixed:=by kernel_rfl
 f100:=func133.trans (Y5 some kr)
 f207:=func221.trans (Y5 some kr)
 t3:=Dq
 a3:=Cv
 z3:=BU
 v3:=M7
 t4:=OE
 a4:=I8
 z4:=EY
 v4:=Pu
 t9:=BV
 a9:=BF
 z9:=Bf
 v9:=K8 }
open Go.RowKit Go.Lib in
theorem strings_HasSuffix(s p:ByteArray)(w:Wo)(hs:s.size<=9223372036854775807):Calls prog 133 #[.string s,.string p] w λe w'=>e=.returned (.bool (Lib.hasSuffix s.data.toList p.data.toList))/\w'=w:=Any.strings_HasSuffix nE s p w hs
def Tryz.Og:Go.Shelf.Ren:=⟨λ|146=>83|221=>163|268=>251|138=>252|143=>253|195=>337|197=>338|218=>339|219=>250|260=>412|217=>333|225=>334|224=>335|267=>336|266=>410|314=>411|n=>n,λ|9=>9|31=>69|3=>3|4=>4|0=>0|105=>455|21=>21|5=>5|46=>180|119=>528|139=>531|138=>530|146=>506|51=>437|n=>n,λ|1=>2|3=>8|4=>9|n=>n⟩
theorem Tryz.nK:Go.Proofs.Lays.n146 prog Og:={
 mixed:=by kernel_rfl
 f138:=func252.trans (Y5 some kr)
 f143:=func253.trans (Y5 some kr)
 f146:=func83.trans (Y5 some kr)
 f195:=func337.trans (Y5 some kr)
 f197:=func338.trans (Y5 some kr)
 f217:=Hh.trans (Y5 some kr)
 f218:=func339.trans (Y5 some kr)
 f219:=func250.trans (Y5 some kr)
 f221:=func163.trans (Y5 some kr)
 f224:=Ij.trans (Y5 some kr)
 f225:=Ii.trans (Y5 some kr)
 f260:=func412.trans (Y5 some kr)
 f266:=Hi.trans (Y5 some kr)
 f267:=func336.trans (Y5 some kr)
 f268:=func251.trans (Y5 some kr)
 f314:=func411.trans (Y5 some kr)
 t0:=km
 a0:=kh
 z0:=ki
 v0:=kD
 t3:=Dq
 a3:=Cv
 z3:=BU
 v3:=M7
 t4:=OE
 a4:=I8
 z4:=EY
 v4:=Pu
 t5:=CY
 a5:=HT
 z5:=FJ
 v5:=OG
 t9:=BV
 a9:=BF
 z9:=Bf
 v9:=K8
 t21:=KZ
 a21:=MM
 z21:=MP
 v21:=M6
 t31:=OX
 a31:=Z0
 z31:=Po
 v31:=aC
 t46:=kX
 a46:=kU
 z46:=kW
 v46:=kY
 t51:=OS
 a51:=sF
 z51:=sH
 v51:=yf
 t105:=Rh
 a105:=QW
 z105:=Q3
 v105:=Rr
 t119:=Rn
 a119:=QY
 z119:=Q6
 t138:=Ro
 a138:=QZ
 z138:=Q7
 v138:=Rt
 t139:=Rp
 a139:=Q1
 z139:=Q8
 v139:=Ru
 t146:=Rm
 a146:=QX
 z146:=Q5
 v146:=Rs
 g1:=by kernel_rfl
 g3:=by kernel_rfl
 g4:=by kernel_rfl }
open Go.RowKit Go.Lib in
theorem strings_Split(s sep:ByteArray)(m:Int)(w:Wo)(hs:s.size<4294967281)(hm:w.cell? ⟨2,0,none⟩=some (.int .i64 m))(h1:1<=sep.size):Calls prog 83 #[.string s,.string sep] w λe w' =>
   e=.returned (.slice (some ⟨w.heap.size,0,none⟩) (Lib.countB s sep+1) (Lib.countB s sep+1))/\w'=w.alloc (.cells ((Lib.splitB sep 0 (Lib.countB s sep) s).map Value.string).toArray 9):=Any.strings_Split nK (by kernel_rfl) s sep m w hs hm h1
def Tryz.Oh:Go.Shelf.Ren:=⟨λ|147=>84|221=>163|268=>251|138=>252|143=>253|195=>337|197=>338|218=>339|219=>250|260=>412|217=>333|225=>334|224=>335|267=>336|266=>410|314=>411|n=>n,λ|9=>9|3=>3|31=>69|4=>4|0=>0|105=>455|21=>21|5=>5|46=>180|119=>528|139=>531|138=>530|146=>506|51=>437|n=>n,λ|1=>2|3=>8|4=>9|n=>n⟩
theorem Tryz.nL:Go.Proofs.Lays.n147 prog Oh:={
 mixed:=by kernel_rfl
 f138:=func252.trans (Y5 some kr)
 f143:=func253.trans (Y5 some kr)
 f147:=func84.trans (Y5 some kr)
 f195:=func337.trans (Y5 some kr)
 f197:=func338.trans (Y5 some kr)
 f217:=Hh.trans (Y5 some kr)
 f218:=func339.trans (Y5 some kr)
 f219:=func250.trans (Y5 some kr)
 f221:=func163.trans (Y5 some kr)
 f224:=Ij.trans (Y5 some kr)
 f225:=Ii.trans (Y5 some kr)
 f260:=func412.trans (Y5 some kr)
 f266:=Hi.trans (Y5 some kr)
 f267:=func336.trans (Y5 some kr)
 f268:=func251.trans (Y5 some kr)
 f314:=func411.trans (Y5 some kr)
 t0:=km
 a0:=kh
 z0:=ki
 v0:=kD
 t3:=Dq
 a3:=Cv
 z3:=BU
 v3:=M7
 t4:=OE
 a4:=I8
 z4:=EY
 v4:=Pu
 t5:=CY
 a5:=HT
 z5:=FJ
 v5:=OG
 t9:=BV
 a9:=BF
 z9:=Bf
 v9:=K8
 t21:=KZ
 a21:=MM
 z21:=MP
 v21:=M6
 t31:=OX
 a31:=Z0
 z31:=Po
 v31:=aC
 t46:=kX
 a46:=kU
 z46:=kW
 v46:=kY
 t51:=OS
 a51:=sF
 z51:=sH
 v51:=yf
 t105:=Rh
 a105:=QW
 z105:=Q3
 v105:=Rr
 t119:=Rn
 a119:=QY
 z119:=Q6
 t138:=Ro
 a138:=QZ
 z138:=Q7
 v138:=Rt
 t139:=Rp
 a139:=Q1
 z139:=Q8
 v139:=Ru
 t146:=Rm
 a146:=QX
 z146:=Q5
 v146:=Rs
 g1:=by kernel_rfl
 g3:=by kernel_rfl
 g4:=by kernel_rfl }
open Go.RowKit Go.Lib in
theorem strings_SplitN(s sep:ByteArray)(n:Nat)(m:Int)(w:Wo)(hs:s.size<4294967281)(hm:w.cell? ⟨2,0,none⟩=some (.int .i64 m))(h1:1<=sep.size)(hn:1<=n)(Adb:n<=9223372036854775807):Calls prog 84 #[.string s,.string sep,.int .i64 n] w λe w' =>
   e=.returned (.slice (some ⟨w.heap.size,0,none⟩) (Lib.splitB sep 0 (min n (s.size+1)-1) s).length (min n (s.size+1)))/\w'=w.alloc (.cells (Lib.cellsOf (Lib.splitB sep 0 (min n (s.size+1)-1) s) (min n (s.size+1))) 9):=Any.strings_SplitN nL (by kernel_rfl) s sep n m w hs hm h1 hn Adb
def Tryz.Hy:Go.Shelf.Ren:=⟨λ|155=>449|154=>451|138=>252|165=>212|143=>253|166=>209|197=>338|169=>211|195=>337|218=>339|240=>297|241=>298|219=>250|260=>412|276=>393|277=>394|217=>333|225=>334|224=>335|267=>336|266=>410|314=>411|n=>n,λ|9=>9|3=>3|4=>4|72=>331|0=>0|76=>199|105=>455|21=>21|5=>5|70=>329|20=>20|37=>172|75=>198|127=>421|164=>492|46=>180|119=>528|139=>531|138=>530|146=>506|51=>437|80=>334|n=>n,λ|1=>2|3=>8|4=>9|n=>n⟩
theorem Tryz.nN:Go.Proofs.Lays.n155 prog Hy:={
 mixed:=by kernel_rfl
 f138:=func252.trans (Y5 some kr)
 f143:=func253.trans (Y5 some kr)
 f154:=func451.trans (Y5 some kr)
 f155:=func449.trans (Y5 some kr)
 f165:=func212.trans (Y5 some kr)
 f166:=func209.trans (Y5 some kr)
 f169:=func211.trans (Y5 some kr)
 f195:=func337.trans (Y5 some kr)
 f197:=func338.trans (Y5 some kr)
 f217:=Hh.trans (Y5 some kr)
 f218:=func339.trans (Y5 some kr)
 f219:=func250.trans (Y5 some kr)
 f224:=Ij.trans (Y5 some kr)
 f225:=Ii.trans (Y5 some kr)
 f240:=func297.trans (Y5 some kr)
 f241:=func298.trans (Y5 some kr)
 f260:=func412.trans (Y5 some kr)
 f266:=Hi.trans (Y5 some kr)
 f267:=func336.trans (Y5 some kr)
 f276:=func393.trans (Y5 some kr)
 f277:=func394.trans (Y5 some kr)
 f314:=func411.trans (Y5 some kr)
 t0:=km
 a0:=kh
 z0:=ki
 v0:=kD
 t3:=Dq
 a3:=Cv
 z3:=BU
 v3:=M7
 t4:=OE
 a4:=I8
 z4:=EY
 v4:=Pu
 t5:=CY
 a5:=HT
 z5:=FJ
 v5:=OG
 t9:=BV
 a9:=BF
 z9:=Bf
 v9:=K8
 t20:=ku
 a20:=isAgg20
 z20:=kj
 v20:=kE
 t21:=KZ
 a21:=MM
 z21:=MP
 v21:=M6
 t37:=Db
 a37:=UI
 z37:=Jf
 v37:=M5
 t46:=kX
 a46:=kU
 z46:=kW
 v46:=kY
 t51:=OS
 a51:=sF
 z51:=sH
 v51:=yf
 t70:=yd
 a70:=isAgg329
 z70:=Q2
 v70:=zeroValue329
 t72:=qw
 a72:=isAgg331
 z72:=sizeOf331
 v72:=aA
 t75:=Q_
 a75:=isAgg198
 z75:=sizeOf198
 v75:=aw
 t76:=Z_
 a76:=isAgg199
 z76:=sizeOf199
 v76:=ax
 t105:=Rh
 a105:=QW
 z105:=Q3
 v105:=Rr
 t119:=Rn
 a119:=QY
 z119:=Q6
 t127:=Rf
 a127:=isAgg421
 z127:=sizeOf421
 v127:=aB
 t138:=Ro
 a138:=QZ
 z138:=Q7
 v138:=Rt
 t139:=Rp
 a139:=Q1
 z139:=Q8
 v139:=Ru
 t146:=Rm
 a146:=QX
 z146:=Q5
 v146:=Rs
 t164:=Rj
 a164:=isAgg492
 z164:=sizeOf492
 v164:=zeroValue492
 g1:=by kernel_rfl
 g3:=by kernel_rfl
 g4:=by kernel_rfl }
theorem Tryz.Gh:Builder.Extra prog Hy:={
 sizeBuilder:=by kernel_rfl
 liesBuilder:=by kernel_rfl
 t5:=CY
 a5:=HT
 z5:=FJ
 v5:=OG
 infoByte:=by kernel_rfl
 cellsByte:=by kernel_rfl
 sizeByte:=by kernel_rfl
 neB5:=by decide }
open Go.RowKit Go.Lib in
theorem strings_ReplaceAll(s DG new:ByteArray)(m:Int)(w:Wo)(hs:s.size<4294967281)(hm:w.cell? ⟨2,0,none⟩=some (.int .i64 m))(h1:1<=DG.size)(hlen:s.size+Lib.countB s DG*new.size<=140737488355328):Calls prog 449 #[.string s,.string DG,.string new] w λe w' =>
   e=.returned (.string ⟨(Lib.replaceAll s.data.toList DG.data.toList new.data.toList).toArray⟩)/\Below w.heap.size w w':=Any.strings_ReplaceAll nN Gh s DG new m w hs hm h1 hlen
def Tryz.Oi:Go.Shelf.Ren:=⟨λ|152=>395|137=>409|119=>436|224=>335|225=>334|217=>333|266=>410|n=>n,λ|9=>9|21=>21|3=>3|4=>4|5=>5|0=>0|46=>180|n=>n,λ|n=>n⟩
theorem Tryz.nM:Go.Proofs.Lays.n152 prog Oi:={
 mixed:=by kernel_rfl
 f119:=MJ.trans (Y5 some kr)
 f137:=Ik.trans (Y5 some kr)
 f152:=func395.trans (Y5 some kr)
 f217:=Hh.trans (Y5 some kr)
 f224:=Ij.trans (Y5 some kr)
 f225:=Ii.trans (Y5 some kr)
 f266:=Hi.trans (Y5 some kr)
 t0:=km
 a0:=kh
 z0:=ki
 v0:=kD
 t3:=Dq
 a3:=Cv
 z3:=BU
 v3:=M7
 t4:=OE
 a4:=I8
 z4:=EY
 v4:=Pu
 t5:=CY
 a5:=HT
 z5:=FJ
 v5:=OG
 t9:=BV
 a9:=BF
 z9:=Bf
 v9:=K8
 t21:=KZ
 a21:=MM
 z21:=MP
 v21:=M6
 t46:=kX
 a46:=kU
 z46:=kW
 v46:=kY }
open Go.RowKit Go.Lib in
theorem strings_IndexRune_ascii(s:ByteArray)(r:Int)(w:Wo)(h0:0<=r)(h1:r<128):Calls prog 395 #[.string s,.int .i32 r] w λe w'=>e=.returned (.int .i64 (Lib.indexByte s.data.toList r.toNat.toUInt8))/\w'=w:=Any.strings_IndexRune_ascii nM s r w h0 h1
def Tryz.Oj:Go.Shelf.Ren:=⟨λ|153=>299|152=>395|226=>396|227=>264|228=>349|137=>409|119=>436|224=>335|225=>334|217=>333|266=>410|n=>n,λ|9=>9|3=>3|4=>4|5=>5|21=>21|117=>385|116=>384|0=>0|46=>180|124=>388|n=>n,λ|n=>n⟩
theorem Tryz.S0:Go.Proofs.Lays.n153 prog Oj:={
 mixed:=by kernel_rfl
 f119:=MJ.trans (Y5 some kr)
 f137:=Ik.trans (Y5 some kr)
 f152:=func395.trans (Y5 some kr)
 f153:=func299.trans (Y5 some kr)
 f217:=Hh.trans (Y5 some kr)
 f224:=Ij.trans (Y5 some kr)
 f225:=Ii.trans (Y5 some kr)
 f226:=func396.trans (Y5 some kr)
 f227:=func264.trans (Y5 some kr)
 f228:=func349.trans (Y5 some kr)
 f266:=Hi.trans (Y5 some kr)
 t0:=km
 a0:=kh
 z0:=ki
 v0:=kD
 t3:=Dq
 a3:=Cv
 z3:=BU
 v3:=M7
 t4:=OE
 a4:=I8
 z4:=EY
 v4:=Pu
 t5:=CY
 a5:=HT
 z5:=FJ
 v5:=OG
 t9:=BV
 a9:=BF
 z9:=Bf
 v9:=K8
 t21:=KZ
 a21:=MM
 z21:=MP
 v21:=M6
 t46:=kX
 a46:=kU
 z46:=kW
 v46:=kY
 t116:=underlying384
 a116:=isAgg384
 z116:=sizeOf384
 t117:=underlying385
 a117:=isAgg385
 z117:=sizeOf385
 v117:=zeroValue385
 t124:=underlying388
 a124:=isAgg388
 z124:=sizeOf388
 v124:=zeroValue388 }
open Go.RowKit Go.Lib in
theorem strings_IndexAny_one(s chars:ByteArray)(w:Wo)(h1:chars.size=1)(Qd:∀(j:Nat) b,chars.data.toList[j]?=some b->b.toNat<128):Calls prog 299 #[.string s,.string chars] w λe w'=>e=.returned (.int .i64 (Lib.indexAny s.data.toList chars.data.toList))/\w'=w:=Any.strings_IndexAny_one S0 s chars w h1 Qd
open Go.RowKit Go.Lib in
theorem strings_IndexAny_long(Abf:∀w,(zeroValue 384).run prog w=.ok (.agg (Array.replicate 256 (.bool false))) w)(s chars:ByteArray)(w:Wo)(h2:2<=chars.size)(h8:8<s.size)(hs:s.size<4294967281)(G_:chars.size<4294967281)(Qd:∀(j:Nat) b,chars.data.toList[j]?=some b->b.toNat<128):Calls prog 299 #[.string s,.string chars] w λe w'=>e=.returned (.int .i64 (Lib.indexAny s.data.toList chars.data.toList))/\w'=((w.alloc (.cells (Lib.setCells chars.data.toList) 384)).alloc (.cells (Lib.setCells chars.data.toList) 384)):=Any.strings_IndexAny_long S0 Abf (by kernel_rfl) s chars w h2 h8 hs G_ Qd
def Tryz.JX:Go.Shelf.Ren:=⟨λ|16=>225|n=>n,λ|24=>69|9=>9|4=>4|n=>n,λ|n=>n⟩
theorem Tryz.Ha:Go.Proofs.Lays2.n16 prog JX:={
 mixed:=by kernel_rfl
 f16:=func225.trans (Y5 some kr)
 t4:=OE
 a4:=I8
 z4:=EY
 v4:=Pu
 t9:=BV
 a9:=BF
 z9:=Bf
 v9:=K8
 t24:=OX
 a24:=Z0
 z24:=Po
 v24:=aC
 i9:=by kernel_rfl }
open Go.RowKit Go.Lib in
theorem slices_Clone_string(b off n c:Nat)(zs:List ByteArray)(w:Wo)(hz:n<=zs.length)(Acm:n*16<=140737488355328)(hc:∀j,j<zs.length->w.cell? ⟨b,off+j,none⟩=some (.string (zs.getD j ByteArray.empty))):Calls prog 225 #[.slice (some ⟨b,off,none⟩) n c] w λe w'=>∃v',e=.returned v'/\w'.ownsRow w.heap.size 9 1 v' n ((zs.take n).map (Value.string))/\v'≠.slice none 0 0/\Below w.heap.size w w':=Any.slices_Clone_string Ha b off n c zs w hz Acm hc
open Go.RowKit Go.Lib in
theorem slices_Clone_string_nil(n c:Nat)(w:Wo):Calls prog 225 #[.slice none n c] w λe w'=>e=.returned (.slice none 0 0)/\w'=w:=Any.slices_Clone_string_nil Ha n c w
open Go.RowKit Go.Lib in
theorem slices_Clone_string_zero(a:Addr)(c:Nat)(w:Wo):Calls prog 225 #[.slice (some a) 0 c] w λe w'=>∃v',e=.returned v'/\w'.ownsRow w.heap.size 9 1 v' 0 []/\v'≠.slice none 0 0/\Below w.heap.size w w':=Any.slices_Clone_string_zero Ha a c w
end Go.Proofs
namespace Go.Proofs.W9
open Gk Pc Ul
open Tryz
theorem X6g(s:Lu)(c:Ui)(w:Wo):Calls prog 409 #[S s,U8 c.toNat] w (A4 λv w'=>v=Ab (Go.Lib.indexByte s c)/\w=w') :=
 (strings_IndexByte ⟨s.toArray⟩ c.toNat w).mono λe w' he=>by
  obtain⟨rfl,rfl⟩:=he;refine⟨_,O,?_,O⟩
  congr 2
  simp
theorem n5(s:Lu)(w:Wo):Cz 427 [S s] w λv w'=>v=Ab (nZ s:Nat)/\w=w':=by
 refine gN 3 ?_ ?_<;>intro SD
 ·exact gG 1 ⟨by rw[nZ,Y7 (show s=ji from SD)];rfl,O⟩
 exact gG 1 ⟨by rw[nZ,Y3 (show ¬ s=ji from SD)];rfl,O⟩
theorem Xol(s:Lu)(hl:s.length<=1000000)(As:La)(hS:Aa B w I As):Ce B I As 359 [S s] w (S (low s)):=by
 refine gH 2 (.g_ (s:=s) hS (.of O) BV Db CY O ?_);clear hS;intro m7 Ab3 r7 w hS;refine gG 4 ?_;refine .lk [3,8,9] (σ:=Nat) (λi _m=>(10,Ab (i:Nat))::_m) (λi w=>i<=s.length/\Aa B w I (Vr m7 (Ax (Pb s i)++List.replicate r7 (Value.int .u8 0)) 5::As)) (λi=>s.length-i) 0 ⟨Y4 _,by rw[mid_zero];exact hS⟩ ?_;rintro i w ⟨hi,hS⟩;refine gM 1 ?_ ?_<;>intro Dw Eo
 ·refine gG 0 ?_;have NV:(Ax (Pb s i)).length=s.length:=by rw[Yh,S9]
  have O9:(Ax (Pb s i)++List.replicate r7 (Value.int .u8 0))[i]?=some (U8 (at_ s i).toNat):=by
   rw[Y9 om,Ys,fk s i om];rfl
  refine gH 2 ?_;refine .val (.ldM (.of O) hS (k:=0) O HT (by rw[Yj];(try rw[Y8]);rw[Gv];exact O9)) O ?_;refine gM 8 ?_ ?_<;>intro BX FX
  ·refine gH 6 (.Ahb hS (k:=0) O (.of O) (.of O) O FJ (by rw[Y0,NV,js];omega) ?_);clear hS;intro w hS;try dsimp only[List.set]at hS
   refine gG 2 (⟨i+1,⟨O,O,O,O,trivial⟩,⟨om,?_⟩,om⟩);have e:=Xuu s i om;simp only[Yj,Y8,Gv]at hS
   rw[Y55 _ _ om,show Value.int .u8 (IntKind.u8.wrap ((IntKind.u8.wrap (((at_ s (i:Int)).toNat:Int)+97))-65))=U8 (lo (at_ s (i:Int))).toNat by
    have:=Abo (c:=at_ s (i:Int)) (by simpa only [Yb,dq1]using BX)
    rw[this,IntKind.wrap_u8,IntKind.wrap_u8];congr 1;omega,<-Y61,e]at hS
   exact hS
  refine gG 2 (rd (i+1) ⟨om,?_⟩);rw[<-fl s i om (Abn (λhh=>by
   have:(decide (65<=((at_ s (i:Int)).toNat:Int))&&decide (((at_ s (i:Int)).toNat:Int)<=90))=true:=by simp only[Yb,dq1];exact hh
   rw[this]at BX;cases BX))]
  exact hS
 refine gH 1 ?_;refine .val (.Vt (l:=low s) (b:=m7) (o:=0) (cap:=Ab3) (.of (by rw[kP];rfl)) hS (k:=0) O Db CY BV (λj hj=>by
  rw[kP]at hj;rw[Yj,Y9 (by rw[Yh,S9];omega),Ys,mid_end s i om,Y2 (by rw[kP];omega)];rfl)) O ?_
 exact gG 1 ⟨O,hS.s⟩
theorem eD(s:Lu)(w:Wo):Cz 361 [S s] w λv w'=>v=.bool (qd s)/\w=w':=by
 obtain⟨w0,LU⟩:∃w0,w=w0:=⟨_,O⟩
 rw[show(λ(v:Va) (w':Wo)=>v=.bool (qd s)/\w=w')=(λv w'=>v=.bool (qd s)/\w0=w')by rw[LU]];refine gM 8 ?_ ?_<;>intro Dw Eo
 ·refine gG 1 (⟨?_,LU.symm⟩)
  congr 1
  rw[qd];rcases Y4j.1 Dw with h|h
  ·rw[show s=[]by simpa using h];rfl
  ·simp only[dq1]at h
   rw[show decide (64<s.length)=true from decide_eq_true om];simp
 refine gG 3 (.lk [0,13] (σ:=Nat) (λi _m=>(14,Ab (i:Nat))::_m) (λi w=>i<=s.length/\(∀j,j<i->j<s.length->NW (at_ s (j:Int))=true)/\w=w0) (λi=>s.length-i) 0 ⟨Y4 _,λ_ h=>Yy h om,LU⟩ ?_);rintro i w ⟨hi,Dz,hw⟩;refine gN 1 ?_ ?_<;>intro G8
 ·refine gC 7 (wZ _ _) ?_;rintro _ _ ⟨rfl,rfl⟩;refine gM 9 ?_ ?_<;>intro FW JQ
  ·refine gG 1 (⟨?_,hw.symm⟩);rw[Xo7]at FW;rw[qd,Xg2 (p:=NW) (i:=i) om (su FW),jy]
  refine gG 2 (rd (i+1) ⟨om,λj hj ER=>?_,hw⟩);rcases C5 j i with h1|h1
  ·exact Dz j h1 ER
  ·have e:j=i:=om
   subst e;rw[Xo7]at FW;simpa using FW
 refine gG 1 (⟨?_,hw.symm⟩);rw[qd,xL Dz om,Y5p];obtain⟨h1,h2⟩:=(Mw).1 Dw;rw[show decide (64<s.length)=false from decide_eq_false (by simp only[dq2]at h2;omega),show s.isEmpty=false by cases s with|nil=>simp at h1|cons a b=>rfl];rfl
theorem Xza(s:Lu)(hl:s.length<=1000000)(w:Wo):Cz 428 [S s] w λv w'=>v=.bool (s.all qh)/\w=w':=by
 obtain⟨w0,LU⟩:∃w0,w=w0:=⟨_,O⟩
 rw[show(λ(v:Va) (w':Wo)=>v=.bool (s.all qh)/\w=w')=(λv w'=>v=.bool (s.all qh)/\w0=w')by rw[LU]];refine gG 4 (.lk [0,6] (σ:=Nat) (λi _m=>(7,Ab (i:Nat))::_m) (λi w=>i<=s.length/\(∀j,j<i->j<s.length->qh (at_ s (j:Int))=true)/\w=w0) (λi=>s.length-i) 0 ⟨Y4 _,λ_ h=>Yy h om,LU⟩ ?_);rintro i w ⟨hi,Dz,hw⟩;refine gN 1 ?_ ?_<;>intro E5
 ·refine gH 14 ?_;refine .AG (T:=λw=>w=w0) O O O Ik O (λAi=>(Be O (X5 (.gd Ai O) X4))) O (λAi=>(X6g BAD (at_ s (i:Int)) _).mono (λe w2 he=>by obtain⟨v,a,b,c⟩:=he;exact⟨v,a,b,by rw[<-c];exact hw⟩)) hw ?_;rintro w hw;refine gM 2 ?_ ?_<;>intro EH Dy
  ·refine gG 1 (⟨?_,hw.symm⟩);rw[Xjn]at EH;rw[Xg2 (p:=qh) (i:=i) om (su EH)]
  refine gG 2 (rd (i+1) ⟨om,λj hj ER=>?_,hw⟩);rcases C5 j i with h1|h1
  ·exact Dz j h1 ER
  ·have e:j=i:=om
   subst e;rw[Xjn]at EH;simpa using EH
 refine gG 1 (⟨?_,hw.symm⟩);rw[xL Dz om]
theorem YO(s:Lu)(i:Nat)(h4:i<=4)(h:∀j,j<i->j<s.length->Ks (at_ s (j:Int))=true):val (s.take i)<=9999:=by
 have step:∀k,k<=i->val (s.take k)+1<=10^k:=by
  intro k
  induction k with
  | zero=>intro _;simp[val]
  | succ k ih =>
   intro hk
   have:=ih om
   rcases C5 k s.length with hl|hl
   ·rw[z_ s k hl,bg];have hd:=h k om hl;simp only[Ks,Yb,dq1,yv]at hd
    have e1:(48:Ui).toNat=48:=rfl;have e2:(57:Ui).toNat=57:=rfl;rw[e1,e2]at hd;omega
   ·rw[show s.take (k+1)=s.take k by rw[Yg om,Yg om],bg];omega
 have h1:=step i (Yd _);have h2:10^i<=10^4:=Y4e de h4;have h3:10^4=10000:=de
 omega
theorem fG(s Dt:Lu)(hl:s.length<=1000000)(w:Wo):Cz 362 [S s,S Dt] w λv w'=>v=(if Jc s then Value.tuple #[Ab (UM s Dt:Nat),.bool true]else .tuple #[Ab 0,.bool false])/\w=w':=by
 obtain⟨w0,LU⟩:∃w0,w=w0:=⟨_,O⟩
 rw[show(λ(v:Va) (w':Wo)=>v=(if Jc s then Value.tuple #[Ab (UM s Dt:Nat),.bool true]else .tuple #[Ab 0,.bool false])/\w=w')=(λv w'=>v=(if Jc s then Value.tuple #[Ab (UM s Dt:Nat),.bool true]else .tuple #[Ab 0,.bool false])/\w0=w')by rw[LU]];refine gG 6 (.lk [0,1,10] (σ:=Nat) (λi _m=>(6,Ab (val (s.take i):Nat))::(11,Ab (i:Nat))::_m) (λi w=>i<=s.length/\i<=5/\(∀j,j<i->j<s.length->Ks (at_ s (j:Int))=true)/\(0<i->at_ s 0≠48)/\w=w0) (λi=>s.length-i) 0 ⟨Y4 _,de,λ_ h=>Yy h om,λh=>Yy h om,LU⟩ ?_);rintro i w ⟨hi,hi5,Dz,h0,hw⟩;refine gN 1 ?_ ?_<;>intro B_
 ·refine gH 14 ?_;refine gM 10 ?_ ?_<;>intro DN Ft
  ·refine gG 2 ?_;have uo:Jc s=false:=by
    have h:=DN;rcases Y4j.1 h with h|h
    ·rcases Y4j.1 h with h|h
     ·rw[Xtp]at h;unfold Jc;rw[Xg2 (p:=Ks) (i:=i) om (su h)];rfl
     ·simp only[Yb,beq_iff_eq]at h
      have e0:i=0:=om
      subst e0;unfold Jc
      have:s.headD 0=48:=by
       have h2:(at_ s ((0:Nat):Int)).toNat=48:=om
       have h3:at_ s ((0:Nat):Int)=48:=JH.1 h2;cases s with
       | nil=>simp at B_
       | cons a b=>exact h3
      rw[this]
      simp
    ·simp only[dq1]at h
     have e5:i=5:=om
     have ZC:=Dz 0 om om;unfold Jc;rw[decide_eq_false (show ¬ val s<=65535 from λhh=>by have:=pd s om ZC (h0 om);omega)]
     simp
   refine⟨?_,hw.symm⟩;rw[Y3 (by rw[yD];exact uo)]
  refine gG 0 ?_;have Ahk:=(at_ s (i:Int)).toNat_lt;have mW:¬ (((decide (((at_ s (i:Int)).toNat:Int)<48)||decide (57<((at_ s (i:Int)).toNat:Int)))||((i:Int)==0)&&(((at_ s (i:Int)).toNat:Int)==48))||decide (4<(i:Int)))=true:=by rw[DN];decide
  have AaS:Ks (at_ s (i:Int))=true:=by
   cases hd:Ks (at_ s (i:Int))with
   | true=>rfl
   | false=>exact Yy (by rw[Xtp,hd];rfl) mW
  have hrg:48<=(at_ s (i:Int)).toNat/\(at_ s (i:Int)).toNat<=57:=by
   have:=AaS
   simp only[Ks,Yb,dq1,yv]at this
   have e1:(48:Ui).toNat=48:=rfl;have e2:(57:Ui).toNat=57:=rfl;rw[e1,e2]at this;exact this
  have hi4:i<=4:=by
   rcases C5 4 i with h|h
   ·exact Yy (by rw[decide_eq_true (show 4<(i:Int)by omega),Bool.or_true]) mW
   ·exact h
  have hh0:i=0->(at_ s (i:Int)).toNat≠48:=λe h=>Yy (by
   rw[show((i:Int)==0)=true by simp[e],show(((at_ s (i:Int)).toNat:Int)==48)=true by simp[h]];simp) mW
  have hv4:=YO s i hi4 Dz;refine gH 3 (.val (.AbO (.of O) (.of O) (by rw[IntKind.wrap_u8];omega)) O (gG 5 (⟨i+1,⟨?_,O,O,O,O,trivial⟩,⟨om,om,λj hj ER=>?_,λ_=>?_,hw⟩,om⟩)))
  ·rw[z_ s i om];show some _=some _
   congr 3
   omega
  ·rcases C5 j i with h1|h1
   ·exact Dz j h1 ER
   ·have e:j=i:=om
    rw[e];exact AaS
  ·rcases Nx i with e|e
   ·subst e;intro h;exact hh0 O (by show(at_ s ((0:Nat):Int)).toNat=48;rw[show((0:Nat):Int)=0 from O,h];rfl)
   ·exact h0 e
 refine gM 6 ?_ ?_<;>intro mG Acp
 ·refine gG 2 ?_;have hlen:s.length=i:=om
  rw[<-hlen,Jm]at mG;have uo:Jc s=false:=by
   unfold Jc;rcases Y4j.1 mG with h|h
   ·simp only[dq1]at h
    rw[decide_eq_false (show ¬ 1<=val s by omega)];simp
   ·simp only[dq1]at h
    rw[decide_eq_false (show ¬ val s<=65535 by omega)];simp
  refine⟨?_,hw.symm⟩;rw[Y3 (by rw[yD];exact uo)]
 refine gC 2 (n5 Dt _) ?_;rintro _ w ⟨rfl,hw1⟩;rw[hw]at hw1;refine gM 1 ?_ ?_<;>intro Qg mL
 ·refine gG 4 ?_;have hlen:s.length=i:=om
  have NO:=mG;rw[<-hlen,Jm]at NO;have eo:Jc s=true:=by
   unfold Jc;obtain⟨h1,h2⟩:=Mw.1 NO;simp only[dq2]at h1 h2
   have A8:s≠[]:=λe=>by rw[e]at h1;simp[val]at h1
   have hp:0<s.length:=U5.2 A8;rw[xL Dz om,decide_eq_true (show 1<=val s by omega),decide_eq_true (show val s<=65535 by omega)]
   have:=h0 om
   have e:s.headD 0=at_ s 0:=by cases s with|nil=>exact Yy rfl A8|cons a b=>rfl
   rw[e];simp[this]
  refine⟨?_,hw1⟩;rw[Y7 eo,UM];have NP:=Qg;rw[<-hlen,Jm]at NP;rw[Y7 (by simp only[beq_iff_eq]at NP;omega)];rfl
 refine gG 3 ?_;have hlen:s.length=i:=om
 have NO:=mG;rw[<-hlen,Jm]at NO;have eo:Jc s=true:=by
  unfold Jc;obtain⟨h1,h2⟩:=Mw.1 NO;simp only[dq2]at h1 h2
  have A8:s≠[]:=λe=>by rw[e]at h1;simp[val]at h1
  have hp:0<s.length:=U5.2 A8;rw[xL Dz om,decide_eq_true (show 1<=val s by omega),decide_eq_true (show val s<=65535 by omega)]
  have:=h0 om
  have e:s.headD 0=at_ s 0:=by cases s with|nil=>exact Yy rfl A8|cons a b=>rfl
  rw[e];simp[this]
 refine⟨?_,hw1⟩;rw[Y7 eo,UM];have NP:=Qg;rw[<-hlen,Jm]at NP;rw[Y3 (by simp only[beq_eq_false_iff_ne]at NP;omega),<-hlen,Jm]
end Go.Proofs.W9
namespace Ul
open Pc Gk
def Lb(s:Lu):Option Lu:=if s.all qh then H4 s else none
def A_:List UInt8->List (List UInt8)
 | []=>[[]]
 | c::r=>if c=47 then[]::A_ r else match A_ r with
  | []=>[[c]]
  | h::t=>(c::h)::t
theorem QI(s:Lu):A_ s≠[]:=by
 cases s with
 | nil=>simp[A_]
 | cons c r =>
  simp only[A_]
  split
  ·simp
  ·split<;>simp
theorem Xlo:∀(s:Lu),(∀x∈s,x≠47)->A_ s=[s]
 | [],_=>rfl
 | c::r,h=>by
  rw[A_,Y3 (h c sz),Xlo r (λx hx=>h x (by simp[hx]))]
theorem TK:∀(a b:Lu),(∀x∈a,x≠47)->A_ (a++47::b)=a::A_ b
 | [],b,_=>by show A_ (47::b)=_;rw[A_,Y7 O]
 | c::r,b,h=>by
  show A_ (c::(r++47::b))=_
  rw[A_,Y3 (h c sz),TK r b (λx hx=>h x (by simp[hx]))]
theorem Xvr{s:Lu}(h:s[i]?=some 47)(AL:∀k,k<i->s[k]?≠some 47):A_ s=s.take i::A_ (s.drop (i+1)):=by
 have hi:i<s.length:=(Y1.1 h).1;have e:s=s.take i++47::s.drop (i+1):=by
  conv=>lhs;rw[<-Mv i s]
  rw[Yp hi,(Y1.1 h).2]
 conv=>lhs;rw[e]
 refine TK _ _ λx hx ex=>?_
 obtain⟨k,hk⟩:=O3.1 hx;rw[jw]at hk;split at hk
 ·rename_i O7
  exact AL k O7 (by rw[hk,ex])
 ·cases hk
theorem Xz7:∀(n:Nat) (s:Lu),s.length<=n->Go.Lib.splitK [47] 0 (Go.Lib.count s [47]) s=A_ s:=by
 intro n
 induction n with
 | zero =>
  intro s h
  have:s=[]:=Yf om
  subst this;rfl
 | succ n ih =>
  intro s h;have IQ:=Go.Lib.indexByte_ge s 47
  by_cases e:Go.Lib.indexByte s 47=-1
  ·have hi:Go.Lib.index s [47]=-1:=by rw[Go.Lib.index_one];exact e
   rw[Go.Lib.count_miss hi];refine(Xlo s λx hx ex=>?_).symm;obtain⟨k,hk⟩:=O3.1 hx;exact Go.Lib.indexByte_none e k (by rw[hk,ex])
  ·obtain⟨i,hk⟩:∃k:Nat,Go.Lib.indexByte s 47=k:=⟨(Go.Lib.indexByte s 47).toNat,om⟩
   have hi:Go.Lib.index s [47]=i:=by rw[Go.Lib.index_one];exact hk
   obtain⟨h1,h2⟩:=Go.Lib.indexByte_some hk;have BO:i<s.length:=(Y1.1 h1).1;rw[Go.Lib.count_hit sz hi,Zz 1,Go.Lib.splitK,hi,Y3 sz,Xvr h1 h2];show s.take ((i:Int).toNat+0)::Go.Lib.splitK [47] 0 (Go.Lib.count (s.drop (i+1)) [47]) (s.drop ((i:Int).toNat+1))=_
   rw[Y8,Hn,ih (s.drop (i+1)) (by rw[Ye];omega)]
theorem oT:∀(n:Nat) (s:Lu),s.length<=n->(A_ s).length=Go.Lib.count s [47]+1:=by
 intro n
 induction n with
 | zero =>
  intro s h
  have:s=[]:=Yf om
  subst this;rfl
 | succ n ih =>
  intro s h;have IQ:=Go.Lib.indexByte_ge s 47
  by_cases e:Go.Lib.indexByte s 47=-1
  ·have hi:Go.Lib.index s [47]=-1:=by rw[Go.Lib.index_one];exact e
   rw[Go.Lib.count_miss hi,Xlo s λx hx ex=>?_]
   ·rfl
   ·obtain⟨k,hk⟩:=O3.1 hx;exact Go.Lib.indexByte_none e k (by rw[hk,ex])
  ·obtain⟨i,hk⟩:∃k:Nat,Go.Lib.indexByte s 47=k:=⟨(Go.Lib.indexByte s 47).toNat,om⟩
   have hi:Go.Lib.index s [47]=i:=by rw[Go.Lib.index_one];exact hk
   obtain⟨h1,h2⟩:=Go.Lib.indexByte_some hk;have BO:i<s.length:=(Y1.1 h1).1;rw[Go.Lib.count_hit sz hi,Xvr h1 h2,List.length_cons,ih (s.drop (i+1)) (by rw[Ye];omega)];show _=1+Go.Lib.count (s.drop (i+1)) [47]+1
   omega
def CO(k:List Lu)(x:Lu):List Lu:=if x=[46]then k else if x=[46,46]then k.dropLast else k++[x]
def OK(k:List Lu):Lu:=(k.map (47::·)).flatten
def Zd(x:Lu):Bool:=x==[46]||x==[46,46]
def Kt:List UInt8->List UInt8
 | []=>[]
 | c::r=>if c=47 then OK ((A_ r).foldl CO [])++(if Zd ((A_ r).getLastD [])||((A_ r).foldl CO []).length==0 then[47]else[])else c::r
theorem cB(p:Lu):(Kt p==[])=(p==[]):=by
 cases p with
 | nil=>rfl
 | cons c r =>
  rw[show((c::r:Lu)==[])=false from O];rw[Kt];split
  ·cases hk:(A_ r).foldl CO []with
   | nil=>simp[OK]
   | cons a b=>simp[OK]
  ·rfl
theorem Xsw(k:List Lu)(x:Lu):OK (k++[x])=OK k++47::x:=by simp[OK]
def Ee(k:List Lu):Nat:=(k.map (λx=>x.length+1)).sum
theorem X9t(k:List Lu):(OK k).length=Ee k:=by
 induction k with
 | nil=>rfl
 | cons a b ih =>
  rw[Ee,Yt,PN,OK,Yt,JG,Y0,List.length_cons];show _+(OK b).length=_
  rw[ih];rfl
theorem Xgu:∀(s:Lu),Ee (A_ s)=s.length+1
 | []=>rfl
 | c::r=>by
  have ih:=Xgu r;simp only[A_]
  split
  ·simp only[Ee,Yt,PN]at ih ⊢
   simp only[List.length_nil,List.length_cons]
   omega
  ·split
   ·rename_i h;exact Yy h (QI r)
   ·rename_i h
    rw[h]at ih;simp only[Ee,Yt,PN,List.length_cons]at ih ⊢
    omega
theorem Xl3(k:List Lu):k.length<=Ee k:=by
 induction k with
 | nil=>exact Yd _
 | cons a b ih =>
  simp only[Ee,Yt,PN,List.length_cons]at ih ⊢
  omega
theorem Xly(a b:List Lu):Ee (a++b)=Ee a+Ee b:=by simp[Ee]
theorem iB(k:List Lu)(x:Lu):Ee (CO k x)<=Ee k+(x.length+1):=by
 unfold CO;split
 ·omega
 ·split
  ·rcases List.eq_nil_or_concat k with e|⟨a,b,e⟩
   ·subst e;simp[Ee]
   ·subst e;rw[List.concat_eq_append,List.dropLast_concat,Xly];omega
  ·rw[Xly];simp[Ee]
theorem Xlz(l:List Lu):∀k,Ee (l.foldl CO k)<=Ee k+Ee l:=by
 induction l with
 | nil=>intro k;simp[Ee]
 | cons a b ih =>
  intro k;have h1:=ih (CO k a);have h2:=iB k a;rw[Ky]
  have:Ee (a::b)=a.length+1+Ee b:=by simp[Ee]
  omega
def r9(s:Lu):Option (Lu×Lu) :=
 if low (s.take 7)=[104,116,116,112,58,47,47]then some (IU,s.drop 7)
 else if low (s.take 8)=[104,116,116,112,115,58,47,47]then some (ji,s.drop 8)else none
structure U where
 Dt:Lu
 host:Lu
 port:Nat
 path:Lu
 query:Lu
 ask:Bool
def U0:U:=⟨[],[],0,[],[],false⟩
abbrev uc(u:U):List Go.Value:=[S u.Dt,S u.host,Ab (u.port:Nat),S u.path,S u.query,.bool u.ask]
def OW(Dt host:List UInt8)(port:Nat)(r:List UInt8):U×Nat :=
 match Lb (Bb [63] r)with
 | none=>(U0,15)
 | some p=>match Lb ((Xd [63] r).drop 1)with
  | none=>(U0,15)
  | some q=>(⟨Dt,host,port,if p=[]then[47]else Kt p,q,!(Xd [63] r).isEmpty⟩,0)
def aR(r:Lu):Lu:=low (Bb [47,63,35,58] r)
def sx(Dt host:Lu)(r:Lu):U×Nat :=
 if r.take 1=[58]then
  if Jc (Bb [47,63,35] (r.drop 1))then OW Dt host (UM (Bb [47,63,35] (r.drop 1)) Dt) (Xd [47,63,35] (r.drop 1))else(U0,14)
 else OW Dt host 0 r
def pU(s:List UInt8):U×Nat :=
 if 2000<s.length then(U0,2)else match r9 s with
 | none=>(U0,12)
 | some (Dt,r)=>if qd (aR r)then sx Dt (aR r) (Xd [47,63,35,58] r)else(U0,13)
def sC(u:U):Lu:=u.Dt++[58,47,47]++u.host++(if u.port=0 then[]else 58::Go.Lib.decDigits u.port)
def L8(u:U):Lu:=sC u++u.path++(if u.ask then 63::u.query else[])
def nU(s:Lu):Lu×Nat:=if(pU s).2=0 then(L8 (pU s).1,0)else([],(pU s).2)
theorem Xrx{c:Ui}(h:lo c=58\/lo c=47):c=lo c:=by
 have:=Xf (p:=λc=>!(lo c==58||lo c==47)||c==lo c) dk c
 simp only[PM,ly,Mw,beq_eq_false_iff_ne,beq_iff_eq]at this
 rcases this with h1|h1
 ·rcases h with h|h
  ·exact Yy h h1.1
  ·exact Yy h h1.2
 ·exact h1
theorem eW(s:Lu)(k:Nat):low (s.drop k)=(low s).drop k:=by simp[low]
theorem e_(s:Lu)(k:Nat):low (s.take k)=(low s).take k:=by simp[low]
theorem eZ:∀(s:Lu),low s=[58,47,47]->s=[58,47,47]
 | [],h=>by simp[low]at h
 | [_],h=>by simp[low]at h
 | [_,_],h=>by simp[low]at h
 | [a,b,c],h=>by
  simp only[low,Yt,Hm,List.cons.injEq,and_true]at h
  obtain⟨h1,h2,h3⟩:=h;rw[Xrx (.inl h1),h1,Xrx (.inr h2),h2,Xrx (.inr h3),h3]
 | _::_::_::_::_,h=>by simp[low]at h
abbrev CZ:Lu:=[58,47,47]
theorem vT{s:Lu}(h:(s.drop i).take 3=CZ):Go.Lib.occAt s CZ i=true:=by
 unfold Go.Lib.occAt;rw[yq];rw[<-h];exact List.take_prefix _ _
theorem fw{s:Lu}(h:Go.Lib.occAt s CZ i=true):(s.drop i).take 3=CZ:=by
 unfold Go.Lib.occAt at h;rw[yq]at h;obtain⟨t,e⟩:=h;rw[<-e];rfl
theorem TJ{s:Lu}{h:Lu}(hk:h.length=k)(hl:low (s.take (k+3))=h++CZ)(hh:h.all (· !=58)=true):Go.Lib.index s CZ=k/\low (s.take k)=h:=by
 have e1:low (s.take k)=h:=by
  have:=Y5 (List.take k) hl
  rw[<-e_,Y64,jx om,yp om,Yg (l:=h) om]at this;exact this
 have e2:(s.drop k).take 3=CZ:=by
  apply eZ
  have:=Y5 (List.drop k) hl
  rw[<-eW,List.drop_take,show k+3-k=3 by omega,qD om,Yk (l:=h) om]at this;exact this
 have hlen:k<=s.length:=by
  have:=Y5 List.length e1
  rw[kP,Yl,hk]at this;omega
 refine⟨Go.Lib.index_first hlen (vT e2) (λj hj=>?_),e1⟩;cases ho:Go.Lib.occAt s CZ j with
 | false=>rfl
 | true =>
  have h3:=fw ho;have h0:s[j]?=some 58:=by
   have:=Y5 (λl=>l[0]?) h3
   simpa[jw,U6]using this
  have h4:h[j]?=some 58:=by
   rw[<-e1,low,Ys,jw,Y7 hj,h0];rfl
  have:=Yv.1 hh 58 (Y6 h4)
  simp at this
theorem Xyz(s:Lu):r9 s=(let c:=Go.Lib.cut s CZ;if c.2.2=true/\(low c.1=IU\/low c.1=ji)then some (low c.1,c.2.1)else none):=by
 have Te:∀(h:Lu) (k:Nat),h.length=k->Go.Lib.index s CZ=(k:Nat)->low (s.take k)=h->low (s.take (k+3))=h++CZ:=by
  intro h k hk hi e;have ho:Go.Lib.occAt s CZ k=true:=by
   rcases Go.Lib.index_spec s CZ with⟨h1,_⟩|⟨j,h1,_,h2,_⟩
   ·omega
   ·have:j=k:=om
    subst this;exact h2
  have h3:=fw ho;rw[List.take_add,low,Ym,h3];show low (s.take k)++_=_
  rw[e];rfl
 simp only[r9]
 split
 ·rename_i h
  obtain⟨hi,e⟩:=TJ (s:=s) (k:=4) (h:=IU) O h de;have hc:Go.Lib.cut s CZ=(s.take 4,s.drop 7,true):=by
   unfold Go.Lib.cut;rw[hi,Y7 de];rfl
  rw[hc];simp only
  rw[Y7 ⟨trivial,.inl e⟩,e]
 ·rename_i hn
  split
  ·rename_i h
   obtain⟨hi,e⟩:=TJ (s:=s) (k:=5) (h:=ji) O h de;have hc:Go.Lib.cut s CZ=(s.take 5,s.drop 8,true):=by
    unfold Go.Lib.cut;rw[hi,Y7 de];rfl
   rw[hc];simp only
   rw[Y7 ⟨trivial,.inr e⟩,e]
  ·rename_i My
   refine(Y3 ?_).symm;rintro⟨hc,ho⟩;unfold Go.Lib.cut at hc ho;split at hc
   ·rename_i hi
    rw[Y7 hi]at ho;obtain⟨k,hk⟩:∃k:Nat,Go.Lib.index s CZ=k:=⟨(Go.Lib.index s CZ).toNat,om⟩
    rw[hk,Y8]at ho;simp only at ho
    have Cw:k<=s.length:=by
     have:=Go.Lib.index_le s CZ
     omega
    have hlen:(low (s.take k)).length=k:=by rw[kP,Yl];omega
    rcases ho with ho|ho
    ·have k4:k=4:=by rw[<-hlen,ho];rfl
     subst k4;exact hn (Te IU 4 O hk ho)
    ·have k5:k=5:=by rw[<-hlen,ho];rfl
     subst k5;exact My (Te ji 5 O hk ho)
   ·cases hc
theorem Sb(s:Lu)(c:Ui):Go.Lib.cut s [c]=(Bb [c] s,(Xd [c] s).drop 1,!(Xd [c] s).isEmpty):=by
 have IQ:=Go.Lib.indexByte_ge s c;have key:Go.Lib.indexAny s [c]=Go.Lib.indexByte s c:=by
  clear IQ
  induction s with
  | nil=>rfl
  | cons b l ih =>
   rw[Go.Lib.indexAny,Go.Lib.indexByte,ih]
   have:([c].contains b)=(b==c):=by rw[Y4t];simp
   rw[this]
 unfold Go.Lib.cut;rw[Go.Lib.index_one]
 by_cases e:Go.Lib.indexByte s c=-1
 ·rw[e,Y3 de];obtain⟨h1,h2⟩:=Xdq (s:=s) (Ay:=[c]) (by rw[key];exact e);rw[h1,h2];rfl
 ·obtain⟨k,hk⟩:∃k:Nat,Go.Lib.indexByte s c=k:=⟨(Go.Lib.indexByte s c).toNat,om⟩
  obtain⟨h1,h2,h3⟩:=Xkj (s:=s) (Ay:=[c]) (i:=k) (by rw[key];exact hk);rw[hk,Y7 om,h1,h2,Y8,yK]
  have:(s.drop k).isEmpty=false:=by
   cases hd:s.drop k with
   | nil =>
    have:=Y5 List.length hd
    rw[Ye,List.length_nil]at this;omega
   | cons a b=>rfl
  rw[this];rfl
theorem Xtq(p:Lu):(Kt p).length<=p.length+1:=by
 cases p with
 | nil=>simp[Kt]
 | cons c r =>
  rw[Kt];split
  ·have h1:=Xlz (A_ r) [];rw[Xgu,show Ee []=0 from O]at h1;rw[Y0,X9t,List.length_cons]
   have:(if(Zd ((A_ r).getLastD [])||((A_ r).foldl CO []).length==0)=true then[47]else([]:Lu)).length<=1:=by split<;>simp
   omega
  ·simp
theorem Xgy(a s:Lu):(Bb a s).length<=s.length:=by
 have:=Y5 List.length (pP a s)
 rw[Y0]at this;omega
theorem Me(a s:Lu):(Xd a s).length<=s.length:=by
 have:=Y5 List.length (pP a s)
 rw[Y0]at this;omega
theorem Xla{s t:Lu}(h:Lb s=some t):t.length<=s.length:=by
 unfold Lb at h;split at h
 ·exact Xuw s t h
 ·cases h
def UE(u:U):Prop:=u.Dt.length<=1000000/\u.host.length<=1000000/\u.port<=65535/\u.path.length<=10000000/\u.query.length<=10000000
theorem xU:UE U0:=⟨de,de,de,de,de⟩
theorem Xjm(Dt host:Lu)(port:Nat)(r:Lu)(h1:Dt.length<=1000000)(h2:host.length<=1000000)(h3:port<=65535)(h4:r.length<=100000):UE (OW Dt host port r).1:=by
 unfold OW;split
 ·exact xU
 ·rename_i p hp
  split
  ·exact xU
  ·rename_i q hq
   have a1:=Xla hp;have a2:=Xla hq;have a3:=Xgy [63] r;have a4:=Me [63] r;have a5:=Xtq p;rw[Ye]at a2;refine⟨h1,h2,h3,?_,by show q.length<=_;omega⟩;show(if p=[]then[47]else Kt p).length<=_
   split
   ·simp
   ·omega
theorem ou{s Dt:Lu}(hp:Jc s=true):UM s Dt<=65535:=by
 unfold UM;split
 ·decide
 ·unfold Jc at hp;simp only[Yb,dq1]at hp
  exact hp.2
theorem z8(s:Lu):UE (pU s).1:=by
 unfold pU;split
 ·exact xU
 ·split
  ·exact xU
  ·rename_i Dt r hs
   split
   ·have hr:r.length<=2000/\Dt.length<=5:=by
     unfold r9 at hs;split at hs
     ·injection hs with hs;injection hs with e1 e2;subst e1;subst e2;rw[Ye];exact⟨om,de⟩
     ·split at hs
      ·injection hs with hs;injection hs with e1 e2;subst e1;subst e2;rw[Ye];exact⟨om,de⟩
      ·cases hs
    have hh:(aR r).length<=1000000:=by unfold aR;rw[kP];have:=Xgy [47,63,35,58] r;omega
    have a3:=Me [47,63,35,58] r;unfold sx;split
    ·split
     ·rename_i hp
      refine Xjm _ _ _ _ om hh (ou hp) ?_
      have:=Me [47,63,35] ((Xd [47,63,35,58] r).drop 1)
      rw[Ye]at this;omega
     ·exact xU
    ·exact Xjm _ _ _ _ om hh de om
   ·exact xU
theorem wP(a s:Lu):(Bb a s).length+(Xd a s).length=s.length:=by
 have:=Y5 List.length (pP a s)
 rw[Y0]at this;omega
end Ul
namespace Go.Proofs.W9
open Gk Pc Ul
open Tryz
theorem Xws(n:Int)(w:Wo):Cz 396 [Ab n] w λv w'=>v=.bool (decide (8<n))/\w=w':=by
 exact gG 4 ⟨O,O⟩
theorem Xk6(r:Int)(w:Wo):Calls prog 436 #[.int .i32 r] w (A4 λv w'=>v=.bool (Go.Lib.validRune r)/\w=w') :=
 (utf8_ValidRune r w).mono λe w' he=>by
  obtain⟨rfl,rfl⟩:=he;exact⟨_,O,O,O⟩
theorem Xmn(cs:Lu)(HM:iO cs)(hl:cs.length<=1000)(r:Int)(h0:128<=r)(h1:r<=1114111)(As:La)(hS:Aa B w I As):Ce B I As 395 [S cs,.int .i32 r] w (Ab (-1)):=by
 refine gU 8 (λAhi Ahm=>?_);refine gN 3 ?_ ?_<;>intro Ahn
 ·refine gH 1 (.range (s:=cs) hS (.of O) BV O ?_);clear hS;intro Ab1 w hS;refine gG 0 (.lk [175] (σ:=Nat) (λi _m=>_m) (λi w=>i<=cs.length/\Aa B w I (own Ab1 (.stringIter ⟨cs.toArray⟩ i)::As)) (λi=>cs.length-i) 0 ⟨Y4 _,hS⟩ ?_);rintro i w ⟨hi,hS⟩;refine gG 0 (.next (i:=i) hS (k:=0) O (.of O) O (λhn=>?_) (λhn=>?_))
  ·refine gG 1 (.AF (rfl) ?_);exact gG 1 ⟨O,hS.s⟩
  ·rw[Xf8 cs i hn (HM i _ (Rx hn))];have KG:=HM i _ (Rx hn);clear hS;intro w hS;try dsimp only[List.set]at hS
   refine gG 1 (.E1 (rfl) (gU 6 (λAhj Aho=>?_)));exact gG 0 (rd (i+1) ⟨om,hS⟩)
 refine gC 1 (Xk6 r _) ?_;rintro _ _ ⟨rfl,rfl⟩;refine gM 2 ?_ ?_<;>intro Aay Ahp
 ·exact gG 1 ⟨O,hS⟩
 refine gG 0 ?_;have hvv:Go.Utf8.valid r=true:=iI r (su Aay);obtain⟨he2,he4,heb⟩:=VR r hvv h0;refine gH 1 ?_;refine .val (.oO (.of O) (by rw[KZ];rfl) BV) O ?_;refine gG 8 (.lk [0,7,8,9] (σ:=Unit) (λ_ _m=>_m) (λ_ w=>Aa B w I As) (λ_=>0) () hS ?_);rintro _ w hS;refine gN 4 ?_ ?_<;>intro LM
 ·have hA:(at_ cs ((((Mr r).length:Nat):Int)-1)).toNat<128:=HM ((((Mr r).length:Nat):Int)-1).toNat _ (by rw[at_,Ya,Y2 om];rfl);refine gG 0 (gQ ?_);clear hS;intro w hS;refine gT 7 (λDa FY=>?_);refine gG 0 (.qt hS (.val (λw hS=>(.mo O)) O (.val (λw hS=>(.mo O)) O (.val (λw hS=>(.add (.of O) (.of O) ⟨om,om⟩)) O (.val (λw hS=>(.L9 (.of O) (.of O) om om BV)) O (.val (λw hS=>(.mo O)) O (.val (λw hS=>(.mo O)) O (.val (λw hS=>(.index (.of O) (.of O) om om BV)) O (.call Ik O (Be O (Be O X4)) O (λw hS=>Ux (X6g _ (at_ (Mr r) ((((Mr r).length:Nat):Int)-1)) w) hS) (.val (λw hS=>(.ao O)) O (.nil ?_)))))))))));clear hS;intro w hS;have hN:=Xo8 (l:=cs.drop ((((Mr r).length:Nat):Int)-1+1).toNat) (c:=at_ (Mr r) ((((Mr r).length:Nat):Int)-1)) heb (λj b h=>by rw[U6]at h;exact HM _ _ h);refine gT 2 (λug dO=>?_);exact gG 1 ⟨O,hS⟩
 exact gG 1 ⟨O,hS⟩
theorem Xjx(cs:Lu)(HM:iO cs)(hl:cs.length<=1000)(r:Nat)(h1:r<=1114111)(As:La)(hS:Aa B w I As):Calls prog 395 #[S cs,.int .i32 r] w (A4 λv w'=>v=Ab (if r<128 then Go.Lib.indexByte cs (UInt8.ofNat r)else -1)/\Aa B w' I As):=by
 rcases C5 r 128 with h|h
 ·refine(strings_IndexRune_ascii ⟨cs.toArray⟩ r w om om).mono λe w' he=>?_
  obtain⟨rfl,rfl⟩:=he;refine⟨_,O,?_,hS⟩;rw[Y7 h]
  simp
 ·rw[Y3 om];exact Xmn cs HM hl r om om As hS
theorem Xmm(s cs:Lu)(HM:iO cs)(hl:cs.length<=1000)(h2:2<=cs.length)(h8:s.length<=8)(A8:(cs==[])=false)(As:La)(hS:Aa B w I As):Ce B I As 299 [S s,S cs] w (Ab (Go.Lib.indexAny s cs)):=by
 refine gG 3 ?_;refine .AF (by show some (Value.bool (cs==[]))=_;rw[A8]) ?_;refine gU 3 (λJM G8=>?_);refine gC 2 (Xws _ _) ?_;rintro _ _ ⟨rfl,rfl⟩;refine gU 0 (λLH LM=>?_);refine gH 1 (.range (s:=s) hS (.of O) BV O ?_);clear hS;intro b45 w hS;refine gG 0 (.lk [1,45] (σ:=Nat) (λi _m=>_m) (λi w=>i<=s.length/\Go.Lib.NoAny s cs i/\Aa B w I (own b45 (.stringIter ⟨s.toArray⟩ i)::As)) (λi=>s.length-i) 0 ⟨Y4 _,Go.Lib.NoAny.zero _ _,hS⟩ ?_);rintro i w ⟨hi,AL,hS⟩;refine gG 0 (.next (i:=i) hS (k:=0) O (.of O) O (λhn=>?_) (λhn=>?_))
 ·refine gG 1 (.AF (rfl) ?_);exact gG 1 ⟨by rw[Go.Lib.indexAny_none (by rw[show s.length=i by omega];exact AL)],hS.s⟩
 ·clear hS;intro w hS;try dsimp only[List.set]at hS
  refine gG 1 (.E1 (rfl) (gG 0 ?_));have hdm:(Go.Utf8.decode ⟨s.toArray⟩ i).1<=1114111:=by
   rcases C5 (at_ s (i:Int)).toNat 128 with h|h
   ·rw[Xf8 s i hn h];dsimp only;omega
   ·exact(Xnf s i hn h).2.1
  obtain⟨nr,LR⟩:=bC HM hn AL;unfold rv at nr LR;refine gE 6 (Xjx cs HM hl (Go.Utf8.decode ⟨s.toArray⟩ i).1 hdm) ?_;clear hS;intro w hS;refine gN 1 ?_ ?_<;>intro Ahz
  ·refine gG 2 (⟨?_,hS.s⟩);rw[nr om]
   done
  refine gG 0 ?_;obtain⟨jL,My,hn3⟩:=LR om;exact E_ _ O ⟨My,jL,hS⟩
theorem X7g(s cs:Lu)(hs:s.length<=1000000)(HM:iO cs)(hl:cs.length<=1000)(h2:2<=cs.length)(As:La)(hS:Aa B w I As):Calls prog 299 #[S s,S cs] w (A4 λv w'=>v=Ab (Go.Lib.indexAny s cs)/\Aa B w' I As):=by
 rcases C5 8 s.length with h|h
 ·refine(strings_IndexAny_long (zero_of_info (n:=256) kr).1 ⟨s.toArray⟩ ⟨cs.toArray⟩ w h2 h (by show s.length<_;omega) (by show cs.length<_;omega) HM).mono λe w' he=>?_
  obtain⟨rfl,rfl⟩:=he;exact⟨_,O,O,(((hS.alloc _).alloc _).drop (k:=0) O).drop (k:=0) O⟩
 ·exact Xmm s cs HM hl h2 h (by cases cs with|nil=>simp at h2|cons a b=>rfl) As hS
theorem R_(s cs:Lu)(hs:s.length<=1000000)(HM:iO cs)(hl:cs.length<=1000)(h2:2<=cs.length)(As:La)(hS:Aa B w I As):Ce B I As 360 [S s,S cs] w (.tuple #[S (Bb cs s),S (Xd cs s)]):=by
 refine gP 4 [] (X7g s cs hs HM hl h2 As) ?_;clear hS;rintro _ w ⟨rfl,hS⟩;have IQ:=Go.Lib.indexAny_ge cs s;refine gN 3 ?_ ?_<;>intro Eo
 ·refine gG 0 ?_;obtain⟨k,hk⟩:∃k:Nat,Go.Lib.indexAny s cs=k:=⟨(Go.Lib.indexAny s cs).toNat,om⟩
  obtain⟨Qh,HK,hc3⟩:=Xkj hk;rw[hk];refine gQ ?_;clear hS;intro w hS;exact gG 8 ⟨by rw[Qh,HK];(try rw[Y8]),hS⟩
 refine gG 3 ?_;obtain⟨Qh,HK⟩:=Xdq (s:=s) (Ay:=cs) om;exact⟨by rw[Qh,HK],hS⟩
theorem XH(s:Lu)(hl:s.length<=1000000)(hd:BJ I)(As:La)(hS:Aa B w I As):Calls prog 429 #[S s] w (A4 λv w'=>∃n1 e1,v=.tuple #[S n1,Ab e1]/\(match H4 s with|none=>n1=[]/\e1=11|some t=>n1=t/\e1=0)/\Aa B w' I As) :=
 (Xs7 s hl hd As hS).mono λe w' he=>by
  obtain⟨v,rfl,rfl,h⟩:=he;cases H4 s with
  | none=>exact⟨_,O,_,_,O,⟨O,O⟩,h⟩
  | some t=>exact⟨_,O,_,_,O,⟨O,O⟩,h⟩
theorem Xy5(s:Lu)(hl:s.length<=1000000)(hd:BJ I)(As:La)(hS:Aa B w I As):Ce B I As 363 [S s] w (match Lb s with|none=>.tuple #[S [],Ab 15]|some t=>.tuple #[S t,Ab 0]):=by
 refine gC 3 (Xza s hl _) ?_;rintro _ _ ⟨rfl,rfl⟩;refine gN 1 ?_ ?_<;>intro E5
 ·exact gG 2 ⟨by rw[Lb,Y3 (nB E5)],hS⟩
 refine gP 1 [] (XH s hl hd As) ?_;clear hS;rintro _ w ⟨n1,e1,rfl,A8,hS⟩;refine gN 7 ?_ ?_<;>intro G8
 ·refine gG 2 (⟨?_,hS⟩);rw[Lb,Y7 E5];cases hn:H4 s with
  | none=>rfl
  | some t=>rw[hn]at A8;exact Yy A8.2 G8
 refine gG 3 (⟨?_,hS⟩);rw[Lb,Y7 E5];cases hn:H4 s with
 | none=>rw[hn]at A8;have:=A8.2;omega
 | some t=>rw[hn]at A8;obtain⟨rfl,rfl⟩:=A8;rfl
end Go.Proofs.W9
namespace FI
open Go Gk
theorem Xko{α:Type}(AD:α->Lv)(s:Nat)(hs:∀x,(AD x).length=s):∀(l:List α) (r:Lv) (i j:Nat) (x:α),l[i]?=some x->j<s->(l.flatMap AD++r)[i*s+j]?=(AD x)[j]?
 | [],_,_,_,_,h,_=>by simp at h
 | y::l,r,0,j,x,h,hj=>by
  simp at h
  subst h;simp only[lA,jz,Yj,Yc]
  rw[Y9 (by rw[hs];exact hj)]
 | y::l,r,i+1,j,x,h,hj=>by
  simp only[lA,Yc]
  rw[Yq (by rw[hs,bh];omega),hs];have e:(i+1)*s+j-s=i*s+j:=by rw[bh];omega
  rw[e];exact Xko AD s hs l r i j x (su h) hj
theorem Xu4{α:Type}(AD:α->Lv)(s:Nat)(hs:∀x,(AD x).length=s)(f:α->α)(j:Nat)(v:Va)(hf:∀x,AD (f x)=(AD x).set j v)(hj:j<s):∀(l:List α) (r:Lv) (i:Nat),i<l.length->(l.flatMap AD++r).set (i*s+j) v=(l.modify i f).flatMap AD++r
 | [],_,_,h=>by simp at h
 | y::l,r,0,_=>by
  simp only[lA,jz,Yj,Yc]
  rw[Y55 _ _ (by rw[hs];exact hj)];simp[hf]
 | y::l,r,i+1,h=>by
  simp only[lA,Yc]
  rw[yu _ _ (by rw[hs,bh];omega),hs];have e:(i+1)*s+j-s=i*s+j:=by rw[bh];omega
  rw[e,Xu4 AD s hs f j v hf hj l r i (su h)]
  simp
theorem zV{α:Type}(AD:α->Lv)(s:Nat)(hs:∀x,(AD x).length=s):∀(l:List α),(l.flatMap AD).length=l.length*s
 | []=>by simp
 | y::l=>by simp only[lA,Y0,hs,zV AD s hs l,List.length_cons,bh];omega
abbrev Hk:=Int×Int×Va
abbrev Pl:=Int×Int×List Int
abbrev AD(x:Hk):Lv:=[.int .u8 x.1,.int .u8 x.2.1,x.2.2]
theorem se(x:Hk):(AD x).length=3:=rfl
def UN(P:List Hk)(i:Nat)(v:Va):List Hk:=P.modify i λx=>(x.1,x.2.1,v)
def Ga(Q:List Pl)(i:Nat)(xs:List Int):List Pl:=Q.modify i λx=>(x.1,x.2.1,xs)
theorem Xay(P:List Hk)(i:Nat)(v:Va):(UN P i v).length=P.length:=by simp[UN]
theorem wB{P:List Hk}{x:Hk}(h:P[i]?=some x)(r:Lv):(P.flatMap AD++r)[0+i*3+2]?=some x.2.2:=by
 rw[Yj,Xko AD 3 se P r i 2 x h om];rfl
theorem iw{P:List Hk}(h:i<P.length)(r:Lv)(v:Va):(P.flatMap AD++r).set (0+i*3+2) v=(UN P i v).flatMap AD++r:=by
 rw[Yj];exact Xu4 AD 3 se (λx=>(x.1,x.2.1,v)) 2 v (λ_=>rfl) om P r i h
def B8(I:Im)(v:Va)(xs:List Int):Prop:=(xs=[]->v=.slice none 0 0)/\∃a c,v=.slice a xs.length c/\xs.length<=c/\RS I a 1 xs.length (xs.map Ab)
theorem B8.mono{xs:List Int}(h:B8 I v xs)(hl:Le I J):B8 J v xs:=let⟨h0,a,c,e,hc,hr⟩:=h;⟨h0,a,c,e,hc,hr.mono hl⟩
theorem B8.nil(I:Im):B8 I (.slice none 0 0) []:=⟨λ_=>rfl,none,0,O,Yd _,RS.nil I 1⟩
def DH(I:Im)(P:List Hk)(Q:List Pl):Prop:=P.length=Q.length/\∀(i:Nat) (p:Hk) (q:Pl),P[i]?=some p->Q[i]?=some q->p.1=q.1/\p.2.1=q.2.1/\B8 I p.2.2 q.2.2
theorem DH.mono{P:List Hk}{Q:List Pl}(h:DH I P Q)(hl:Le I J):DH J P Q:=⟨h.1,λi p q hp hq=>let⟨a,b,c⟩:=h.2 i p q hp hq;⟨a,b,c.mono hl⟩⟩
theorem DH.nil(I:Im):DH I [] []:=⟨O,λ_ _ _ h=>by simp at h⟩
theorem DH.snoc{P:List Hk}{Q:List Pl}(h:DH I P Q)(k c:Int)(v:Va)(xs:List Int)(hv:B8 I v xs):DH I (P++[(k,c,v)]) (Q++[(k,c,xs)]):=by
 refine⟨by simp[h.1],λi p q hp hq=>?_⟩;rcases Nat.lt_trichotomy i P.length with hi|hi|hi
 ·rw[Y9 hi]at hp;rw[Y9 (by rw[<-h.1];exact hi)]at hq;exact h.2 i p q hp hq
 ·subst hi;rw[Yq (Yd _)]at hp;rw[h.1,Yq (Yd _)]at hq;simp at hp hq
  subst hp;subst hq;exact⟨O,O,hv⟩
 ·rw[jr (by simp;omega)]at hp;cases hp
def GV(I:Im)(o:Nat)(P:List Hk)(Q:List Pl):Prop:=P.length=Q.length/\∀(i:Nat) (p:Hk) (q:Pl),P[i]?=some p->Q[i]?=some q->p.1=q.1/\p.2.1=q.2.1/\(i≠o->B8 I p.2.2 q.2.2)
theorem GV.mono{P:List Hk}{Q:List Pl}(h:GV I o P Q)(hl:Le I J):GV J o P Q:=⟨h.1,λi p q hp hq=>let⟨a,b,c⟩:=h.2 i p q hp hq;⟨a,b,λhi=>(c hi).mono hl⟩⟩
theorem DH.x{P:List Hk}{Q:List Pl}(h:DH I P Q)(o:Nat):GV I o P Q:=⟨h.1,λi p q hp hq=>let⟨a,b,c⟩:=h.2 i p q hp hq;⟨a,b,λ_=>c⟩⟩
theorem GV.Ag9{P:List Hk}{Q:List Pl}(h:GV I o P Q)(v:Va)(xs:List Int):GV I o (UN P o v) (Ga Q o xs):=by
 refine⟨by simp[UN,Ga,h.1],λj p q hp hq=>?_⟩;unfold UN at hp;unfold Ga at hq;rw[Zt]at hp hq
 by_cases e:o=j
 ·subst e;simp only[if_true]at hp hq
  obtain⟨p0,WA,rfl⟩:=lr.1 hp;obtain⟨q0,hq0,rfl⟩:=lr.1 hq;obtain⟨a,b,_⟩:=h.2 o p0 q0 WA hq0;exact⟨a,b,λhi=>Yy O hi⟩
 ·simp only[e,if_false]at hp hq
  exact h.2 j p q (su hp) (su hq)
theorem GV.Ag8{P:List Hk}{Q:List Pl}(h:GV I o P Q)(b:Nat)(v:Va)(xs:List Int)(hv:B8 I v xs):GV I o (UN P b v) (Ga Q b xs):=by
 refine⟨by simp[UN,Ga,h.1],λj p q hp hq=>?_⟩;unfold UN at hp;unfold Ga at hq;rw[Zt]at hp hq
 by_cases e:b=j
 ·subst e;simp only[if_true]at hp hq
  obtain⟨p0,WA,rfl⟩:=lr.1 hp;obtain⟨q0,hq0,rfl⟩:=lr.1 hq;obtain⟨a,b,_⟩:=h.2 b p0 q0 WA hq0;exact⟨a,b,λ_=>hv⟩
 ·simp only[e,if_false]at hp hq
  exact h.2 j p q (su hp) (su hq)
theorem GV.back{P:List Hk}{Q:List Pl}(h:GV I o P Q)(hv:∀p q,P[o]?=some p->Q[o]?=some q->B8 I p.2.2 q.2.2):DH I P Q :=
 ⟨h.1,λi p q hp hq=>by
  obtain⟨a,b,c⟩:=h.2 i p q hp hq;refine⟨a,b,?_⟩
  by_cases e:i=o
  ·subst e;exact hv p q hp hq
  ·exact c e⟩
def Md(n:Nat)(o:Nat):List Pl->List Int->List Nat->List Pl
 | Q,_,[]=>Q
 | Q,done,b::r=>Md n o (Ga (Ga Q o (done++[(b:Int)+1])) b [(n:Int)]) (done++[(b:Int)+1]) r
theorem zI(n o:Nat):∀(r:List Nat) (Q:List Pl) (done:List Int),(Md n o Q done r).length=Q.length
 | [],_,_=>rfl
 | b::r,Q,done=>by rw[Md,zI n o r];simp[Ga]
theorem Xxl{E:Nat}{xs:List Int}(hS:Aa B w I As)(hk:As[k]?=some (Ar E 1 v xs.length (xs.map Ab)))(hn:xs=[]->v=.slice none 0 0):∃J,Le I J/\B8 J v xs/\Aa B w J (As.eraseIdx k):=by
 rcases Nx xs.length with h0|h0
 ·have hx:xs=[]:=Yf h0;subst hx;obtain⟨a,c,rfl,hc,_⟩:=hS.Av hk;exact⟨I,Le.refl I,⟨hn,a,c,O,hc,by simp,λh=>Yy h sz⟩,hS.drop hk⟩
 ·obtain⟨b,cap,r,rfl,h1,h2,_,_,Jq⟩:=hS.AP hk h0;have E6:k<As.length:=(Y1.1 hk).1;obtain⟨J,hJ,hb,C9⟩:=Jq.freeze (k:=k) (b:=b) (o:=Xi (xs.map Ab++r) E) (by simp[E6,Ae]);refine⟨J,hJ,⟨hn,_,_,O,h1,by simp,λ_=>⟨_,O,O,_,_,_,hb,?_⟩⟩,by simpa[Y3o]using C9⟩;intro j u hj;have ER:j<(xs.map Ab).length:=(Y1.1 hj).1;simp only[Yj,Y49]
  rw[Y9 ER];exact hj
abbrev Jw:=Nat×List Nat
def A1:List UInt8->Int->List Pl->List Jw->List Int->Except (Int×Int) (List Pl)
 | [],_,Q,_,Ay=>if 0<Ay.length then .error (23,Ay.getD (Ay.length-1) 0)else .ok (Q++[(7,0,[])])
 | c::r,i,Q,AM,Ay =>
  if c.toNat=63 then A1 r (i+1) (Q++[(1,0,[])]) AM Ay
  else if c.toNat=42 then(match r with
   | d::r'=>if d.toNat=42 then A1 r' (i+2) (Q++[(2,0,[])]) AM Ay else A1 (d::r') (i+1) (Q++[(3,0,[])]) AM Ay
   | []=>A1 [] (i+1) (Q++[(3,0,[])]) AM Ay)
  else if c.toNat=40 then(if AM.length=4 then .error (24,i)else A1 r (i+1) (Q++[(4,0,[])]) ((Q.length,[])::AM) (Ay++[i]))
  else if c.toNat=124 then(match AM with
   | []=>.error (10,i)
   | (o,bs)::rest=>A1 r (i+1) (Q++[(5,0,[])]) ((o,bs++[Q.length])::rest) Ay)
  else if c.toNat=41 then(match AM with
   | []=>.error (10,i)
   | (o,bs)::rest=>A1 r (i+1) (Md Q.length o Q [] bs++[(6,0,[])]) rest (Ay.take rest.length))
  else if c.toNat=92 then(match r with|[]=>.error (10,i)|d::r'=>A1 r' (i+2) (Q++[(0,(d.toNat:Int),[])]) AM Ay)
  else A1 r (i+1) (Q++[(0,(c.toNat:Int),[])]) AM Ay
theorem zO(i:Int)(Q:List Pl)(AM:List Jw)(Ay:List Int):A1 [] i Q AM Ay=if 0<Ay.length then .error (23,Ay.getD (Ay.length-1) 0)else .ok (Q++[(7,0,[])]):=by rw[A1.eq_def]
theorem Xn(c:UInt8)(r:List UInt8)(i:Int)(Q:List Pl)(AM:List Jw)(Ay:List Int):A1 (c::r) i Q AM Ay =
  if c.toNat=63 then A1 r (i+1) (Q++[(1,0,[])]) AM Ay
  else if c.toNat=42 then(match r with
   | d::r'=>if d.toNat=42 then A1 r' (i+2) (Q++[(2,0,[])]) AM Ay else A1 (d::r') (i+1) (Q++[(3,0,[])]) AM Ay
   | []=>A1 [] (i+1) (Q++[(3,0,[])]) AM Ay)
  else if c.toNat=40 then(if AM.length=4 then .error (24,i)else A1 r (i+1) (Q++[(4,0,[])]) ((Q.length,[])::AM) (Ay++[i]))
  else if c.toNat=124 then(match AM with
   | []=>.error (10,i)
   | (o,bs)::rest=>A1 r (i+1) (Q++[(5,0,[])]) ((o,bs++[Q.length])::rest) Ay)
  else if c.toNat=41 then(match AM with
   | []=>.error (10,i)
   | (o,bs)::rest=>A1 r (i+1) (Md Q.length o Q [] bs++[(6,0,[])]) rest (Ay.take rest.length))
  else if c.toNat=92 then(match r with|[]=>.error (10,i)|d::r'=>A1 r' (i+2) (Q++[(0,(d.toNat:Int),[])]) AM Ay)
  else A1 r (i+1) (Q++[(0,(c.toNat:Int),[])]) AM Ay:=by rw[A1.eq_def]
def cmp(l:Lu):Except (Int×Int) (List Pl):=if 200<l.length then .error (2,0)else A1 l 0 [] [] []
def Frames(Q:List Pl):Nat->List Jw->Prop
 | _,[]=>True
 | lim,(o,bs)::r=>o<lim/\Q[o]?=some (4,0,[])/\bs.length<=Q.length/\(∀b∈bs,o<b/\b<Q.length)/\Frames Q o r
theorem Frames.grow{Q Q':List Pl}:∀{AM:List Jw} {lim vG:Nat},Frames Q lim AM->lim<=vG->Q.length<=Q'.length->(∀i,i<lim->Q[i]?=some (4,0,[])->Q'[i]?=some (4,0,[]))->Frames Q' vG AM
 | [],_,_,_,_,_,_=>trivial
 | (o,bs)::r,lim,vG,⟨h1,h2,h3,h4,h5⟩,hl,hq,hk =>
  ⟨om,hk o h1 h2,om,λb hb=>⟨(h4 b hb).1,by have:=(h4 b hb).2;omega⟩,h5.grow (Yd _) hq λi hi=>hk i om⟩
theorem Frames.app{Q:List Pl}{AM:List Jw}(h:Frames Q Q.length AM)(x:Pl):Frames (Q++[x]) (Q++[x]).length AM :=
 h.grow sz sz λi hi hq=>by rw[Y9 hi];exact hq
theorem Xf4(n o:Nat):∀(bs:List Nat) (Q:List Pl) (done:List Int) (i:Nat),i≠o->(∀b∈bs,b≠i)->(Md n o Q done bs)[i]?=Q[i]?
 | [],_,_,_,_,_=>rfl
 | b::r,Q,done,i,h,hb=>by
  rw[Md,Xf4 n o r _ _ i h λx hx=>hb x (lx _ hx)];have hbi:b≠i:=hb b sz;simp[Ga,Zt,hbi,Ne.symm h]
theorem Frames.close{Q:List Pl}{bs:List Nat}{rest:List Jw}(h:Frames Q Q.length ((o,bs)::rest))(x:Pl):Frames (Md Q.length o Q [] bs++[x]) (Md Q.length o Q [] bs++[x]).length rest:=by
 obtain⟨h1,h2,h3,h4,h5⟩:=h;refine h5.grow (by simp[zI];omega) (by simp[zI]) λi hi hq=>?_
 rw[Y9 (by rw[zI];omega),Xf4 _ _ _ _ _ _ om λb hb=>by have:=(h4 b hb).1;omega];exact hq
def Hb(f:Jw):List Int:=(f.1::f.2).map λ(x:Nat)=>(x:Int)
theorem Xvt{st:List (Va×List Int)}{f:Jw}{rest:List Jw}(h:st.map (·.2)=(f::rest).reverse.map Hb):∃KT mv,st=KT++[(mv,Hb f)]/\KT.map (·.2)=rest.reverse.map Hb:=by
 have A8:st≠[]:=λe=>by subst e;simp at h
 have hs:=Y56 A8;rw[<-hs,List.reverse_cons,Ym,Ym]at h;simp only[Yt,Hm]at h
 have h2:=List.append_inj' h O;refine⟨st.dropLast,(st.getLast A8).1,?_,h2.1⟩;have h3:(st.getLast A8).2=Hb f:=su h2.2
 rw[<-h3];exact hs.symm
theorem Xwr(hS:Aa B w I As):Aa B w I (Ao []::As):=by
 obtain⟨h,hs,hg⟩:=hS;exact⟨h,⟨[],h,O,O,hs⟩,hg⟩
def Gm(I:Im)(p:Addr)(Q:List Pl)(n:Nat):Prop:=∃a c P,At I p [.slice a P.length c,Ab n]/\P.length<=c/\RS I a 3 P.length (P.flatMap AD)/\DH I P Q
theorem Gm.mono{Q:List Pl}(h:Gm I p Q n)(hl:Le I J):Gm J p Q n:=let⟨a,c,P,h1,h2,h3,h4⟩:=h;⟨a,c,P,h1.mono hl,h2,h3.mono hl,h4.mono hl⟩
theorem DH.vO{P:List Hk}{Q:List Pl}(h:DH I P Q){k c:Int}(hq:Q[o]?=some (k,c,[])):P[o]?=some (k,c,.slice none 0 0):=by
 have BO:o<Q.length:=(Y1.1 hq).1;obtain⟨⟨p1,p2,p3⟩,hp⟩:∃p,P[o]?=some p:=⟨_,Y2 (by rw[h.1];exact BO)⟩
 obtain⟨a,b,h0,_⟩:=h.2 o _ _ hp hq;have h1:=h0 O;simp only at a b h1
 subst a;subst b;subst h1;exact hp
def iter{β:Type}(f:β->Nat->β)(b:β):Nat->β
 | 0=>b
 | k+1=>f (iter f b k) k
def Xg(s p:Lu):Bool:=decide ((p.length:Int)<=(s.length:Int))&&(s.take (p.length:Int).toNat==p)
def CP:List UInt8->Int->List Int->Int×Int
 | [],_,o=>if 0<o.length then(23,o.getD (o.length-1) 0)else(0,0)
 | c::r,i,o =>
  if c.toNat=40 then(if o.length=4 then(24,i)else CP r (i+1) (o++[i]))
  else if c.toNat=41 then(if o.length=0 then(10,i)else CP r (i+1) (o.take (o.length-1)))
  else if c.toNat=124 then(if o.length=0 then(10,i)else CP r (i+1) o)
  else if c.toNat=92 then(match r with|[]=>(10,i)|_::r'=>CP r' (i+2) o)
  else CP r (i+1) o
theorem Vy(i:Int)(o:List Int):CP [] i o=if 0<o.length then(23,o.getD (o.length-1) 0)else(0,0):=by rw[CP.eq_def]
theorem Xia(c:UInt8)(r:List UInt8)(i:Int)(o:List Int):CP (c::r) i o=if c.toNat=40 then(if o.length=4 then(24,i)else CP r (i+1) (o++[i]))
  else if c.toNat=41 then(if o.length=0 then(10,i)else CP r (i+1) (o.take (o.length-1)))
  else if c.toNat=124 then(if o.length=0 then(10,i)else CP r (i+1) o)
  else if c.toNat=92 then(match r with|[]=>(10,i)|_::r'=>CP r' (i+2) o)
  else CP r (i+1) o:=by rw[CP.eq_def]
def jB(l:Lu):Int×Int:=if 200<l.length then(2,0)else CP l 0 []
end FI
namespace Go.Proofs.W9
open Gk FI
open Tryz
def Kk(E:Nat)(st:List (Va×List Int)):X1:=Ao (st.map λx=>Ar E 1 x.1 x.2.length (x.2.map Ab))
theorem XA{bs pre r:List Nat}(h:bs=pre++b::r)(rm:Lv):(((o::bs).map λ(x:Nat)=>(x:Int)).map Ab++rm)[1+(pre.length:Int).toNat*1]?=some (Ab b):=by
 subst h
 (try rw[Y8]);rw[Gv,Y9 (by simp;omega)]
 simp[Zz 1]
theorem YV(bc n:Nat)(lv sv av:Va)(xs:Lv)(kd b:Int)(F:La)(hS:Aa B w I (Ae bc [lv,sv,av] 431::Ar 497 3 lv n xs::F))(hn:n<=1000):Cz 308 [ptr bc 0,.int .u8 kd,.int .u8 b] w λv w'=>v=.tuple #[]/\∃rD,Aa B w' I (Ae bc [rD,sv,av] 431::Ar 497 3 rD (n+1) (xs++[.int .u8 kd,.int .u8 b,.slice none 0 0])::F):=by
 refine gG 13 ?_;clear hS;intro Vm a15 c15 AcA w hS;exact⟨O,_,hS⟩
theorem Xqx(bc n:Nat)(lv sv av:Va)(xs:Lv)(st:List (Va×List Int))(Ay:List Int)(at_:Int)(F:La)(hS:Aa B w I (Ae bc [lv,sv,av] 431::Ar 497 3 lv n xs::Ar 248 1 sv st.length (st.map (·.1))::Ar 3 1 av Ay.length (Ay.map Ab)::Kk 3 st::F))(hn:n<=1000)(hd:st.length<=1000)(mO:Ay.length<=1000):Cz 309 [ptr bc 0,Ab at_] w λv w'=>v=.tuple #[]/\∃rD zu av' mv,Aa B w' I (Ae bc [rD,zu,av'] 431::Ar 497 3 rD (n+1) (xs++[.int .u8 4,.int .u8 0,.slice none 0 0])::Ar 248 1 zu (st.length+1) (st.map (·.1)++[mv])::Ar 3 1 av' (Ay.length+1) (Ay.map Ab++[Ab at_])::Kk 3 (st++[(mv,[(n:Int)])])::F):=by
 refine gG 0 ?_;obtain⟨la,lc,rfl,hlc,_⟩:=hS.vS 1;obtain⟨sa,sc,rfl,N0,_⟩:=hS.vS 2;obtain⟨aa,ac,rfl,hac,_⟩:=hS.vS 3;refine gD [0] [23,26] [0,1,2,3,4,5,6,7,8,9,10,14,15,16,17,18] ?_;clear hS;intro w hS;refine gH 14 (gH 2 (gB 11 19 [] [11,12,13,20,21,22,23,24,25,26] ?_ ?_))
 ·refine gH 1 ?_;clear hS;intro Lo w hS;refine gH 0 (gB 12 19 [] [12,13,20,21,22,23,24,25,26] ?_ ?_)
  ·refine gH 1 ?_;clear hS;intro jA w hS;refine gH 0 (gB 13 19 [19,20,21,22,23,24,25,26] [13,20,21,22,23,24,25,26] ?_ ?_)
   ·refine gH 1 ?_;clear hS;intro a17 c17 Ql w hS;refine gH 1 ?_;clear hS;intro b23 w hS;refine gH 1 ?_;clear hS;intro a24 c24 IJ w hS;refine gH 3 ?_;clear hS;intro w hS;refine gH 3 ?_;clear hS;intro w hS;refine gH 1 ?_;replace hS:=hS.Bw (k:=0) (E:=3) (size:=1) (n:=1) O O (by unfold maxLen;omega);try dsimp only[List.set]at hS
    replace hS:=hS.push (k:=4) O;try dsimp only[List.set]at hS
    refine gC 0 (YV _ _ _ _ _ _ _ _ _ hS om) ?_;clear hS;rintro _ w ⟨rfl,lv,hS⟩;refine gG 0 ?_;replace hS:=hS.say (k:=4) (A':=Kk 3 (st++[(.slice (some (ad Lo 0)) 1 1,[(n:Int)])])) O (λh hh=>by rw[Kk,Ym];exact hh);try dsimp only[List.set]at hS
    exact⟨O,_,_,_,_,hS⟩
   ·refine gH 1 ?_;clear hS;intro b23 w hS;refine gH 1 ?_;clear hS;intro a17 c17 Ql w hS;refine gH 1 ?_;clear hS;intro a24 c24 IJ w hS;refine gH 3 ?_;clear hS;intro w hS;refine gH 3 ?_;clear hS;intro w hS;refine gH 1 ?_;replace hS:=hS.Bw (k:=0) (E:=3) (size:=1) (n:=1) O O (by unfold maxLen;omega);try dsimp only[List.set]at hS
    replace hS:=hS.push (k:=4) O;try dsimp only[List.set]at hS
    refine gC 0 (YV _ _ _ _ _ _ _ _ _ hS om) ?_;clear hS;rintro _ w ⟨rfl,lv,hS⟩;refine gG 0 ?_;replace hS:=hS.say (k:=4) (A':=Kk 3 (st++[(.slice (some (ad Lo 0)) 1 1,[(n:Int)])])) O (λh hh=>by rw[Kk,Ym];exact hh);try dsimp only[List.set]at hS
    exact⟨O,_,_,_,_,hS⟩
  ·refine gH 1 ?_;clear hS;intro b23 w hS;refine gH 1 ?_;clear hS;intro jA w hS;refine gH 1 ?_;clear hS;intro a17 c17 Ql w hS;refine gH 1 ?_;clear hS;intro a24 c24 IJ w hS;refine gH 3 ?_;clear hS;intro w hS;refine gH 3 ?_;clear hS;intro w hS;refine gH 1 ?_;replace hS:=hS.Bw (k:=0) (E:=3) (size:=1) (n:=1) O O (by unfold maxLen;omega);try dsimp only[List.set]at hS
   replace hS:=hS.push (k:=4) O;try dsimp only[List.set]at hS
   refine gC 0 (YV _ _ _ _ _ _ _ _ _ hS om) ?_;clear hS;rintro _ w ⟨rfl,lv,hS⟩;refine gG 0 ?_;replace hS:=hS.say (k:=4) (A':=Kk 3 (st++[(.slice (some (ad Lo 0)) 1 1,[(n:Int)])])) O (λh hh=>by rw[Kk,Ym];exact hh);try dsimp only[List.set]at hS
   exact⟨O,_,_,_,_,hS⟩
 ·refine gH 1 ?_;clear hS;intro b23 w hS;refine gH 1 ?_;clear hS;intro Lo w hS;refine gH 1 ?_;clear hS;intro jA w hS;refine gH 1 ?_;clear hS;intro a17 c17 Ql w hS;refine gH 1 ?_;clear hS;intro a24 c24 IJ w hS;refine gH 3 ?_;clear hS;intro w hS;refine gH 3 ?_;clear hS;intro w hS;refine gH 1 ?_;replace hS:=hS.Bw (k:=0) (E:=3) (size:=1) (n:=1) O O (by unfold maxLen;omega);try dsimp only[List.set]at hS
  replace hS:=hS.push (k:=4) O;try dsimp only[List.set]at hS
  refine gC 0 (YV _ _ _ _ _ _ _ _ _ hS om) ?_;clear hS;rintro _ w ⟨rfl,lv,hS⟩;refine gG 0 ?_;replace hS:=hS.say (k:=4) (A':=Kk 3 (st++[(.slice (some (ad Lo 0)) 1 1,[(n:Int)])])) O (λh hh=>by rw[Kk,Ym];exact hh);try dsimp only[List.set]at hS
  exact⟨O,_,_,_,_,hS⟩
theorem VA(bc:Nat)(lv sv av mv:Va)(P0:List Hk)(Q0:List Pl)(st:List (Va×List Int))(o:Nat)(bs:List Nat)(Ay:List Int)(F:La)
  (hS:Aa B w I (Ae bc [lv,sv,av] 431::Ar 497 3 lv P0.length (P0.flatMap AD)::Ar 248 1 sv (st.length+1) (st.map (·.1)++[mv])::Ar 3 1 av Ay.length (Ay.map Ab)::Kk 3 (st++[(mv,(o::bs).map λ(x:Nat)=>(x:Int))])::F))
  (hR:DH I P0 Q0) (u6:∀b∈bs,b≠o/\b<P0.length) (ho:o<P0.length) (ko co:Int) (hPo:P0[o]?=some (ko,co,.slice none 0 0)) (hQo:Q0[o]?=some (ko,co,[])) (hn:P0.length<=1000) (hd:st.length<=1000) (mO:Ay.length=st.length+1) (NR:bs.length<=1000) :Calls prog 310 #[ptr bc 0] w (A4 λv w'=>v=.tuple #[]/\∃rD zu av' P' J,Le I J/\DH J P' (Md P0.length o Q0 [] bs++[(6,0,[])])/\
   Aa B w' J (Ae bc [rD,zu,av'] 431::Ar 497 3 rD P'.length (P'.flatMap AD)::Ar 248 1 zu st.length (st.map (·.1))::Ar 3 1 av' st.length ((Ay.take st.length).map Ab)::Kk 3 st::F)):=by
 refine gG 0 ?_;have IL:=u6;obtain⟨gl,cl,rl,rfl,AhL,AcV,AhM,AcW,hS⟩:=hS.AP (k:=1) O om;try dsimp only[List.set]at hS
 obtain⟨gs,sc,rs,rfl,vk,vn,Abc,vo,hS⟩:=hS.AP (k:=2) O om;try dsimp only[List.set]at hS
 obtain⟨aa,ac,rfl,hac,_⟩:=hS.vS 3;refine gH 6 ?_;rw[show((st.length+1:Nat):Int)-1=(st.length:Int)by omega];refine gH 7 (.val (.lo O hS (k:=2) O QU (v:=mv) sz) O (gG 1 (gD [0] [16,19] [0,1,2,3,4,5,6,7,8,9,10,11,12,13,14,15,16,17,18,19] ?_)));clear hS;intro w hS;refine gH 14 (gH 3 ?_);clear hS;intro w hS;refine gH 3 ?_;clear hS;intro w hS;refine gG 0 ?_;replace hS:=hS.Bm (k:=2) (n:=st.length+1) (cap:=sc) O vk vn Abc vo;try dsimp only[List.set]at hS
 replace hS:=hS.TV (k:=2) (m:=(st.length:Int).toNat) O sz;try dsimp only[List.set]at hS
 obtain⟨a2,c2,e2,hS⟩:=hS.OD (k:=3) (f:=Ab) (m:=(st.length:Int).toNat) O (by simp;omega);try dsimp only[List.set]at hS
 have e3:(st.map (·.1)++[mv]).take ((st.length:Int).toNat*1)=st.map (·.1):=by rw[Gv];exact List.take_left' sz
 rw[e3]at hS;rw[e2]at hS;have e4:Kk 3 (st++[(mv,(o::bs).map λ(x:Nat)=>(x:Int))])=Ao ((st.map λx=>Ar 3 1 x.1 x.2.length (x.2.map Ab))++[Ar 3 1 mv ((o::bs).map λ(x:Nat)=>(x:Int)).length (((o::bs).map λ(x:Nat)=>(x:Int)).map Ab)]):=by rw[Kk,Ym];rfl
 rw[e4]at hS;replace hS:=hS.pop (k:=4) O;try dsimp only[List.set]at hS
 obtain⟨gm,cm,rm,hmv,AhN,AaQ,AhO,AhP,hT⟩:=hS.AP (k:=0) O sz;have hml:((o::bs).map λ(x:Nat)=>(x:Int)).length=bs.length+1:=by simp
 rw[hml]at hmv;subst hmv;have hS:=hT;clear hT;try dsimp only[List.set]at hS
 generalize sliced (some (ad gs 0)) 0 (st.length:Int).toNat sc 1=D6 at hS;generalize Value.slice a2 (Ay.take (st.length:Int).toNat).length c2=ti at hS;refine gH 2 ?_;obtain⟨ao,hao,e38⟩:∃ao,(0<bs.length->ao=some (ad gm 1))/\sliced (some (ad gm 0)) (1:Int).toNat (bs.length+1) cm 1=.slice ao bs.length (cm-1):=⟨if cm=1 then some (ad gm 0)else some (ad gm 1),λh=>Y3 om,by simp[sliced,EE]⟩
 rw[e38];refine gG 2 (.lk [0,3,38,39] (σ:=List Nat×List Nat×List Hk×List Pl×Va×Im) (λ(pre,rem,P,Q,tv,J) _m=>(40,Ab pre.length)::_m) (λ(pre,rem,P,Q,tv,J) w=>bs=pre++rem/\Le I J/\GV J o P Q/\P.length=P0.length/\(∃k c,P[o]?=some (k,c,tv))/\(∃k c,Q[o]?=some (k,c,pre.map λ(x:Nat)=>(x:Int)+1))/\(pre=[]->tv=.slice none 0 0)/\Md P0.length o Q (pre.map λ(x:Nat)=>(x:Int)+1) rem=Md P0.length o Q0 [] bs/\Aa B w J (Ar 3 1 tv pre.length ((pre.map λ(x:Nat)=>(x:Int)+1).map Ab)::Ae gm (((o::bs).map λ(x:Nat)=>(x:Int)).map Ab++rm) 3::Ae bc [.slice (some (ad gl 0)) P0.length cl,D6,ti] 431::Ae gl (P.flatMap AD++rl) 497::Ar 248 1 D6 (st.length:Int).toNat (st.map (·.1))::Ar 3 1 ti (Ay.take (st.length:Int).toNat).length ((Ay.take (st.length:Int).toNat).map Ab)::Kk 3 st::F)) (λ(pre,rem,P,Q,tv,J)=>rem.length) ([],bs,P0,Q0,.slice none 0 0,I) ⟨O,Le.refl I,hR.x o,O,⟨_,_,hPo⟩,⟨_,_,hQo⟩,λ_=>rfl,O,hS.An _ _⟩ ?_);rintro⟨pre,rem,P,Q,tv,J⟩ w ⟨hbs,hJ,hX,Wi,⟨ko,co,hPo⟩,⟨kq,cq,hQo⟩,N4,hgo,hS⟩;have hlen:bs.length=pre.length+rem.length:=by rw[hbs,Y0]
 refine gN 1 ?_ ?_<;>intro Qi
 ·refine gG 0 ?_;obtain⟨b,r,rfl⟩:∃b r,rem=b::r:=by
   cases rem with
   | nil=>simp at hlen;omega
   | cons b r=>exact⟨b,r,O⟩
  have Aci:=hao om;subst Aci;have hbo:=(u6 b (by rw[hbs];simp)).1;have Ahx:=(u6 b (by rw[hbs];simp)).2;have Aa_:pre.length<=1000:=om
  refine gH 1 (.val (.lo O hS (k:=1) O Cv (v:=Ab b) (XA hbs rm)) O (gG 1 (gD [1,1,1] [23] [0,1,2,3,4,5,6,7,8,9,10,11,12,13,14,15,16,17,18,19,20,21,22,23] ?_)));clear hS;intro w hS;refine gH 6 (Br.y 6 (λw _ _ A6 hS=>.lo O hS (k:=0) O Cv (v:=Ab (o:Nat)) O) (gH 6 (Br.y 13 (λw _ _ A6 hS=>.lo O hS (k:=0) O Cv (v:=Ab (o:Nat)) O) (gH 2 (Br.y 16 (λw _ _ A6 hS=>.lo O hS (k:=2) O QU (v:=tv) (wB hPo rl)) (gH 3 ?_))))));clear hS;intro b63 w hS;refine gH 1 ?_;clear hS;intro a64 c64 uF w hS;refine gH 2 (Br.e ?_);refine .s1 hS (k:=3) O O O O x8 (by rw[Y0,zV AD 3 se];(try simp only[Xay]);omega) ?_;clear hS;intro w hS;try dsimp only[List.set]at hS
  try simp only[Y8]at hS
  rw[iw (by(try simp only[Xay]);omega)]at hS;refine gG 0 (gD [2] [13] [0,1,2,3,4,5,6,7,8,9,10,11,12,13] ?_);clear hS;intro w hS;refine gH 11 ?_;clear hS;intro b77 w hS;refine gH 2 (Br.e ?_);refine .s1 hS (k:=4) O O O O x8 (by rw[Y0,zV AD 3 se];(try simp only[Xay]);omega) ?_;clear hS;intro w hS;try dsimp only[List.set]at hS
  try simp only[Y8]at hS
  rw[iw (by(try simp only[Xay]);omega)]at hS;obtain⟨J2,AE,LF,hS⟩:=hS.fZ 0;try dsimp only[List.eraseIdx]at hS
  have qP:B8 J2 (.slice (some (ad b77 0)) 1 1) [(P0.length:Int)]:=⟨(λh=>by cases h),_,_,O,Yd _,O,λ_=>⟨_,O,O,_,_,_,LF,λj u hj=>by simpa using hj⟩⟩
  refine gG 0 ?_
  skip
  refine gH 1 ?_;rw[show((pre.length:Nat):Int)+1=((pre++[b]).length:Nat)by simp];refine gG 1 ?_;refine rd (pre++[b],r,UN (UN P o (.slice a64 (pre.length+1) c64)) b (.slice (some (ad b77 0)) 1 1),Ga (Ga Q o (pre.map (λ(x:Nat)=>(x:Int)+1)++[(b:Int)+1])) b [(P0.length:Int)],.slice a64 (pre.length+1) c64,J2) ⟨by rw[hbs];simp,hJ.trans AE,((hX.Ag9 _ _).mono AE).Ag8 _ _ _ qP,by simp[UN,Wi],⟨ko,co,?_⟩,⟨kq,cq,?_⟩,λh=>by simp at h,?_,?_⟩ sz
  ·simp[UN,Zt,hPo,hbo]
  ·simp[Ga,Zt,hQo,hbo]
  ·rw[<-hgo,Md];simp
  ·simpa using hS
 refine gG 0 ?_;have Ado:rem=[]:=by
  cases rem with
  | nil=>rfl
  | cons b r=>simp at hlen;omega
 subst Ado;replace hS:=hS.drop (k:=1) O;try dsimp only[List.eraseIdx]at hS
 obtain⟨J2,AE,qP,hS⟩:=Xxl (k:=0) (xs:=pre.map λ(x:Nat)=>(x:Int)+1) hS (by rw[Yh];rfl) (λh=>N4 (su h));try dsimp only[List.eraseIdx]at hS
 replace hS:=hS.Bm (k:=1) (n:=P.length) (cap:=cl) O om AcV (by rw[zV AD 3 se]) (by rw[zV AD 3 se]at AcW ⊢;omega);try dsimp only[List.set]at hS
 rw[<-Wi]at hS ⊢;refine gC 1 (YV _ _ _ _ _ _ _ _ _ hS om) ?_;clear hS;rintro _ w ⟨rfl,L0,hS⟩;refine gG 0 ?_;replace hS:=hS.say (k:=1) (A':=Ar 497 3 L0 (P.length+1) ((P++[((6:Int),(0:Int),Value.slice none 0 0)]).flatMap AD)) O (λh hh=>by rw[RR];exact hh);try dsimp only[List.set]at hS
 refine⟨O,L0,D6,ti,P++[(6,0,.slice none 0 0)],J2,hJ.trans AE,?_,?_⟩
 ·rw[Wi,<-hgo,Md];exact((hX.mono AE).back (λp q hp hq=>by rw[hPo]at hp;rw[hQo]at hq;cases hp;cases hq;exact qP)).snoc 6 0 _ _ (B8.nil _)
 ·have e5:(Ay.take (st.length:Int).toNat).length=st.length:=by(try rw[Y8]);rw[Yl];omega
  rw[e5]at hS;rw[Y0];exact hS
theorem Xgs(s p:Lu)(w:Wo)(hs:s.length<=140737488351232)(hp:p.length<=140737488351232):Cz 154 [S s,S p] w λv w'=>v=.bool (Xg s p)/\w=w':=by
 refine gH 14 ?_;exact gG 1 ⟨O,O⟩
theorem pF(s p:Lu)(w:Wo)(hs:s.length<=140737488351232)(hp:p.length<=140737488351232):Cz 150 [S s,S p] w λv w'=>v=.bool (Xg s p)/\w=w':=by
 refine gC 3 (Xgs _ _ _ hs hp) ?_;rintro _ _ ⟨rfl,rfl⟩;exact gG 1 ⟨O,O⟩
open Pc Ul
structure Ba(I:Im):Prop where
 PZ:BJ I
 pow : ∀(B w : World) (As : List X1), Aa B w I As → Go.Lib.TabIs prog w "internal/strconv.uint64pow10" .u64 Go.Lib.pow10Tab
 max:∀(B w:Wo) (As:La),Aa B w I As->∃m,w.cell? ⟨2,0,none⟩=some (.int .i64 m)
theorem Ba.mono(h:Ba I)(hl:Le I J):Ba J :=
 have e:∀(B w:Wo) (As:La),Aa B w J As->Aa B w I As:=λB w As ⟨g,h1,h2⟩=>⟨g,h1,h2.os,h2.tape,h2.output,λb o hi=>h2.MB b o (hl.h b o hi),h2.own,h2.nodup,λb o hm=>by
  cases hi:I b with
  | none=>rfl
  | some x=>have:=h2.apart b o hm;rw[hl.h b x hi]at this;cases this⟩
 ⟨h.PZ.mono hl,λB w As s=>h.pow B w As (e B w As s),λB w As s=>h.max B w As (e B w As s)⟩
theorem w5(hS:Aa B w I As)(n:Nat):Aa B (w.drewN n) I As:=hS.world O O O O
theorem Xud(hS:Aa B w I As)(os:Array Obj):Aa B (Go.Sort.grow w os) I As :=
 hS.grown ⟨O,O,O,by simp[Go.Sort.grow],λk hk=>by simp[Go.Sort.grow,Array.getElem?_append,hk]⟩
theorem ZT(n:Nat)(hn:n<=65535)(hK:Ba I)(As:La)(hS:Aa B w I As):Calls prog 86 #[Ab (n:Nat)] w (A4 λv w'=>v=S (Go.Lib.decDigits n)/\Aa B w' I As) :=
 (strconv_Itoa n om om w (hK.pow B w As hS)).mono λe w' he=>by
  obtain⟨rfl,k,os,rfl⟩:=he;refine⟨_,O,?_,Xud (w5 hS k) os⟩;unfold Go.Lib.itoa;rw[Y3 om];(try rw[Y8])
theorem Xqg(s:Lu)(hs:s.length<=1000000)(hK:Ba I)(As:La)(hS:Aa B w I As):Calls prog 82 #[S s,S CZ] w (A4 λv w'=>v=.tuple #[S (Go.Lib.cut s CZ).1,S (Go.Lib.cut s CZ).2.1,.bool (Go.Lib.cut s CZ).2.2]/\Aa B w' I As):=by
 obtain⟨m,hm⟩:=hK.max B w As hS;refine(strings_Cut ⟨s.toArray⟩ ⟨CZ.toArray⟩ m w (by show s.length<_;omega) hm).mono λe w' he=>?_
 obtain⟨rfl,n,rfl⟩:=he;exact⟨_,O,O,w5 hS n⟩
theorem X86(s:Lu)(c:Ui)(hs:s.length<=1000000)(hK:Ba I)(As:La)(hS:Aa B w I As):Calls prog 82 #[S s,S [c]] w (A4 λv w'=>v=.tuple #[S (Bb [c] s),S ((Xd [c] s).drop 1),.bool (!(Xd [c] s).isEmpty)]/\Aa B w' I As):=by
 obtain⟨m,hm⟩:=hK.max B w As hS;refine(strings_Cut ⟨s.toArray⟩ ⟨[c].toArray⟩ m w (by show s.length<_;omega) hm).mono λe w' he=>?_
 obtain⟨rfl,n,rfl⟩:=he;refine⟨_,O,?_,w5 hS n⟩;show Value.tuple #[S (Go.Lib.cut s [c]).1,S (Go.Lib.cut s [c]).2.1,.bool (Go.Lib.cut s [c]).2.2]=_
 rw[Sb]
theorem Xgv(l:List ByteArray):l.map Value.string=(l.map (·.data.toList)).map S:=by
 rw[s8];rfl
theorem Ur(s:Lu)(hs:s.length<=1000000)(hK:Ba I)(As:La)(hS:Aa B w I As):Calls prog 83 #[S s,S [47]] w (A4 λv w'=>∃b,v=.slice (some (ad b 0)) (A_ s).length (A_ s).length/\Aa B w' I (Ae b ((A_ s).map S) 9::As)):=by
 obtain⟨m,hm⟩:=hK.max B w As hS;refine(strings_Split ⟨s.toArray⟩ ⟨[47].toArray⟩ m w (by show s.length<_;omega) hm de).mono λe w' he=>?_
 obtain⟨rfl,rfl⟩:=he;have e1:(A_ s).length=Go.Lib.countB ⟨s.toArray⟩ ⟨[47].toArray⟩+1:=oT _ s (Yd _);have e2:(Go.Lib.splitB ⟨[47].toArray⟩ 0 (Go.Lib.countB ⟨s.toArray⟩ ⟨[47].toArray⟩) ⟨s.toArray⟩).map Value.string=(A_ s).map S:=by
  rw[Xgv,Go.Lib.splitB_data];show List.map S (Go.Lib.splitK [47] 0 (Go.Lib.count s [47]) s)=_
  rw[Xz7 _ s (Yd _)]
 refine⟨_,O,w.heap.size,by rw[e1],?_⟩;rw[e2];exact hS.alloc _
theorem ZM(p:Lu)(hl:p.length<=1000000)(hK:Ba I)(As:La)(hS:Aa B w I As):Ce B I As 364 [S p] w (S (Kt p)):=by
 refine gC 2 (pF p [47] _ om de) ?_;rintro _ _ ⟨rfl,rfl⟩;refine gM 1 ?_ ?_<;>intro Bu B_
 ·refine gG 2 (⟨?_,hS⟩);cases p with
  | nil=>rfl
  | cons a b=>rw[Kt,Y3 (λe=>by subst e;simp[Xg]at Bu;omega)]
 refine gG 2 ?_;have HN:1<=p.length:=by cases p with|nil=>simp[Xg]at Bu|cons a b=>simp
 have ze:=Xl3 (A_ (p.drop 1));rw[Xgu,Ye]at ze;refine gP 2 [] (Ur (p.drop 1) (by rw[Ye];omega) hK As) ?_;clear hS;rintro _ w ⟨jA,rfl,hS⟩;refine gG 2 ?_;replace hS:=hS.An 9 1;refine .lk [16,17] (σ:=Va×Nat) (λ(kv,i) _m=>(3,kv)::(4,.bool (decide (0<i)&&Zd ((A_ (p.drop 1)).getD (i-1) [])))::(18,Ab (i:Nat))::_m) (λ(kv,i) w=>i<=(A_ (p.drop 1)).length/\Aa B w I (Ar 9 1 kv (List.foldl CO [] ((A_ (p.drop 1)).take i)).length ((List.foldl CO [] ((A_ (p.drop 1)).take i)).map S)::Ae jA ((A_ (p.drop 1)).map S) 9::As)) (λ(kv,i)=>(A_ (p.drop 1)).length-i) (.slice none 0 0,0) ⟨Y4 _,hS⟩ ?_;rintro⟨kv,i⟩ w ⟨hi,hS⟩;refine gN 1 ?_ ?_<;>intro IG
 ·refine gG 0 ?_;obtain⟨x,hx⟩:∃x,(A_ (p.drop 1))[i]?=some x:=⟨_,Y2 om⟩
  have hKn:(List.foldl CO [] ((A_ (p.drop 1)).take (i+1)))=CO (List.foldl CO [] ((A_ (p.drop 1)).take i)) x:=by rw[Yo,hx,Lm];rfl
  have hgd:(A_ (p.drop 1)).getD i []=x:=by rw[Ya,hx];rfl
  have hop:(decide (0<i+1)&&Zd ((A_ (p.drop 1)).getD (i+1-1) []))=Zd x:=by rw[Nat.add_sub_cancel,hgd,decide_eq_true om,U_]
  obtain⟨ka,kc,rfl,CV,_⟩:=hS.Av (k:=0) (v:=kv) O;have hKl:(List.foldl CO [] ((A_ (p.drop 1)).take i)).length<=1000001:=by
   have h1:=Xl3 (List.foldl CO [] ((A_ (p.drop 1)).take i));have h2:=Xlz ((A_ (p.drop 1)).take i) [];have h3:Ee (A_ (p.drop 1))=Ee ((A_ (p.drop 1)).take i)+Ee ((A_ (p.drop 1)).drop i):=by rw[<-Xly,Mv]
   have h4:=Xgu (p.drop 1);rw[Ye]at h4;rw[show Ee []=0 from O]at h2;omega
  refine gH 1 ?_;refine .val (.ld (v:=S x) (.of O) hS (k:=1) O BF (by rw[Yj];(try rw[Y8]);rw[Gv,Ys,hx];rfl)) O ?_;refine gM 5 ?_ ?_<;>intro EH Dy
  ·refine gG 2 ?_;refine⟨(_,i+1),⟨O,by show some (Value.bool _)=some _;rw[hop];rw[show x=[46]by simpa using EH];rfl,O,O,O,trivial⟩,⟨om,?_⟩,od⟩;rw[hKn,CO,Y7 (su EH)];exact hS
  refine gM 2 ?_ ?_<;>intro JN E4
  ·refine gH 6 ?_;obtain⟨a2,c2,e2,hS⟩:=hS.OD (m:=(max 0 (((List.foldl CO [] ((A_ (p.drop 1)).take i)).length:Int)-1)).toNat) (l:=(List.foldl CO [] ((A_ (p.drop 1)).take i))) (k:=0) O om;rw[e2];rw[show(max 0 (((List.foldl CO [] ((A_ (p.drop 1)).take i)).length:Int)-1)).toNat=(List.foldl CO [] ((A_ (p.drop 1)).take i)).length-1 by omega]at hS ⊢;refine gG 3 ?_;refine⟨(_,i+1),⟨O,by show some (Value.bool _)=some _;rw[hop];rw[show x=[46,46]by simpa using JN];rfl,O,O,O,trivial⟩,⟨om,?_⟩,od⟩;rw[hKn,CO,Y3 (su EH),Y7 (su JN),List.dropLast_eq_take];exact hS
  refine gG 8 ?_;clear hS;intro b35 a36 c36 AcF w hS;refine⟨(_,i+1),⟨O,by show some (Value.bool _)=some _;rw[hop];rw[Zd,show(x==[46])=false by simpa using EH,show(x==[46,46])=false by simpa using JN];rfl,O,O,O,trivial⟩,⟨om,?_⟩,od⟩;rw[hKn,CO,Y3 (su EH),Y3 (su JN),Ym,Y0];exact hS
 refine gG 0 ?_;have JV:i=(A_ (p.drop 1)).length:=om
 subst JV;rw[Jm]at hS;obtain⟨ka,kc,rfl,CV,_⟩:=hS.Av (k:=0) (v:=kv) O;have Adv:=Xlz (A_ (p.drop 1)) [];rw[Xgu,show Ee []=0 from O,Yj,Ye]at Adv;have LO:=Xl3 (List.foldl CO [] (A_ (p.drop 1)));refine gG 4 (.lk [3,4,38,39] (σ:=Nat) (λj _m=>(40,Ab (j:Nat))::(7,S (OK ((List.foldl CO [] (A_ (p.drop 1))).take j)))::_m) (λj w=>j<=(List.foldl CO [] (A_ (p.drop 1))).length/\Aa B w I (Ar 9 1 (.slice ka (List.foldl CO [] (A_ (p.drop 1))).length kc) (List.foldl CO [] (A_ (p.drop 1))).length ((List.foldl CO [] (A_ (p.drop 1))).map S)::Ae jA ((A_ (p.drop 1)).map S) 9::As)) (λj=>(List.foldl CO [] (A_ (p.drop 1))).length-j) 0 ⟨Y4 _,hS⟩ ?_);rintro j w ⟨hj,hS⟩;refine gN 1 ?_ ?_<;>intro Qi
 ·refine gG 0 ?_;obtain⟨x,hx⟩:∃x,(List.foldl CO [] (A_ (p.drop 1)))[j]?=some x:=⟨_,Y2 om⟩
  have ZF:OK ((List.foldl CO [] (A_ (p.drop 1))).take (j+1))=OK ((List.foldl CO [] (A_ (p.drop 1))).take j)++47::x:=by rw[Yo,hx];exact Xsw _ _
  have hsl:(OK ((List.foldl CO [] (A_ (p.drop 1))).take j)).length+(x.length+1)<=Ee (List.foldl CO [] (A_ (p.drop 1))):=by
   rw[show x.length+1=(47::x).length from O,<-Y0,<-ZF,X9t]
   have:Ee (List.foldl CO [] (A_ (p.drop 1)))=Ee ((List.foldl CO [] (A_ (p.drop 1))).take (j+1))+Ee ((List.foldl CO [] (A_ (p.drop 1))).drop (j+1)):=by rw[<-Xly,Mv]
   omega
  obtain⟨g19,Ag4,mB⟩:∃g rest,ka=some (ad g 0)/\Aa B w I (Ae g ((List.foldl CO [] (A_ (p.drop 1))).map S++rest) 9::Ae jA ((A_ (p.drop 1)).map S) 9::As):=by
   obtain⟨g,c,rest,hv,_,_,_,_,hs⟩:=hS.AP (k:=0) O om;injection hv with ET HP GQ
   exact⟨g,rest,ET,hs⟩
  obtain⟨rfl,mB⟩:=mB;refine gG 0 (.val (.indexAddr (b:=g19) (o:=0) (.of O) (.of O) om om OX Bf) O ?_);refine .val (.ld (v:=S x) (.of O) mB (k:=0) O BF (by rw[Yj];(try rw[Y8]);rw[Gv,Y9 (by rw[Yh];omega),Ys,hx];rfl)) O ?_;clear mB;refine gG 8 ?_;refine⟨j+1,⟨O,by show some (S _)=some _;rw[ZF];simp,O,O,O,O,trivial⟩,⟨om,hS⟩,om⟩
 refine gG 0 ?_;have mT:(List.foldl CO [] (A_ (p.drop 1))).take j=(List.foldl CO [] (A_ (p.drop 1))):=Yg om;have Ah5:(OK ((List.foldl CO [] (A_ (p.drop 1))).take j)).length<=Ee (List.foldl CO [] (A_ (p.drop 1))):=by rw[mT,X9t];exact Yd _
 refine gM 6 ?_ ?_<;>intro JO Qj
 ·refine gH 5 (.nil (.ret ?_));refine λ_ A5=>RN A5 O ?_
  have mT:(List.foldl CO [] (A_ (p.drop 1))).take j=(List.foldl CO [] (A_ (p.drop 1))):=Yg om;rw[mT];have ew:(decide (0<(A_ (p.drop 1)).length)&&Zd ((A_ (p.drop 1)).getD ((A_ (p.drop 1)).length-1) []))=Zd ((A_ (p.drop 1)).getLastD []):=by
   have A8:=QI (p.drop 1);have WA:0<(A_ (p.drop 1)).length:=U5.2 A8;rw[decide_eq_true WA,U_]
   congr 1
   rw[Y5f,Y5e,Ya]
  have NY:p=47::p.drop 1:=by
   cases p with
   | nil=>simp[Xg]at Bu
   | cons a b=>simp[Xg]at Bu;rw[Bu.2];rfl
  have AW:Kt p=OK (List.foldl CO [] (A_ (p.drop 1)))++(if Zd ((A_ (p.drop 1)).getLastD [])||(List.foldl CO [] (A_ (p.drop 1))).length==0 then[47]else[]):=by rw[NY,Kt,Y7 O];rfl
  refine⟨_,O,?_,hS.y 0 2⟩;rw[AW];rw[Y7 (by rw[<-ew];simpa using JO)]
 refine gH 2 (.nil (.ret ?_));refine λ_ A5=>RN A5 O ?_
 have mT:(List.foldl CO [] (A_ (p.drop 1))).take j=(List.foldl CO [] (A_ (p.drop 1))):=Yg om;rw[mT];have ew:(decide (0<(A_ (p.drop 1)).length)&&Zd ((A_ (p.drop 1)).getD ((A_ (p.drop 1)).length-1) []))=Zd ((A_ (p.drop 1)).getLastD []):=by
  have A8:=QI (p.drop 1);have WA:0<(A_ (p.drop 1)).length:=U5.2 A8;rw[decide_eq_true WA,U_]
  congr 1
  rw[Y5f,Y5e,Ya]
 have NY:p=47::p.drop 1:=by
  cases p with
  | nil=>simp[Xg]at Bu
  | cons a b=>simp[Xg]at Bu;rw[Bu.2];rfl
 have AW:Kt p=OK (List.foldl CO [] (A_ (p.drop 1)))++(if Zd ((A_ (p.drop 1)).getLastD [])||(List.foldl CO [] (A_ (p.drop 1))).length==0 then[47]else[]):=by rw[NY,Kt,Y7 O];rfl
 refine⟨_,O,?_,hS.y 0 2⟩;rw[AW];rw[Y3 (by rw[<-ew,yD];simpa using JO),Yr]
theorem Sg(n:Nat)(h:n<=65535):(Go.Lib.decDigits n).length<=5:=by
 rw[Go.Lib.decDigits_length];have step:∀k m,m<10^(k+1)->Go.Lib.nDigits m<=k+1:=by
  intro k
  induction k with
  | zero=>intro m hm;rw[Go.Lib.nDigits_small (su hm)];exact Yd _
  | succ k ih =>
   intro m hm
   by_cases Jo:m<10
   ·rw[Go.Lib.nDigits_small Jo];omega
   ·rw[Go.Lib.nDigits_big Jo]
    have:=ih (m/10) (by rw[bg]at hm;omega)
    omega
 exact step 4 n om
theorem Xt2(u:U)(hu:UE u)(hK:Ba I)(As:La)(hS:Aa B w I As):Ce B I As 365 [.agg #[S u.Dt,S u.host,Ab (u.port:Nat),S u.path,S u.query,.bool u.ask]] w (S (sC u)):=by
 refine gG 2 ?_;clear hS;intro b1 w hS;obtain⟨WH,eF,hp,vj,hs5⟩:=hu;have hd5:=Sg u.port hp;refine gN 10 ?_ ?_<;>intro B_
 ·refine gE 3 (ZT u.port hp hK) ?_;clear hS;intro w hS;refine gG 5 (⟨?_,hS.s⟩);rw[sC,Y3 om];simp[Yc]
 refine gG 2 (⟨?_,hS.s⟩);rw[sC,Y7 om];simp[Yc]
theorem Xy9(u:U)(hu:UE u):(sC u).length<=3000000:=by
 obtain⟨WH,eF,hp,vj,hs5⟩:=hu;have hd5:=Sg u.port hp;unfold sC;split<;>simp only[Y0,List.length_cons,List.length_nil]<;>omega
theorem X9x(u:U)(hu:UE u)(hK:Ba I)(As:La)(hS:Aa B w I As):Ce B I As 276 [.agg #[S u.Dt,S u.host,Ab (u.port:Nat),S u.path,S u.query,.bool u.ask]] w (S (L8 u)):=by
 refine gG 2 ?_;clear hS;intro b1 w hS;have Mz:=Xy9 u hu;obtain⟨WH,eF,hp,vj,hs5⟩:=id hu;refine gD [0] [] [0,2,3,1,4,5] ?_;clear hS;intro w hS;refine gE 3 (Xt2 u hu hK) ?_;clear hS;intro w hS;refine gN 4 ?_ ?_<;>intro DO
 ·refine gG 8 (⟨?_,hS.s⟩);rw[L8,Y7 DO];simp[Yc]
 refine gG 2 (⟨?_,hS.s⟩);rw[L8,Y3 (nB DO),Yr]
theorem VG(s sep:Lu):(Go.Lib.cut s sep).1.length<=s.length/\(Go.Lib.cut s sep).2.1.length<=s.length:=by
 unfold Go.Lib.cut;split
 ·simp only[Yl,Ye];omega
 ·simp
theorem Xzy(s:Lu)(hs:s.length<=1000000)(hK:Ba I)(As:La)(hS:Aa B w I As):Calls prog 82 #[S s,S CZ] w (A4 λv w'=>∃sc rs ok,v=.tuple #[S sc,S rs,.bool ok]/\r9 s=(if ok=true/\(low sc=IU\/low sc=ji)then some (low sc,rs)else none)/\sc.length<=s.length/\rs.length<=s.length/\Aa B w' I As) :=
 (Xqg s hs hK As hS).mono λe w' he=>by
  obtain⟨v,rfl,rfl,h⟩:=he;obtain⟨h1,h2⟩:=VG s CZ;exact⟨_,O,_,_,_,O,Xyz s,h1,h2,h⟩
theorem XM{s t:Lu}(h:Lb s=some t):t.length<=s.length:=by
 unfold Lb at h;split at h
 ·exact Xuw s t h
 ·cases h
theorem Xuy(s:Lu)(hl:s.length<=1000000)(hK:Ba I)(As:La)(hS:Aa B w I As):Calls prog 363 #[S s] w (A4 λv w'=>∃n1 e1,v=.tuple #[S n1,Ab e1]/\(match Lb s with|none=>n1=[]/\e1=15|some t=>n1=t/\e1=0)/\n1.length<=s.length/\Aa B w' I As) :=
 (Xy5 s hl hK.PZ As hS).mono λe w' he=>by
  obtain⟨v,rfl,rfl,h⟩:=he;cases hp:Lb s with
  | none=>exact⟨_,O,_,_,O,⟨O,O⟩,Y4 _,h⟩
  | some t=>exact⟨_,O,_,_,O,⟨O,O⟩,XM hp,h⟩
theorem wa(s Dt:Lu)(hl:s.length<=1000000)(w:Wo):Calls prog 362 #[S s,S Dt] w (A4 λv w'=>(∃pn:Nat,v=.tuple #[Ab (pn:Nat),.bool (Jc s)]/\pn<=65535/\(Jc s=true->pn=UM s Dt))/\w=w') :=
 (fG s Dt hl w).mono λe w' he=>by
  obtain⟨v,rfl,rfl,h⟩:=he;refine⟨_,O,?_,h⟩;cases hp:Jc s with
  | false=>exact⟨0,O,de,λe=>by cases e⟩
  | true =>
   refine⟨UM s Dt,O,?_,λ_=>rfl⟩;unfold UM;split
   ·decide
   ·unfold Jc at hp;simp only[Yb,dq1]at hp
    exact hp.2
theorem Xe8(a s:Lu):(Bb a s).length<=s.length:=by
 have:=Y5 List.length (pP a s)
 rw[Y0]at this;omega
theorem r5(a s:Lu):(Xd a s).length<=s.length:=by
 have:=Y5 List.length (pP a s)
 rw[Y0]at this;omega
theorem AbZ:iO [47,63,35,58]:=λj b h=>by
 match j,h with
 | 0,h=>cases h;decide
 | 1,h=>cases h;decide
 | 2,h=>cases h;decide
 | 3,h=>cases h;decide
 | _+4,h=>simp at h
theorem AbY:iO [47,63,35]:=λj b h=>by
 match j,h with
 | 0,h=>cases h;decide
 | 1,h=>cases h;decide
 | 2,h=>cases h;decide
 | _+3,h=>simp at h
theorem Xva(r:Lu):Xg r [58]=true↔r.take 1=[58]:=by
 cases r with
 | nil=>simp[Xg]
 | cons a b=>simp[Xg];intro _;omega
theorem Xcm(s:Lu)(hl:s.length<=1000000)(hK:Ba I)(As:La)(hS:Aa B w I As):Ce B I As 275 [S s] w (.tuple #[.agg (uc (pU s).1).toArray,Ab ((pU s).2:Nat)]):=by
 refine gG 5 ?_;clear hS;intro b2 w hS;refine gN 0 ?_ ?_<;>intro G8
 ·refine gH 3 ?_;clear hS;intro w hS;exact gG 0 ⟨by rw[pU,Y7 om];rfl,hS.s⟩
 refine gF 1 (Xzy s om hK) ?_;clear hS;rintro _ w ⟨sc,rs,ok,rfl,N0,Ah4,Ah2,hS⟩;refine gE 8 (Xol sc om) ?_;clear hS;intro w hS;refine gM 11 ?_ ?_<;>intro DN Ft
 ·refine gH 3 ?_;clear hS;intro w hS;refine gG 0 (⟨?_,hS.s⟩);rw[pU,Y3 om,N0,Y3]
  ·rfl
  ·rintro⟨h1,h2⟩;rw[h1]at DN;rcases h2 with h|h<;>rw[h]at DN<;>simp[IU,ji]at DN
 refine gG 0 ?_;have Dz:ok=true/\(low sc=IU\/low sc=ji):=Ft;rw[Y7 Dz]at N0;have Ac8:=kP sc;refine gH 5 ?_;clear hS;intro b7 w hS;refine gE 0 (R_ rs [47,63,35,58] om AbZ de de) ?_;clear hS;intro w hS;refine gH 8 ?_;clear hS;intro w hS;refine gE 0 (Xol _ (by have:=Xe8 [47,63,35,58] rs;omega)) ?_;clear hS;intro w hS;refine gH 4 ?_;clear hS;intro w hS;refine gC 0 (eD _ _) ?_;rintro _ _ ⟨rfl,rfl⟩;refine gM 1 ?_ ?_<;>intro Qg mL
 ·refine gH 3 ?_;clear hS;intro w hS;refine gG 0 (⟨?_,hS.s⟩);rw[pU,Y3 om,N0];simp only
  rw[aR,Y3 (su Qg)];rfl
 refine .skip (.ck [2,7] (σ:=Nat×Lu) (λ(port,r) _m=>(5,S r)::_m) (λ(port,r) w=>pU s=OW (low sc) (low (Bb [47,63,35,58] rs)) port r/\port<=65535/\r.length<=2000/\Aa B w I (Ae b7 [S (low sc),S (low (Bb [47,63,35,58] rs)),Ab (port:Nat),S [],S [],.bool false] 394::Ae b2 [S [],S [],Ab 0,S [],S [],.bool false] 394::As)) ?_ ?_)
 ·refine gC 1 (pF _ [58] _ (by have:=r5 [47,63,35,58] rs;omega) de) ?_;rintro _ _ ⟨rfl,rfl⟩;refine gM 0 ?_ ?_<;>intro JO Qj
  ·refine gG 0 ?_;have N3:=(Xva _).1 JO;have NT:=r5 [47,63,35,58] rs;have vi:1<=(Xd [47,63,35,58] rs).length:=by
    have:=Y5 List.length N3
    rw[Yl,List.length_cons,List.length_nil]at this;omega
   refine gE 3 (R_ ((Xd [47,63,35,58] rs).drop 1) [47,63,35] (by rw[Ye];have:=r5 [47,63,35,58] rs;omega) AbY de de) ?_;clear hS;intro w hS;refine gC 7 (wa _ (low sc) (by have:=Xe8 [47,63,35] ((Xd [47,63,35,58] rs).drop 1);have:=r5 [47,63,35,58] rs;rw[Ye]at *;omega) _) ?_;rintro _ _ ⟨⟨pn,rfl,ze,mZ⟩,rfl⟩;refine gG 8 ?_;clear hS;intro w hS;refine gM 0 ?_ ?_<;>intro AaE AhC
   ·refine gH 3 ?_;clear hS;intro w hS;refine gG 0 (⟨?_,hS.s⟩);rw[pU,Y3 om,N0];simp only
    rw[aR,Y7 (su Qg),sx,Y7 N3,Y3 (su AaE)];rfl
   refine gG 0 ?_;have Aa4:Jc (Bb [47,63,35] ((Xd [47,63,35,58] rs).drop 1))=true:=su AaE
   have re:=mZ Aa4;refine Vw (pn,_) O ⟨?_,ze,?_,hS⟩
   ·rw[pU,Y3 om,N0];simp only
    rw[aR,Y7 (su Qg),sx,Y7 N3,Y7 Aa4,re]
   ·have:=r5 [47,63,35] ((Xd [47,63,35,58] rs).drop 1)
    rw[Ye]at this;omega
  refine gG 0 (Vw (0,_) O ⟨?_,de,?_,hS⟩)
  ·rw[pU,Y3 om,N0];simp only
   rw[aR,Y7 (su Qg),sx,Y3 (λe=>by rw[(Xva _).2 e]at JO;cases JO)]
  ·have:=r5 [47,63,35,58] rs
   omega
 rintro⟨port,r⟩ w ⟨jM,Aht,HO,hS⟩;refine gE 1 (X86 r 63 om hK) ?_;clear hS;intro w hS;refine gF 8 (Xuy _ (by have:=Xe8 [63] r;omega) hK) ?_;clear hS;rintro _ w ⟨p1,e1,rfl,HN,Aa7,hS⟩;refine gN 7 ?_ ?_<;>intro Acw
 ·refine gH 4 ?_;clear hS;intro w hS;refine gG 0 (⟨?_,hS.s⟩);rw[jM,OW];cases hp:Lb (Bb [63] r)with
  | none=>rw[hp]at HN;rw[HN.2];rfl
  | some t=>rw[hp]at HN;exact Yy HN.2 Acw
 refine gF 1 (Xuy _ (by have:=r5 [63] r;rw[Ye];omega) hK) ?_;clear hS;rintro _ w ⟨q1,e2,rfl,Hv,Ah1,hS⟩;refine gG 8 ?_;clear hS;intro w hS;refine gN 0 ?_ ?_<;>intro Acx
 ·refine gH 4 ?_;clear hS;intro w hS;refine gG 0 (⟨?_,hS.s⟩);rw[jM,OW];cases hp:Lb (Bb [63] r)with
  | none=>rw[hp]at HN;have:=HN.2;omega
  | some t =>
   cases hq:Lb ((Xd [63] r).drop 1)with
   | none=>rw[hq]at Hv;rw[Hv.2];rfl
   | some t=>rw[hq]at Hv;exact Yy Hv.2 Acx
 refine gE 1 (ZM p1 (by have:=Xe8 [63] r;omega) hK) ?_;clear hS;intro w hS;refine gG 8 ?_;clear hS;intro w hS;refine gM 0 ?_ ?_<;>intro dF Ahl
 ·refine gH 5 ?_;clear hS;intro w hS;refine gG 0 (⟨?_,hS.s⟩);rw[jM,OW];cases hp:Lb (Bb [63] r)with
  | none=>rw[hp]at HN;have:=HN.2;omega
  | some t =>
   cases hq:Lb ((Xd [63] r).drop 1)with
   | none=>rw[hq]at Hv;have:=Hv.2;omega
   | some q =>
    rw[hp]at HN;rw[hq]at Hv;obtain⟨rfl,_⟩:=HN;obtain⟨rfl,_⟩:=Hv;have hif:(if p1=[]then[47]else Kt p1)=[47]:=Y7 (by have:=cB p1;rw[dF]at this;simpa using this.symm);show _=Value.tuple #[.agg #[S (low sc),S (low (Bb [47,63,35,58] rs)),Ab (port:Nat),S (if p1=[]then[47]else Kt p1),S q1,.bool (!(Xd [63] r).isEmpty)],Ab 0]
    rw[hif]
    done
 refine gH 3 ?_;clear hS;intro w hS;refine gG 0 (⟨?_,hS.s⟩);rw[jM,OW];cases hp:Lb (Bb [63] r)with
 | none=>rw[hp]at HN;have:=HN.2;omega
 | some t =>
  cases hq:Lb ((Xd [63] r).drop 1)with
  | none=>rw[hq]at Hv;have:=Hv.2;omega
  | some q =>
   rw[hp]at HN;rw[hq]at Hv;obtain⟨rfl,_⟩:=HN;obtain⟨rfl,_⟩:=Hv;have hif:(if p1=[]then[47]else Kt p1)=Kt p1:=Y3 (λe=>by rw[e]at dF;simp[Kt]at dF);show _=Value.tuple #[.agg #[S (low sc),S (low (Bb [47,63,35,58] rs)),Ab (port:Nat),S (if p1=[]then[47]else Kt p1),S q1,.bool (!(Xd [63] r).isEmpty)],Ab 0]
   rw[hif]
   done
theorem X9w(s:Lu)(hl:s.length<=1000000)(hK:Ba I)(As:La)(hS:Aa B w I As):Ce B I As 352 [S s] w (.tuple #[S (nU s).1,Ab ((nU s).2:Nat)]):=by
 refine gE 3 (Xcm s hl hK) ?_;clear hS;intro w hS;refine gG 8 ?_;clear hS;intro b4 w hS;refine gN 0 ?_ ?_<;>intro B_
 ·refine gG 3 (⟨?_,hS.s⟩);rw[nU,Y3 om]
  done
 refine gE 1 (X9x (pU s).1 (z8 s) hK) ?_;clear hS;intro w hS;refine gG 2 (⟨?_,hS.s⟩);rw[nU,Y7 om];rfl
end Go.Proofs.W9
namespace Ul
open Pc Gk
def Fix(s:Lu):Prop:=H4 s=some s
theorem fE(v:Ui)(u:Lu):told (Ms (v.toNat/16)::Ms (v.toNat%16)::u)=some v:=by
 have:=Xf (p:=λv=>decide (0<=Fq (Ms (v.toNat/16)))&&decide (0<=Fq (Ms (v.toNat%16)))&&(byteOf (Ms (v.toNat/16)) (Ms (v.toNat%16))==v)) dk v
 simp only[Yb,dq1,beq_iff_eq]at this
 show(if Fq (Ms (v.toNat/16))<0\/Fq (Ms (v.toNat%16))<0 then none else some (byteOf (Ms (v.toNat/16)) (Ms (v.toNat%16))))=some v
 rw[Y3 om,this.2]
theorem Xsa{v:Ui}(h:plain v=true):v≠37:=λe=>by subst e;revert h;decide
theorem pQ{a b:Lu}(ha:∀c∈a,Ay.contains c=false)(hb:∀c,b.head?=some c->Ay.contains c=true):Bb Ay (a++b)=a/\Xd Ay (a++b)=b:=by
 induction a with
 | nil =>
  cases b with
  | nil=>exact⟨O,O⟩
  | cons c b =>
   have:=hb c O
   unfold Bb Xd;rw[Ez,yz,Y3w,this];exact⟨O,O⟩
 | cons c a ih =>
  have h1:=ha c sz;obtain⟨h2,h3⟩:=ih (λx hx=>ha x (by simp[hx]));simp only[Bb,Xd]at h2 h3 ⊢
  rw[Yz,yz,Y3w,h1];exact⟨Y5 (c::·) h2,h3⟩
theorem fj{p:Ui->Bool}:∀{l:Lu} {x:Ui},x∈l.takeWhile p->p x=true
 | [],_,h=>by simp at h
 | a::l,x,h=>by
  rw[yz]at h;split at h
  ·rename_i ha
   rcases Yi.1 h with e|e
   ·subst e;exact ha
   ·exact fj e
  ·simp at h
theorem rX:∀(n:Nat),val (Go.Lib.decDigits n)=n/\(Go.Lib.decDigits n).all Ks=true/\(0<n->(Go.Lib.decDigits n).head?≠some 48)/\Go.Lib.decDigits n≠[]:=by
 have PZ:∀d,d<10->(UInt8.ofNat (48+d)).toNat=48+d/\Ks (UInt8.ofNat (48+d))=true:=λd hd=>by
  have h:=(by decide:∀d:Fin 10,(UInt8.ofNat (48+d.val)).toNat=48+d.val/\Ks (UInt8.ofNat (48+d.val))=true) ⟨d,hd⟩
  exact h
 intro n
 induction n using Nat.strongRecOn with
 | _ n ih =>
  rw[Go.Lib.decDigits]
  by_cases h:n<10
  ·rw[dif_pos h];obtain⟨h1,h2⟩:=PZ n h;refine⟨?_,?_,λh0=>?_,by simp⟩
   ·simp only[val,Ky,List.foldl_nil,h1];omega
   ·rw[Ny,h2];rfl
   ·simp only[List.head?_cons,Option.some.injEq,ne_eq]
    intro e;rw[e]at h1
    have:(48:Ui).toNat=48:=rfl
    omega
  ·rw[dif_neg h];obtain⟨h1,h2⟩:=PZ (n%10) om;obtain⟨i1,i2,i3,i4⟩:=ih (n/10) om;refine⟨?_,?_,λ_=>?_,by simp⟩
   ·rw[TU,i1,h1];omega
   ·rw[Y4r,i2,Ny,h2];rfl
   ·rw[List.head?_append];cases hd:(Go.Lib.decDigits (n/10)).head? with
    | none=>exact Yy (List.head?_eq_none_iff.1 hd) i4
    | some x =>
     have:=i3 om
     rw[hd]at this;exact this
theorem Xnz{s:Lu}{c:Ui}(h:(Xd Ay s).head?=some c):Ay.contains c=true:=by
 unfold Xd at h
 have:=List.head?_dropWhile_not (λc=>!Ay.contains c) s
 rw[h]at this;simpa using this
def C8:List UInt8->List (List UInt8)
 | []=>[[]]
 | c::r=>if c=38 then[]::C8 r else match C8 r with
  | []=>[[c]]
  | h::t=>(c::h)::t
theorem bu(s:Lu):C8 s≠[]:=by
 cases s with
 | nil=>simp[C8]
 | cons c r =>
  simp only[C8]
  split
  ·simp
  ·split<;>simp
theorem Xdp:∀(s:Lu),(∀x∈s,x≠38)->C8 s=[s]
 | [],_=>rfl
 | c::r,h=>by
  rw[C8,Y3 (h c sz),Xdp r (λx hx=>h x (by simp[hx]))]
theorem RY:∀(a b:Lu),(∀x∈a,x≠38)->C8 (a++38::b)=a::C8 b
 | [],b,_=>by show C8 (38::b)=_;rw[C8,Y7 O]
 | c::r,b,h=>by
  show C8 (c::(r++38::b))=_
  rw[C8,Y3 (h c sz),RY r b (λx hx=>h x (by simp[hx]))]
theorem br{s:Lu}(h:s[i]?=some 38)(AL:∀k,k<i->s[k]?≠some 38):C8 s=s.take i::C8 (s.drop (i+1)):=by
 have hi:i<s.length:=(Y1.1 h).1;have e:s=s.take i++38::s.drop (i+1):=by
  conv=>lhs;rw[<-Mv i s]
  rw[Yp hi,(Y1.1 h).2]
 conv=>lhs;rw[e]
 refine RY _ _ λx hx ex=>?_
 obtain⟨k,hk⟩:=O3.1 hx;rw[jw]at hk;split at hk
 ·rename_i O7
  exact AL k O7 (by rw[hk,ex])
 ·cases hk
theorem Xz5:∀(n:Nat) (s:Lu),s.length<=n->Go.Lib.splitK [38] 0 (Go.Lib.count s [38]) s=C8 s:=by
 intro n
 induction n with
 | zero =>
  intro s h
  have:s=[]:=Yf om
  subst this;rfl
 | succ n ih =>
  intro s h;have IQ:=Go.Lib.indexByte_ge s 38
  by_cases e:Go.Lib.indexByte s 38=-1
  ·have hi:Go.Lib.index s [38]=-1:=by rw[Go.Lib.index_one];exact e
   rw[Go.Lib.count_miss hi];refine(Xdp s λx hx ex=>?_).symm;obtain⟨k,hk⟩:=O3.1 hx;exact Go.Lib.indexByte_none e k (by rw[hk,ex])
  ·obtain⟨i,hk⟩:∃k:Nat,Go.Lib.indexByte s 38=k:=⟨(Go.Lib.indexByte s 38).toNat,om⟩
   have hi:Go.Lib.index s [38]=i:=by rw[Go.Lib.index_one];exact hk
   obtain⟨h1,h2⟩:=Go.Lib.indexByte_some hk;have BO:i<s.length:=(Y1.1 h1).1;rw[Go.Lib.count_hit sz hi,Zz 1,Go.Lib.splitK,hi,Y3 sz,br h1 h2];show s.take ((i:Int).toNat+0)::Go.Lib.splitK [38] 0 (Go.Lib.count (s.drop (i+1)) [38]) (s.drop ((i:Int).toNat+1))=_
   rw[Y8,Hn,ih (s.drop (i+1)) (by rw[Ye];omega)]
theorem lG:∀(n:Nat) (s:Lu),s.length<=n->(C8 s).length=Go.Lib.count s [38]+1:=by
 intro n
 induction n with
 | zero =>
  intro s h
  have:s=[]:=Yf om
  subst this;rfl
 | succ n ih =>
  intro s h;have IQ:=Go.Lib.indexByte_ge s 38
  by_cases e:Go.Lib.indexByte s 38=-1
  ·have hi:Go.Lib.index s [38]=-1:=by rw[Go.Lib.index_one];exact e
   rw[Go.Lib.count_miss hi,Xdp s λx hx ex=>?_]
   ·rfl
   ·obtain⟨k,hk⟩:=O3.1 hx;exact Go.Lib.indexByte_none e k (by rw[hk,ex])
  ·obtain⟨i,hk⟩:∃k:Nat,Go.Lib.indexByte s 38=k:=⟨(Go.Lib.indexByte s 38).toNat,om⟩
   have hi:Go.Lib.index s [38]=i:=by rw[Go.Lib.index_one];exact hk
   obtain⟨h1,h2⟩:=Go.Lib.indexByte_some hk;have BO:i<s.length:=(Y1.1 h1).1;rw[Go.Lib.count_hit sz hi,br h1 h2,List.length_cons,ih (s.drop (i+1)) (by rw[Ye];omega)];show _=1+Go.Lib.count (s.drop (i+1)) [38]+1
   omega
theorem Xqv:∀(s:Lu),Ee (C8 s)=s.length+1
 | []=>rfl
 | c::r=>by
  have ih:=Xqv r;simp only[C8]
  split
  ·simp only[Ee,Yt,PN]at ih ⊢
   simp only[List.length_nil,List.length_cons]
   omega
  ·split
   ·rename_i h;exact Yy h (bu r)
   ·rename_i h
    rw[h]at ih;simp only[Ee,Yt,PN,List.length_cons]at ih ⊢
    omega
theorem RX:∀(a b:Lu),C8 (a++38::b)=C8 a++C8 b
 | [],b=>by show C8 (38::b)=[]::C8 b;rw[C8,Y7 O]
 | c::r,b=>by
  show C8 (c::(r++38::b))=_
  rw[C8,C8,RX r b];split
  ·rfl
  ·cases h:C8 r with
   | nil=>exact Yy h (bu r)
   | cons x y=>rfl
abbrev AD(s:Lu):Lu:=s.flatMap G1
theorem Xtx(c:Ui)(s:Lu):AD (c::s)=G1 c++AD s:=rfl
theorem me(a b:Lu):AD (a++b)=AD a++AD b:=RR ..
theorem nY(c:Ui):1<=(G1 c).length/\(G1 c).length<=3:=by unfold G1;split<;>simp[RL]
theorem YU:∀(s:Lu),(AD s).length<=3*s.length
 | []=>Yd _
 | c::s=>by
  have:=YU s
  have:=(nY c).2
  rw[Xtx,Y0,List.length_cons];omega
def dB(p:Bool)(c:Ui):Ui:=if(p&&c==43)=true then 32 else c
def PY(p:Bool):Nat->List UInt8->Option (List UInt8)
 | 0,_=>some []
 | _+1,[]=>some []
 | f+1,c::r=>if c=37 then match told r with
   | none=>none
   | some v=>(PY p f (r.drop 2)).map (v::·)
  else(PY p f r).map (dB p c::·)
def dec(p:Bool)(s:Lu):Option Lu:=PY p (s.length+1) s
theorem Xf6(p:Bool):∀(f g:Nat) (s:Lu),s.length<f->s.length<g->PY p f s=PY p g s
 | 0,_,_,h,_=>by omega
 | _+1,0,_,_,h=>by omega
 | f+1,g+1,[],_,_=>rfl
 | f+1,g+1,c::r,hf,hg=>by
  simp only[PY]
  split
  ·cases ht:told r with
   | none=>rfl
   | some v =>
    simp only
    have:=r_ ht
    simp only[List.length_cons]at hf hg
    rw[Xf6 p f g (r.drop 2) (by rw[Ye];omega) (by rw[Ye];omega)]
  ·simp only[List.length_cons]at hf hg
   rw[Xf6 p f g r om om]
theorem Xr4(p:Bool):dec p []=some []:=rfl
theorem xo(p:Bool)(c:Ui)(r:Lu):dec p (c::r)=if c=37 then match told r with
   | none=>none
   | some v=>(dec p (r.drop 2)).map (v::·)
  else(dec p r).map (dB p c::·):=by
 unfold dec;simp only[List.length_cons,PY]
 split
 ·cases ht:told r with
  | none=>rfl
  | some v =>
   simp only
   have:=r_ ht
   rw[Xf6 p (r.length+1) ((r.drop 2).length+1) (r.drop 2) (by rw[Ye];omega) om]
 ·rfl
theorem NF(p:Bool):∀(s t:Lu),dec p s=some t->t.length<=s.length:=by
 intro s
 induction hn:s.length using Nat.strongRecOn generalizing s with
 | _ n ih =>
  intro t h;cases s with
  | nil=>rw[Xr4]at h;injection h with h;subst h;simp
  | cons c r =>
   rw[xo]at h;simp only[List.length_cons]at hn
   split at h
   ·cases ht:told r with
    | none=>rw[ht]at h;cases h
    | some v =>
     rw[ht]at h;simp only at h
     cases hr:dec p (r.drop 2)with
     | none=>rw[hr]at h;cases h
     | some u =>
      rw[hr]at h;simp at h
      subst h
      have:=ih (r.drop 2).length (by rw[Ye];omega) (r.drop 2) O u hr
      rw[Ye]at this;simp only[List.length_cons]
      omega
   ·cases hr:dec p r with
    | none=>rw[hr]at h;cases h
    | some u =>
     rw[hr]at h;simp at h
     subst h
     have:=ih r.length om r O u hr
     simp only[List.length_cons]
     omega
theorem Xsb{v:Ui}(h:plain v=true):v≠43:=λe=>by subst e;revert h;decide
theorem l0(p:Bool)(c:Ui)(t:Lu):dec p (G1 c++t)=(dec p t).map (c::·):=by
 unfold G1;split
 ·rename_i h
  show dec p (c::t)=_
  rw[xo,Y3 (Xsa h),dB,Y3 (by simp[Xsb h])]
 ·show dec p (37::(Ms (c.toNat/16)::Ms (c.toNat%16)::t))=_
  rw[xo,Y7 O,fE];rfl
theorem Xkk(p:Bool):∀(s t:Lu),dec p (AD s++t)=(dec p t).map (s++·)
 | [],t=>by simp[AD]
 | c::s,t=>by
  rw[Xtx,Yc,l0,Xkk p s t];cases dec p t<;>rfl
theorem Sf(p:Bool)(s:Lu):dec p (AD s)=some s:=by
 have:=Xkk p s []
 rw[Yr,Xr4]at this;simpa using this
theorem vX{x:Ui}(hx:plain x=false)(h37:x≠37)(hd:∀n,n<16->Ms n≠x)(c:Ui):x ∉ G1 c:=by
 unfold G1;split
 ·rename_i h
  intro hm;rw[HH.1 hm,h]at hx;cases hx
 ·unfold RL;have hc:=c.toNat_lt;intro hm;simp only[Yi,Fw,or_false]at hm
  rcases hm with e|e|e
  ·exact h37 e
  ·exact hd _ om e.symm
  ·exact hd _ om e.symm
theorem cM{x:Ui}(hx:plain x=false)(h37:x≠37)(hd:∀n,n<16->Ms n≠x)(s:Lu):x ∉ AD s:=by
 intro hm;obtain⟨c,_,h⟩:=s6.1 hm;exact vX hx h37 hd c h
theorem cL(s:Lu):∀c∈AD s,c≠38:=λc hc e=>cM (x:=38) de de de s (e▸hc)
theorem tN(s:Lu):∀c∈AD s,c≠61:=λc hc e=>cM (x:=61) de de de s (e▸hc)
abbrev Pq:=Lu×Lu
def RH(x:List UInt8):Option Pq:=match dec true (Bb [61] x)with
 | none=>none
 | some n=>match dec true ((Xd [61] x).drop 1)with
  | none=>none
  | some v=>some (n,v)
def Ji:List (List UInt8)->List Pq->List Pq×Nat
 | [],out=>(out,0)
 | x::r,out=>if x=[]then Ji r out else if 32<=out.length then([],5)else match RH x with
  | none=>([],11)
  | some p=>Ji r (out++[p])
def H3(s:Lu):List Pq×Nat:=Ji (C8 s) []
theorem Xff:∀(a b:List Lu) (out:List Pq),Ji (a++b) out=if(Ji a out).2=0 then Ji b (Ji a out).1 else Ji a out
 | [],b,out=>by rw[Ez,Ji,Y7 O]
 | x::r,b,out=>by
  rw[Yz,Ji,Ji];split
  ·exact Xff r b out
  ·split
   ·rw[Y3 de]
   ·cases hp:RH x with
    | none=>simp
    | some p=>exact Xff r b _
theorem Xv4(n v:Lu):RH (AD n++61::AD v)=some (n,v):=by
 have h:=pQ (Ay:=[61]) (a:=AD n) (b:=61::AD v) (λc hc=>by simpa using tN n c hc) (λc hc=>by simp at hc;subst hc;decide);unfold RH;rw[h.1,h.2,Sf];show(match dec true (AD v)with|none=>none|some v=>some (n,v))=_
 rw[Sf]
def Gt(q n v:Lu):Lu:=(if q=[]then[]else q++[38])++(AD n++61::AD v)
theorem Xte(n v:Lu):C8 (AD n++61::AD v)=[AD n++61::AD v]:=Xdp _ λx hx=>by
 rcases Yn.1 hx with h|h
 ·exact cL n x h
 ·rcases Yi.1 h with rfl|h
  ·decide
  ·exact cL v x h
theorem Xkq(q n v:Lu):H3 (Gt q n v)=if(H3 q).2=0 then(if 32<=(H3 q).1.length then([],5)else((H3 q).1++[(n,v)],0))else H3 q:=by
 have A8:AD n++61::AD v≠[]:=by simp
 unfold H3 Gt;split
 ·rename_i h
  subst h;rw[Ez,Xte,Ji,Y3 A8,Y3 de,Xv4];rfl
 ·rw[Yc,List.singleton_append,RX,Xff,Xte];split
  ·rw[Ji,Y3 A8];split
   ·rfl
   ·rw[Xv4];rfl
  ·rfl
theorem RW(q n v:Lu):Gt q n v≠[]:=by unfold Gt;simp
theorem pR(q n v:Lu):(Gt q n v).length<=q.length+2+3*n.length+3*v.length:=by
 have h1:=YU n;have h2:=YU v;unfold Gt;split<;>simp only[Y0,List.length_cons,List.length_nil]<;>omega
def OY(u:U)(n v:Lu):U:={ u with query:=Gt u.query n v,ask:=true }
end Ul
namespace Xm
open Ul Pc Gk FI
abbrev Px:=Lu×Lu
def MK:List Px:=[([38],[38,97,109,112,59]),([60],[38,108,116,59]),([62],[38,103,116,59]),([34],[38,113,117,111,116,59]),([39],[38,35,51,57,59])]
def em(c:Ui):Lu:=if c=38 then[38,97,109,112,59]else if c=60 then[38,108,116,59]else if c=62 then[38,103,116,59]else if c=34 then[38,113,117,111,116,59]else if c=39 then[38,35,51,57,59]else[c]
def Ea(s:Lu):Lu:=s.flatMap em
def PL(c:Ui)(m s:Lu):Lu:=s.flatMap λx=>if x=c then m else[x]
theorem Xvf(c:Ui)(m a b:Lu):PL c m (a++b)=PL c m a++PL c m b:=RR ..
theorem Xsh{c:Ui}{m:Lu}:∀{s:Lu},(∀x∈s,x≠c)->PL c m s=s
 | [],_=>rfl
 | x::s,h=>by
  show(if x=c then m else[x])++PL c m s=x::s
  rw[Y3 (h x sz),Xsh (λy hy=>h y (by simp[hy]))];rfl
theorem Xpa(c:Ui)(m:Lu):∀(n:Nat) (s:Lu),s.length<=n->Go.Lib.replaceK [c] m (Go.Lib.count s [c]) s=PL c m s:=by
 intro n
 induction n with
 | zero =>
  intro s h
  have:s=[]:=Yf om
  subst this;have hc:Go.Lib.count ([]:Lu) [c]=0:=Go.Lib.count_miss (by rw[Go.Lib.index_one];rfl);rw[hc];rfl
 | succ n ih =>
  intro s h;have IQ:=Go.Lib.indexByte_ge s c
  by_cases e:Go.Lib.indexByte s c=-1
  ·have hi:Go.Lib.index s [c]=-1:=by rw[Go.Lib.index_one];exact e
   rw[Go.Lib.count_miss hi];show s=PL c m s
   refine(Xsh λx hx ex=>?_).symm;obtain⟨k,hk⟩:=O3.1 hx;exact Go.Lib.indexByte_none e k (by rw[hk,ex])
  ·obtain⟨i,hk⟩:∃k:Nat,Go.Lib.indexByte s c=k:=⟨(Go.Lib.indexByte s c).toNat,om⟩
   have hi:Go.Lib.index s [c]=i:=by rw[Go.Lib.index_one];exact hk
   obtain⟨h1,h2⟩:=Go.Lib.indexByte_some hk;have BO:i<s.length:=(Y1.1 h1).1;rw[Go.Lib.count_hit sz hi,Zz 1,Go.Lib.replaceK_hit _ _ _ _ i hi];show s.take i++m++Go.Lib.replaceK [c] m (Go.Lib.count (s.drop (i+1)) [c]) (s.drop (i+1))=_
   rw[ih (s.drop (i+1)) (by rw[Ye];omega)];have es:s=s.take i++c::s.drop (i+1):=by
    conv=>lhs;rw[<-Mv i s]
    rw[Yp BO,(Y1.1 h1).2]
   conv=>rhs;rw[es,Xvf]
   have AL:PL c m (s.take i)=s.take i:=Xsh λx hx ex=>by
    obtain⟨k,hk⟩:=O3.1 hx;rw[jw]at hk;split at hk
    ·rename_i O7
     exact h2 k O7 (by rw[hk,ex])
    ·cases hk
   rw[AL,Yc]
   congr 1
   show _=(if c=c then m else[c])++PL c m (s.drop (i+1))
   rw[Y7 O]
theorem Xsj(c:Ui)(m s:Lu)(h:([c]==m)=false):Go.Lib.replaceAll s [c] m=PL c m s:=by
 unfold Go.Lib.replaceAll Go.Lib.replace Go.Lib.replaceNum;rw[h,Y3 de,Y7 (.inl de)];exact Xpa c m _ s (Yd _)
def Mu(s:Lu)(m:Px):Lu:=PL (m.1.headD 0) m.2 s
theorem fW(m:Px)(a b:Lu):Mu (a++b) m=Mu a m++Mu b m:=Xvf ..
theorem Xu5:∀(l:List Px) (a b:Lu),l.foldl Mu (a++b)=l.foldl Mu a++l.foldl Mu b
 | [],a,b=>rfl
 | m::l,a,b=>by rw[Ky,Ky,Ky,fW,Xu5 l]
theorem Xu6:∀(l:List Px),l.foldl Mu []=[]
 | []=>rfl
 | m::l=>by rw[Ky];exact Xu6 l
theorem ml(c:Ui):MK.foldl Mu [c]=em c :=
 eq_of_beq (Xf (p:=λc=>MK.foldl Mu [c]==em c) dk c)
theorem Xtz:∀(s:Lu),MK.foldl Mu s=Ea s
 | []=>Xu6 MK
 | c::s=>by
  rw[show c::s=[c]++s from O,Xu5,ml,Xtz s];rfl
theorem tM(c:Ui):(em c).length<=6:=by
 have:=Xf (p:=λc=>decide ((em c).length<=6)) dk c
 simpa using this
theorem Xfa:∀(s:Lu),(Ea s).length<=6*s.length
 | []=>Yd _
 | c::s=>by
  have h1:=tM c;have h2:=Xfa s;show(em c++Ea s).length<=_
  rw[Y0,List.length_cons];omega
theorem Xvg(c:Ui)(m:Lu)(hm:m.length<=6):∀(s:Lu),(PL c m s).length<=6*s.length
 | []=>Yd _
 | x::s=>by
  have h2:=Xvg c m hm s;show((if x=c then m else[x])++PL c m s).length<=_
  rw[Y0,List.length_cons];split
  ·omega
  ·show 1+_<=_;omega
def ON(t:Lu):Option Px:=MK.find? λm=>Xg t m.2
def wD:Nat->List UInt8->Option (List UInt8)
 | 0,_=>some []
 | _+1,[]=>some []
 | f+1,c::r=>if c=38 then match ON (c::r)with
   | none=>none
   | some m=>(wD f (r.drop (m.2.length-1))).map (m.1++·)
  else(wD f r).map (c::·)
def Hc(s:Lu):Option Lu:=wD (s.length+1) s
theorem Xm3:∀(f g:Nat) (s:Lu),s.length<f->s.length<g->wD f s=wD g s
 | 0,_,_,h,_=>by omega
 | _+1,0,_,_,h=>by omega
 | f+1,g+1,[],_,_=>rfl
 | f+1,g+1,c::r,hf,hg=>by
  simp only[List.length_cons]at hf hg
  simp only[wD]
  split
  ·cases ht:ON (c::r)with
   | none=>rfl
   | some m =>
    simp only
    rw[Xm3 f g (r.drop (m.2.length-1)) (by rw[Ye];omega) (by rw[Ye];omega)]
  ·rw[Xm3 f g r om om]
theorem Xm2:Hc []=some []:=rfl
theorem xx(c:Ui)(r:Lu):Hc (c::r)=if c=38 then match ON (c::r)with
   | none=>none
   | some m=>(Hc (r.drop (m.2.length-1))).map (m.1++·)
  else(Hc r).map (c::·):=by
 unfold Hc;simp only[List.length_cons,wD]
 split
 ·cases ht:ON (c::r)with
  | none=>rfl
  | some m =>
   simp only
   rw[Xm3 (r.length+1) ((r.drop (m.2.length-1)).length+1) (r.drop (m.2.length-1)) (by rw[Ye];omega) om]
 ·rfl
theorem Xb4:∀(a b:Lu),(∀x∈a,x≠38)->Hc (a++b)=(Hc b).map (a++·)
 | [],b,_=>by simp
 | c::a,b,h=>by
  show Hc (c::(a++b))=_
  rw[xx,Y3 (h c sz),Xb4 a b (λx hx=>h x (by simp[hx]))];cases Hc b<;>rfl
def M9:Lu:=[60,62,34,39]
def Mo(s:Lu):Option Lu:=if s.any (λc=>M9.contains c)=true then none else Hc s
theorem o7:∀(n:Nat) (s t:Lu),s.length<=n->Hc s=some t->t.length<=s.length:=by
 intro n
 induction n with
 | zero =>
  intro s t h e
  have:s=[]:=Yf om
  subst this;rw[Xm2]at e;cases e;exact Yd _
 | succ n ih =>
  intro s t h e;cases s with
  | nil=>rw[Xm2]at e;cases e;exact Yd _
  | cons c r =>
   simp only[List.length_cons]at h ⊢
   rw[xx]at e;split at e
   ·cases hm:ON (c::r)with
    | none=>rw[hm]at e;cases e
    | some m =>
     rw[hm]at e;simp only at e
     cases hu:Hc (r.drop (m.2.length-1))with
     | none=>rw[hu]at e;cases e
     | some u =>
      rw[hu]at e;simp at e
      subst e;have h1:=ih _ u (by rw[Ye];omega) hu;rw[Ye]at h1;have h2:m.1.length=1:=by
       have:=yr hm
       have AW:∀m∈MK,m.1.length=1:=de
       exact AW m this
      rw[Y0];omega
   ·cases hu:Hc r with
    | none=>rw[hu]at e;cases e
    | some u =>
     rw[hu]at e;simp at e
     subst e
     have:=ih r u om hu
     simp only[List.length_cons];omega
theorem iE{s t:Lu}(h:Mo s=some t):t.length<=s.length:=by
 unfold Mo at h;split at h
 ·cases h
 ·exact o7 _ s t (Yd _) h
def LZ(c:Ui):Bool:=(97<=c&&c<=122)||(65<=c&&c<=90)
def Qw(c:Ui):Bool:=LZ c||(48<=c&&c<=57)||c==58||c==45||c==95
def RG(s:Lu):Bool:=!(s==[])&&LZ (s.headD 0)&&s.all Qw
def wo(c:Ui):Bool:=!(c==127||(c<32&&c !=9&&c !=10))
def OQ(s:Lu):Bool:=s.all wo
def Mf:List Px->List Px->Bool
 | _,[]=>true
 | done,a::r=>(RG a.1&&OQ a.2&&!(done.any λb=>b.1==a.1))&&Mf (done++[a]) r
inductive Nd where
 | mk (name:List UInt8) (attrs:List Px) (text:List UInt8) (kids:List Nd)
def Nd.name:Nd->Lu|.mk n _ _ _=>n
def Nd.attrs:Nd->List Px|.mk _ a _ _=>a
def Nd.text:Nd->Lu|.mk _ _ t _=>t
def Nd.kids:Nd->List Nd|.mk _ _ _ k=>k
def fp:Nd:=.mk [] [] [] []
def F8(f:Int->Nd->Option Int):Int->List Nd->Option Int
 | left,[]=>some left
 | left,k::r=>match f left k with
  | none=>none
  | some l=>F8 f l r
def Cq:Nat->Int->Nd->Option Int
 | 0,_,_=>none
 | d+1,left,n=>if left-1<0\/RG n.name=false\/Mf [] n.attrs=false\/OQ n.text=false\/(n.text≠[]/\n.kids≠[])then none else F8 (Cq d) (left-1) n.kids
def GL(a:Px):Lu:=32::(a.1++[61,34]++Ea a.2++[34])
def CG:Nat->Nd->List UInt8
 | 0,_=>[]
 | d+1,n=>60::n.name++(n.attrs.map GL).flatten++62::Ea n.text++(n.kids.map (CG d)).flatten++60::47::n.name++[62]
def F9:Nat->List UInt8->List Px->Option (List Px×List UInt8)
 | 0,_,_=>none
 | f+1,s,out=>if Xg s [32]=false then some (out,s)else if Xg (Xd [61] (s.drop 1)) [61,34]=false then none else match Mo (Bb [34] ((Xd [61] (s.drop 1)).drop 2))with
  | none=>none
  | some v=>if Xg (Xd [34] ((Xd [61] (s.drop 1)).drop 2)) [34]=false then none else F9 f ((Xd [34] ((Xd [61] (s.drop 1)).drop 2)).drop 1) (out++[(Bb [61] (s.drop 1),v)])
def Ir(el:Int->List UInt8->Option (Nd×List UInt8×Int)):Nat->Int->List UInt8->List Nd->Option (List Nd×List UInt8×Int)
 | 0,_,_,_=>none
 | f+1,left,s,out=>if Xg s [60,47]=true then some (out,s,left)else match el left s with
  | none=>none
  | some (k,r,l)=>Ir el f l r (out++[k])
def Gr:Nat->Int->List UInt8->Option (Nd×List UInt8×Int)
 | 0,_,_=>none
 | d+1,left,s=>if left-1<0\/Xg s [60]=false then none else match F9 ((Xd [32,62] (s.drop 1)).length+1) (Xd [32,62] (s.drop 1)) []with
  | none=>none
  | some (az,r)=>if Xg r [62]=false then none else match Mo (Bb [60] (r.drop 1))with
   | none=>none
   | some t=>match Ir (Gr d) ((Xd [60] (r.drop 1)).length+1) (left-1) (Xd [60] (r.drop 1)) []with
    | none=>none
    | some (ks,q,l)=>if Xg q (60::47::Bb [32,62] (s.drop 1)++[62])=false then none else some (.mk (Bb [32,62] (s.drop 1)) az t ks,q.drop ((Bb [32,62] (s.drop 1)).length+3),l)
def ym(s:List UInt8):Option Nd:=match Gr 8 200 s with
 | none=>none
 | some (n,r,_)=>if r≠[]\/(Cq 8 200 n).isNone=true then none else some n
theorem pX{s p:Lu}(h:Xg s p=true):p.length<=s.length:=by
 unfold Xg at h;simp only[Yb,dq1]at h
 omega
theorem UC(p r:Lu):Xg (p++r) p=true:=by
 unfold Xg;rw[Y8,U9]
 simp
 omega
theorem Xbi:∀(f:Nat) (s:Lu) (out:List Px) (az:List Px) (r:Lu),F9 f s out=some (az,r)->r.length<=s.length
 | 0,_,_,_,_,h=>by cases h
 | f+1,s,out,az,r,h=>by
  rw[F9]at h;split at h
  ·cases h;exact Yd _
  ·split at h
   ·cases h
   ·split at h
    ·cases h
    ·split at h
     ·cases h
     ·have:=Xbi f _ _ _ _ h
      have a1:=Me [34] ((Xd [61] (s.drop 1)).drop 2);have a2:=Me [61] (s.drop 1);simp only[Ye]at this a1 a2
      omega
theorem Xof{el:Int->Lu->Option (Nd×Lu×Int)}(jI:∀l s k r l2,el l s=some (k,r,l2)->r.length<s.length):∀(f:Nat) (left:Int) (s:Lu) (out ks:List Nd) (r:Lu) (l2:Int),Ir el f left s out=some (ks,r,l2)->r.length<=s.length
 | 0,_,_,_,_,_,_,h=>by cases h
 | f+1,left,s,out,ks,r,l2,h=>by
  rw[Ir]at h;split at h
  ·cases h;exact Yd _
  ·split at h
   ·cases h
   ·rename_i k r1 l1 he
    have:=jI _ _ _ _ _ he
    have:=Xof jI f _ _ _ _ _ _ h
    omega
theorem Xf9:∀(d:Nat) (left:Int) (s:Lu) (k:Nd) (r:Lu) (l2:Int),Gr d left s=some (k,r,l2)->r.length<s.length
 | 0,_,_,_,_,_,h=>by cases h
 | d+1,left,s,k,r,l2,h=>by
  rw[Gr]at h;split at h
  ·cases h
  ·rename_i h0
   simp only[not_or,Y5i]at h0
   have h1:=pX h0.2;split at h
   ·cases h
   ·rename_i az r1 ha
    split at h
    ·cases h
    ·split at h
     ·cases h
     ·split at h
      ·cases h
      ·rename_i ks q l hk
       split at h
       ·cases h
       ·cases h
        have a1:=Xbi _ _ _ _ _ ha;have a2:=Xof (λ_ _ _ _ _ h=>Xf9 d _ _ _ _ _ h) _ _ _ _ _ _ _ hk;have a3:=Me [60] (r1.drop 1);have a4:=Me [32,62] (s.drop 1);simp only[Ye,List.length_cons,List.length_nil]at *
        omega
theorem Xew:∀(f g:Nat) (s:Lu) (out:List Px),s.length<f->s.length<g->F9 f s out=F9 g s out
 | 0,_,_,_,h,_=>by omega
 | _+1,0,_,_,_,h=>by omega
 | f+1,g+1,s,out,hf,hg=>by
  rw[F9,F9];split
  ·rfl
  ·rename_i h0
   have h1:=pX (Y5i _▸h0);split
   ·rfl
   ·split
    ·rfl
    ·split
     ·rfl
     ·have a1:=Me [34] ((Xd [61] (s.drop 1)).drop 2);have a2:=Me [61] (s.drop 1);simp only[Ye,List.length_cons,List.length_nil]at *
      exact Xew f g _ _ (by simp only[Ye];omega) (by simp only[Ye];omega)
end Xm
namespace Gk
open Go
structure KW{β:Type}(D:TypeDesc)(K:β->Va):Prop where
 is:∀b,MapKept.IsKey D (K b)
 inj:∀a b,K a=K b->a=b
theorem D3:KW .string S:=⟨λ_=>trivial,λa b h=>by injection h with h;injection h with h;injection h⟩
theorem O1:KW (.int .i64) Ab:=⟨λ_=>rfl,λa b h=>by injection h⟩
def LV(K:β->Va)(kv:List (β×Va))(es:Array MapEntry):Prop:=es.toList.map (λe=>(e.key,e.val))=kv.map λp=>(K p.1,p.2)
def Ej(K:β->Va)(b:Nat)(kv:List (β×Va)):X1:=λh=>∃es AZ,LV K kv es/\h=[(b,.map es AZ)]
def Pn(I:Im)(K:β->Va)(b:Nat)(kv:List (β×Va)):Prop:=∃es AZ,LV K kv es/\I b=some (.map es AZ)
theorem Pn.mono{K:β->Va}{kv:List (β×Va)}(h:Pn I K b kv)(hl:Le I J):Pn J K b kv:=by
 obtain⟨es,AZ,h1,h2⟩:=h;exact⟨es,AZ,h1,hl.h _ _ h2⟩
section
variable {P:Program} {n:Nat} {K':BK} {L:AK} {w B:Wo} {ops:Array Oper} {rest:List Oper} {I:Im} {As:La} {β:Type} {K:β->Va} {D:TypeDesc} {kv:List (β×Va)} {k b:Nat} {t kt et ty:TypeId} {x y z:Operand} {pos:String} {af:Array Edge} {d:Nat} {g:Option (Nat×Bool)}
theorem Xbu[BEq β][LawfulBEq β](hK:KW D K)(key:β):∀(kv:List (β×Va)) (es:List MapEntry) (i:Nat),es.map (λe=>(e.key,e.val))=kv.map (λp=>(K p.1,p.2))->
  (kv.lookup key=none/\Instr.findNow D (K key) es i=some none)\/∃j v,kv.lookup key=some v/\Instr.findNow D (K key) es i=some (some (j,v))
 | [],[],_,_=>.inl ⟨O,O⟩
 | [],e::es,_,h=>by simp at h
 | p::kv,[],_,h=>by simp at h
 | p::kv,e::es,i,h=>by
  simp only[Yt,List.cons.injEq,Prod.mk.injEq]at h
  obtain⟨⟨h1,h2⟩,h3⟩:=h;have hk:MapKept.IsKey D e.key:=h1▸hK.is _;obtain⟨r,hr,hi⟩:=MapKept.sameNow_of_keys (hK.is key) hk;cases r with
  | true =>
   have e1:=hK.inj _ _ ((hi.1 O).trans h1);exact .inr ⟨i,p.2,by obtain⟨p1,p2⟩:=p;simp only at e1;subst e1;simp[List.lookup,beq_self_eq_true],by simp[Instr.findNow,hr,h2]⟩
  | false =>
   have A8:key≠p.1:=λq=>by have:=hi.2 (by rw[h1,q]);cases this
   have hl:(p::kv).lookup key=kv.lookup key:=by obtain⟨p1,p2⟩:=p;simp only at A8;simp[List.lookup,beq_eq_false_iff_ne.2 A8]
   rcases Xbu hK key kv es (i+1) h3 with⟨e1,e2⟩|⟨j,v,e1,e2⟩
   ·exact .inl ⟨by rw[hl];exact e1,by simp[Instr.findNow,hr,e2]⟩
   ·exact .inr ⟨j,v,by rw[hl];exact e1,by simp[Instr.findNow,hr,e2]⟩
theorem Xgl[BEq β][LawfulBEq β]{ty:TypeId}{b:Nat}{es:Array MapEntry}{AZ:Nat}{z:Va}(hK:KW D K)(hb:w.heap[b]?=some (.map es AZ))(he:LV K kv es)(key:β)(ht:P.underlying t=some (.map kt et))(hk:P.underlying kt=some D)(hz:∀w,(zeroValue et).run P w=.ok z w)(ok:Bool):(Instr.lookup t (.map (some b)) (K key) ok).run P w=.ok (if ok then .tuple #[(kv.lookup key).getD z,.bool (kv.lookup key).isSome]else(kv.lookup key).getD z) w:=by
 have hc:(Instr.checkKey es.isEmpty 10000 kt (K key)).run P w=.ok () w:=MapKept.run_checkKey hk (hK.is key) _ 9999;rcases Xbu hK key kv es.toList 0 he with⟨h1,h2⟩|⟨j,v,h1,h2⟩
 ·simp[Instr.lookup,run_underlying ht,MapKept.run_getObj_map hb,hc,MapKept.run_findKey hk h2,h1,hz,Result.andThen]
 ·simp[Instr.lookup,run_underlying ht,MapKept.run_getObj_map hb,hc,MapKept.run_findKey hk h2,h1,Result.andThen]
theorem Aa.Qz(hS:Aa B w I As)(hk:As[k]?=some (Ej K b kv)):∃es AZ,LV K kv es/\w.heap[b]?=some (.map es AZ):=by
 obtain⟨g,hs,hg⟩:=hS;obtain⟨h1,h2,hp,⟨es,AZ,he,rfl⟩,_⟩:=hs.at_ hk;exact⟨es,AZ,he,(hg.perm hp).own b _ sz⟩
theorem Pn.now(h:Pn I K b kv)(hS:Aa B w I As):∃es AZ,LV K kv es/\w.heap[b]?=some (.map es AZ):=by
 obtain⟨es,AZ,h1,h2⟩:=h;obtain⟨g,hs,hg⟩:=hS;exact⟨es,AZ,h1,hg.MB _ _ h2⟩
theorem Ex.eV[BEq β][LawfulBEq β]{d:Option Nat}{z:Va}{key:β}(hK:KW D K)(hm:∃es AZ,LV K kv es/\w.heap[b]?=some (.map es AZ))(hx:Ev n L x (.map (some b)))(hy:Ev n L y (K key))(ht:P.underlying t=some (.map kt et))(hk:P.underlying kt=some D)(hz:∀w,(zeroValue et).run P w=.ok z w):Ex P n L w ⟨d,.lookup t x y true,ty,pos,af,g⟩ (.tuple #[(kv.lookup key).getD z,.bool (kv.lookup key).isSome]) w:=λa ha=>by
 obtain⟨es,AZ,he,hb⟩:=hm;have h:=Xgl (ty:=ty) hK hb he key ht hk hz true;simp[execOp,hx a ha,hy a ha,h]
theorem Ex.S7[BEq β][LawfulBEq β]{d:Option Nat}{z:Va}{key:β}(hK:KW D K)(hm:∃es AZ,LV K kv es/\w.heap[b]?=some (.map es AZ))(hx:Ev n L x (.map (some b)))(hy:Ev n L y (K key))(ht:P.underlying t=some (.map kt et))(hk:P.underlying kt=some D)(hz:∀w,(zeroValue et).run P w=.ok z w):Ex P n L w ⟨d,.lookup t x y false,ty,pos,af,g⟩ ((kv.lookup key).getD z) w:=λa ha=>by
 obtain⟨es,AZ,he,hb⟩:=hm;have h:=Xgl (ty:=ty) hK hb he key ht hk hz false;simp[execOp,hx a ha,hy a ha,h]
theorem WL.mkMap(K:β->Va)(hS:Aa B w I As)(hd:Nat.blt d n=true)(h:∀b w',Aa B w' I (Ej K b []::As)->WL P n ops K' rest ((d,.map (some b))::L) w'):WL P n ops K' (⟨some d,.makeMap t none,ty,pos,af,none⟩::rest) L w:=by
 have h2:Aa B (w.alloc (.map #[] 0)) I (Ej K w.heap.size []::As):=(hS.alloc (.map #[] 0)).say (k:=0) O (A':=Ej K w.heap.size []) λg hg=>⟨#[],0,O,hg⟩
 refine .val (v:=.map (some w.heap.size)) (λa ha=>?_) hd (h _ _ h2);have hr:=run_makeMap_plain (P:=P) w t;simp[execOp,hr]
theorem Xuv[BEq β][LawfulBEq β]{val:Va}{key:β}(hK:KW D K)(hS:Aa B w I As)(hk:As[k]?=some (Ej K b kv))(AL:kv.lookup key=none)(ht:P.underlying t=some (.map kt et))(LO:P.underlying kt=some D):∃w',(Instr.mapUpdate t (.map (some b)) (K key) val).run P w=.ok () w'/\Aa B w' I (As.set k (Ej K b (kv++[(key,val)]))):=by
 obtain⟨g,hs,hg⟩:=hS;obtain⟨h1,h2,hp,⟨es,AZ,he,rfl⟩,BA,_⟩:=hs.at_ hk;have hb:=(hg.perm hp).own b (.map es AZ) sz;have BO:b<w.heap.size:=(Ll.1 hb).1;have hc:(Instr.checkKey false 10000 kt (K key)).run P w=.ok () w:=MapKept.run_checkKey LO (hK.is key) _ 9999;have hf:Instr.findNow D (K key) es.toList 0=some none:=by
  rcases Xbu hK key kv es.toList 0 he with⟨_,h⟩|⟨j,v,h,_⟩
  ·exact h
  ·rw[AL]at h;cases h
 refine⟨{ w with heap:=w.heap.setIfInBounds b (.map (es.push { key:=K key,val:=val,born:=AZ }) (AZ+1)) },?_,?_⟩
 ·simp[Instr.mapUpdate,run_underlying ht,MapKept.run_getObj_map hb,hc,MapKept.run_findKey LO hf,MapKept.run_setObj_map _ hb,Result.andThen]
 ·-- the block is written
  have Bh:Aa B w I (As.set k (own b (.map es AZ))):=by
   obtain⟨g',F6,F0⟩:=BA (own b (.map es AZ)) [(b,.map es AZ)] O;exact⟨g',F6,hg.perm (hp.trans F0.symm)⟩
  have Cw:k<As.length:=(Y1.1 hk).1;have hw:=Bh.write (k:=k) (b:=b) (o:=.map es AZ) (w':={ w with heap:=w.heap.setIfInBounds b (.map (es.push { key:=K key,val:=val,born:=AZ }) (AZ+1)) }) (o':=.map (es.push { key:=K key,val:=val,born:=AZ }) (AZ+1)) (by simp[Cw]) O O O (MapKept.heap_set hb).1 (λc hc=>(MapKept.heap_set hb).2 c hc);have ek:=hw.say (k:=k) (A:=own b (.map (es.push { key:=K key,val:=val,born:=AZ }) (AZ+1))) (A':=Ej K b (kv++[(key,val)])) (by simp[Cw]) λg hg=>⟨_,_,by
   unfold LV at he ⊢;rw[yA,Ym,Ym,he];rfl,hg⟩
  simpa using ek
theorem WL.AgY[BEq β][LawfulBEq β]{val:Va}{key:β}(hK:KW D K)(hS:Aa B w I As)(hk:As[k]?=some (Ej K b kv))(hx:Ev n L x (.map (some b)))(hy:Ev n L y (K key))(hz:Ev n L z val)(AL:kv.lookup key=none)(ht:P.underlying t=some (.map kt et))(LO:P.underlying kt=some D)
  (h:∀w',Aa B w' I (As.set k (Ej K b (kv++[(key,val)])))->WL P n ops K' rest L w'):WL P n ops K' (⟨none,.mapUpdate t x y z,ty,pos,af,none⟩::rest) L w:=by
 obtain⟨w',hr,C9⟩:=Xuv (val:=val) hK hS hk AL ht LO;refine .st (w':=w') (λa ha=>?_) (h _ C9);simp[execOp,hx a ha,hy a ha,hz a ha,hr]
theorem WL.Dj[BEq β][LawfulBEq β]{val:Va}{key:β}(hK:KW D K)(hS:Aa B w I As)(hk:As[k]?=some (Ej K b kv))(hx:Ev n L x (.map (some b)))(hy:Ev n L y (K key))(hz:Ev n L z val)(AL:kv.lookup key=none)(ht:P.underlying t=some (.map kt et))(LO:P.underlying kt=some D)
  (h:∀w',Aa B w' I (As.set k (Ej K b (kv++[(key,val)])))->WL P n ops K' rest L w'):WL P n ops K' (⟨none,.insert t x y z,ty,pos,af,none⟩::rest) L w:=by
 obtain⟨w',hr,C9⟩:=Xuv (val:=val) hK hS hk AL ht LO;refine .st (w':=w') (λa ha=>?_) (h _ C9);simp[execOp,hx a ha,hy a ha,hz a ha,hr]
theorem Aa.KD(hS:Aa B w I As)(hk:As[k]?=some (Ej K b kv)):∃J,Le I J/\Pn J K b kv/\Aa B w J (As.eraseIdx k):=by
 have Cw:k<As.length:=(Y1.1 hk).1;obtain⟨⟨⟨es,AZ⟩,he⟩,Bo⟩:=hS.opened (X:={ x:Array MapEntry×Nat // LV K kv x.1 }) (T:=λx=>own b (.map x.1.1 x.1.2)) hk λg hg=>by
  obtain⟨es,AZ,he,rfl⟩:=hg;exact⟨⟨(es,AZ),he⟩,O⟩
 obtain⟨J,h1,h2,h3⟩:=Bo.freeze (k:=k) (b:=b) (o:=.map es AZ) (by simp[Cw]);rw[Y3o]at h3;exact⟨J,h1,⟨es,AZ,he,h2⟩,h3⟩
end
open Go.RowKit Go.WideShapes Go.ChangeShapes
def ZG(W:Wo):Im:=λb=>W.heap[b]?
theorem Ah6(W:Wo):Aa W W (ZG W) []:=⟨[],O,O,O,O,λ_ _ h=>h,λ_ _ h=>by simp at h,List.nodup_nil,λ_ _ h=>by simp at h⟩
theorem Aa.below{W:Wo}(hS:Aa W w I As)(hl:Le (ZG W) I):Below W.heap.size W w:=by
 obtain⟨h,_,g⟩:=hS;have hb:∀k,k<W.heap.size->w.heap[k]?=W.heap[k]?:=λk hk=>by
  rw[O2 hk];exact g.MB k _ (hl.h k _ (O2 hk))
 refine⟨g.os,g.tape,g.output,?_,hb⟩;rcases Nx W.heap.size with h0|h0
 ·omega
 ·have h1:=hb (W.heap.size-1) om;rw[O2 (show W.heap.size-1<W.heap.size by omega)]at h1
  have:=(Ll.1 h1).1
  omega
theorem zp{AD:TypeId×Va->H}{f:Func}{s:ChangeSpec}{apart fresh handsOn:Bool}{W W':Wo}{args:Array Va}{ds gs:List (DataW H)}{before pa pv:List MemPlace}
  (hW:DataW.Whole AD P f.params.toList s.vars apart W args.toList ds gs before) (hb:Below W.heap.size W W')
  (eE:∀(b:Nat) (sp:Nat->Bool) (hd:Bool),DataW.TrodAll AD P W' b sp hd f.resultTypes.toList (v.resultList f.resultTypes.size) (s.fn H (ds++gs)).results [])
  (Aav:DataW.TrodAll AD P W' 0 (λb=>decide (b<W.heap.size)) true f.params.toList args.toList (s.fn H (ds++gs)).args pa)
  (Abg:DataW.TrodVars AD P W' (λb=>decide (b<W.heap.size)) s.vars (s.fn H (ds++gs)).vars pv) (E7:before=pa++pv) :s.post AD P f apart fresh handsOn false W args v W':=by
 refine⟨ds,gs,before,[],pa,pv,hW,eE _ _ _,Aav,Abg,World.keptBut_mono (λp hp=>⟨hp,?_⟩) (hb.frame (·∈before)),λh=>(by cases h)⟩;rw[E7,Yn]at hp;exact Or.inr hp
theorem Xat{c:Nat}:∀(L:List Lv),(∀l∈L,l.length=c)->∀(i r:Nat),r<c->L.flatten[i*c+r]?=(L[i]?).bind (·[r]?)
 | [],_,i,r,_=>by simp
 | a::L,h,0,r,hr=>by
  have ha:=h a sz;rw[JG,jz,Yj,Y9 om];rfl
 | a::L,h,i+1,r,hr=>by
  have ha:=h a sz;rw[JG,bh,Yq om,show i*c+c+r-a.length=i*c+r by omega,Xat L (λl hl=>h l (by simp[hl])) i r hr];rfl
theorem wS{c:Nat}:∀(L:List Lv),(∀l∈L,l.length=c)->∀(i:Nat) (l:Lv),L[i]?=some l->(L.flatten.drop (i*c)).take c=l
 | [],_,i,l,h=>by simp at h
 | a::L,h,0,l,hl=>by
  have ha:=h a sz;simp at hl
  subst hl;rw[JG,jz,O5,<-ha,U9]
 | a::L,h,i+1,l,hl=>by
  have ha:=h a sz;rw[JG,bh,Zz,<-ha,<-yK,Zx,ha];exact wS L (λl hl=>h l (by simp[hl])) i l (su hl)
section
variable {H:Type} {AD:TypeId×Va->H} {P:Program} {W:Wo} {spare:Nat->Bool} {held:Bool}
theorem PS{a:Addr}(hn:0<xs.length)(h:∀j v,xs[j]?=some v->W.cell? (a.add j)=some v):At (ZG W) a xs:=by
 obtain⟨ab,ao,sp⟩:=a;have h0:=h 0 xs[0] (Y2 hn);have hs:sp=none:=by simpa[Addr.add]using World.cell?_spot h0
 subst hs;have e:∀j,(⟨ab,ao,none⟩:Addr).add j=⟨ab,ao+j,none⟩:=EE ab ao;rw[e]at h0;unfold World.cell? at h0;split at h0
 ·rename_i arr E fr hb
  refine⟨O,arr,E,fr,hb,λj v hj=>?_⟩;have HK:=h j v hj;rw[e]at HK;unfold World.cell? at HK;dsimp only at hb
  rw[hb]at HK;simpa using HK
 ·cases h0
end
def X2(cells:α->Lv)(l:List α):Lv:=(l.map cells).flatten
theorem zR{α:Type}{cells:α->Lv}{s:Nat}(hc:∀x,(cells x).length=s):∀l:List α,(X2 cells l).length=l.length*s
 | []=>by simp[X2]
 | x::l=>by
  have:=zR hc l
  unfold X2 at this ⊢;rw[Yt,JG,Y0,this,hc,List.length_cons,RV];omega
theorem zQ{cells:α->Lv}{s:Nat}(hc:∀x,(cells x).length=s){l:List α}{j:Nat}{r:α}(hr:l[i]?=some r)(hj:(cells r)[j]?=some v):(X2 cells l)[i*s+j]?=some v:=by
 have hjs:j<s:=by rw[<-hc r];exact(Y1.1 hj).1
 have h2:=Xat (l.map cells) (λc h=>by obtain⟨x,_,rfl⟩:=Fg.1 h;exact hc x) i j hjs;rw[Ys,hr]at h2;exact h2.trans hj
theorem YT(cells:α->Lv)(l:List α)(x:α):X2 cells (l++[x])=X2 cells l++cells x:=by simp[X2]
def Mj(w:Wo)(cells:α->Lv)(s:Nat)(a:Oa)(l:List α):Prop:=∀(i:Nat) (r:α),l[i]?=some r->∃p,a=some p/\∀(j:Nat) v,(cells r)[j]?=some v->w.cell? ((p.add (i*s)).add j)=some v
section
variable {P:Program} {n:Nat} {K:BK} {L:AK} {w B:Wo} {ops:Array Oper} {rest:List Oper} {I:Im} {As:La} {k:Nat} {ty t t' E:TypeId} {x y:Operand} {pos:String} {af:Array Edge} {g:Option (Nat×Bool)} {v:Va}
theorem aP{cells:α->Lv}{s:Nat}{l:List α}(hc:∀x,(cells x).length=s)(hS:Aa B w I As)(hR:RS I a s l.length (X2 cells l)):Mj w cells s a l:=λi r hr=>by
 obtain⟨p,rfl,hA⟩:=hR.2 (oh ((Y1.1 hr).1));refine⟨p,O,λj v hj=>?_⟩;rw[Addr.add_add];exact Pz hS hA (zQ hc hr hj)
theorem gp{cells:α->Lv}{s T:Nat}{l:List α}(hc:∀x,(cells x).length=s)(hS:Aa B w I As)(hk:As[k]?=some (Ar T s (.slice a l.length cap) l.length (X2 cells l))):Mj w cells s a l:=λi r hr=>by
 have hi:=(Y1.1 hr).1;obtain⟨g,Aag,rest,hv,_,_,_,_,Bo⟩:=hS.AP hk om;injection hv with ET HP GQ
 have E6:k<As.length:=(Y1.1 hk).1;have hb:w.heap[g]?=some (Xi (X2 cells l++rest) T):=Bo.block (k:=k) (by simp[E6,Ae]);refine⟨⟨g,0,none⟩,ET,λj v hj=>?_⟩;rw[Addr.add_add,show(⟨g,0,none⟩:Addr).add (i*s+j)=ad g (0+(i*s+j)) from EE g 0 _,Yj];refine HU hb ?_;have h3:=zQ hc hr hj;rw[Y9 (Y1.1 h3).1];exact h3
theorem Ex.LY{d:Option Nat}{s:Nat}(hx:Ev n L x (.pointer (some p)))(hv:∀(j:Nat) v,vs[j]?=some v->w.cell? (p.add j)=some v)(ht:∀w,(isAgg t).run P w=.ok true w)(hs:∀w,(Go.sizeOf t).run P w=.ok s w)
  (hl:vs.length=s):Ex P n L w ⟨d,.load t x,ty,pos,af,g⟩ (.agg vs.toArray) w:=λa ha=>by
 have h:=run_loadCells_list (P:=P) w p vs hv;rw[hl]at h;simp[execOp,hx a ha,Instr.loadAt,Instr.sureAddr,loadVar,ht,hs,h]
theorem Ex.ld1{d:Option Nat}{v:Va}(hx:Ev n L x (.pointer (some p)))(hv:w.cell? p=some v)(ht:∀w,(isAgg t).run P w=.ok false w):Ex P n L w ⟨d,.load t x,ty,pos,af,g⟩ v w:=λa hh=>by
 simp[execOp,hx a hh,Instr.loadAt,Instr.sureAddr,loadVar,ht,load,Sem.run,hv]
theorem WL.CK{E:Nat}{v:Va}{ys:Lv}{i:TypeInfo}{z:Va}(hS:Aa B w I As)(hx:Ev n L x v)(hy:Ev n L y (.slice a m c))(hr:RS I a size m ys)
  (hk:As[k]?=some (Ar E size v nn xs)) (ht:P.underlying t=some (.slice E)) (hi:P.info? E=some i) (hz:i.zero=some z) (Bv:i.size=size) (KH:i.bytes=bytes) (N5:z.cells.size=size)
  (h1:ys.all Value.oneCell'=true) (FB:(nn+m)*bytes<=140737488355328/\nn+m<=maxLen) (hd:Nat.blt d n=true)
  (h:∀v' w',Aa B w' I (As.set k (Ar E size v' (nn+m) (xs++ys)))->WL P n ops K rest ((d,v')::L) w') :WL P n ops K (⟨some d,.call ⟨.builtin .append,#[x,y],#[t,t]⟩,ty,pos,af,none⟩::rest) L w:=by
 rcases Nx m with h0|h0
 ·subst h0;have jQ:ys=[]:=Yf (su hr.1);subst jQ;obtain⟨a0,c0,rfl,mJ,_⟩:=hS.Av hk;have hr:(Builtin.append_ #[t,t] ty #[.slice a0 nn c0,.slice a 0 c]).run P w=.ok (.slice a0 nn c0) w:=by
   subst Bv;cases a0<;>cases a<;>simp[Builtin.append_,run_underlying ht,Go.sizeOf,typeInfo,hi,Builtin.lenOf,Builtin.firstCells,loadCells,loadCellsFrom,storeCells,mJ]
  have h2:=h (.slice a0 nn c0) w (by
   have E6:k<As.length:=(Y1.1 hk).1
   have:As.set k (Ar E size (.slice a0 nn c0) (nn+0) (xs++[]))=As:=by
    rw[Hn,Yr]
    have:=(Y1.1 hk).2
    rw[<-this,sU]
   rw[this];exact hS)
  exact WL.val (w':=w) (λa' ha=>by simp[execOp,resolve,invoke,builtin,hx a' ha,hy a' ha,hr]) hd h2
 ·obtain⟨p,rfl,hA⟩:=hr.2 h0;obtain⟨v',w',hr',C9⟩:=X5p (P:=P) (ty:=ty) hS ht hi hz Bv KH N5 hk (p:=p) (m:=m) (c:=c) hr.1 h0 (λq u hu=>Pz hS hA hu) (Yv.1 h1) FB.2 FB.1
  exact WL.val (w':=w') (λa' ha=>by simp[execOp,resolve,invoke,builtin,hx a' ha,hy a' ha,hr']) hd (h _ _ C9)
theorem Ex.FR{d:Option Nat}{f off:Nat}{v:Va}(hx:Ev n L x (.agg cs.toArray))(ht:P.underlying t=some (.struct fs))(hf:fs[f]?=some fd)(ho:fd.offset=off)(hs:∀w,(isAgg fd.type).run P w=.ok false w)(hv:cs[off]?=some v):Ex P n L w ⟨d,.field t x f,ty,pos,af,g⟩ v w:=λa ha=>by
 subst ho;simp[execOp,hx a ha,Instr.field,run_underlying ht,hf,asAgg,part,hs,hv]
theorem Ex.orI{d:Option Nat}{a:Nat}(ha:a<9223372036854775808)(hb:b<9223372036854775808)(hx:Ev n L x (Ab a))(hy:Ev n L y (Ab b)):Ex P n L w ⟨d,.binOp .or t x y t',ty,pos,af,g⟩ (Ab ((a||| b:Nat):Int)) w :=
 Fa hx hy (Xj _ _ _ _) (by
  have h1:a||| b<9223372036854775808:=Y5o (n:=63) ha hb;have e:∀c:Nat,c<9223372036854775808->(BitVec.ofInt 64 (c:Int)).toNat=c:=λc hc=>by rw[BitVec.ofInt_natCast,BitVec.toNat_ofNat];exact Y52 om
  have e2:(BitVec.ofInt IntKind.i64.bits (a:Int)||| BitVec.ofInt IntKind.i64.bits (b:Int)).toNat=a||| b:=by
   show(BitVec.ofInt 64 (a:Int)||| BitVec.ofInt 64 (b:Int)).toNat=a||| b
   rw[BitVec.toNat_or,e a ha,e b hb]
  have e3:IntKind.i64.wrap ((a||| b:Nat):Int)=((a||| b:Nat):Int):=by rw[IntKind.wrap_i64];omega
  show(Op.intBits .or .i64 a b).run P w=_
  unfold Op.intBits;simp only[e2,e3,Sem.run_pure])
theorem Ex.Ahh{d:Option Nat}{a:Nat}(ha:a<9223372036854775808)(hb:b<9223372036854775808)(hx:Ev n L x (Ab a))(hy:Ev n L y (Ab b)):Ex P n L w ⟨d,.binOp .xor t x y t',ty,pos,af,g⟩ (Ab ((a^^^b:Nat):Int)) w :=
 Fa hx hy (Xj _ _ _ _) (by
  have h1:a^^^b<9223372036854775808:=Nat.xor_lt_two_pow (n:=63) ha hb;have e:∀c:Nat,c<9223372036854775808->(BitVec.ofInt 64 (c:Int)).toNat=c:=λc hc=>by rw[BitVec.ofInt_natCast,BitVec.toNat_ofNat];exact Y52 om
  have e2:(BitVec.ofInt IntKind.i64.bits (a:Int)^^^BitVec.ofInt IntKind.i64.bits (b:Int)).toNat=a^^^b:=by
   show(BitVec.ofInt 64 (a:Int)^^^BitVec.ofInt 64 (b:Int)).toNat=a^^^b
   rw[BitVec.toNat_xor,e a ha,e b hb]
  have e3:IntKind.i64.wrap ((a^^^b:Nat):Int)=((a^^^b:Nat):Int):=by rw[IntKind.wrap_i64];omega
  show(Op.intBits .xor .i64 a b).run P w=_
  unfold Op.intBits;simp only[e2,e3,Sem.run_pure])
theorem Ex.Ahg{d:Option Nat}{a b:Ui}(hx:Ev n L x (U8 a.toNat))(hy:Ev n L y (U8 b.toNat)):Ex P n L w ⟨d,.binOp .xor t x y t',ty,pos,af,g⟩ (U8 ((a^^^b).toNat:Int)) w :=
 Fa hx hy (Xj _ _ _ _) (by
  have e:∀c:Ui,(BitVec.ofInt 8 (c.toNat:Int)).toNat=c.toNat:=λc=>by rw[BitVec.ofInt_natCast,BitVec.toNat_ofNat];exact Y52 c.toNat_lt
  have e2:(BitVec.ofInt IntKind.u8.bits (a.toNat:Int)^^^BitVec.ofInt IntKind.u8.bits (b.toNat:Int)).toNat=(a^^^b).toNat:=by
   show(BitVec.ofInt 8 (a.toNat:Int)^^^BitVec.ofInt 8 (b.toNat:Int)).toNat=_
   rw[BitVec.toNat_xor,e a,e b,UInt8.toNat_xor]
  have h1:=(a^^^b).toNat_lt;have e3:IntKind.u8.wrap ((a^^^b).toNat:Int)=((a^^^b).toNat:Int):=by rw[IntKind.wrap_u8];omega
  show(Op.intBits .xor .u8 a.toNat b.toNat).run P w=_
  unfold Op.intBits;simp only[e2,e3,Sem.run_pure])
end
end Gk
namespace Tk
open Pc Gk Ul
def pre:Nat->List UInt8
 | 1=>[84,71,84]
 | 2=>[83,84]
 | 3=>[80,84]
 | 4=>[80,71,84]
 | 5=>[80,71,84,73,79,85]
 | 6=>[76,84]
 | _=>[]
def hx(c:Ui):Option Nat:=if 48<=c&&c<=57 then some (c.toNat-48)else if 97<=c&&c<=102 then some (c.toNat-87)else none
def Js(n:Nat):List UInt8->Option Nat
 | []=>some n
 | c::r=>match hx c with
  | some d=>Js (16*n+d) r
  | none=>none
def UF(s:Lu):Option Nat:=if s.length=16 then Js 0 s else none
def PD(p:Lu):Nat:=if p=pre 1 then 1 else if p=pre 2 then 2 else if p=pre 3 then 3 else if p=pre 4 then 4 else if p=pre 5 then 5 else if p=pre 6 then 6 else 0
def EZ(s:Lu):Option (Nat×Nat) :=
 if PD (Bb [45] s)=0 then none else(UF ((Xd [45] s).drop 1)).map λd=>(PD (Bb [45] s),d)
theorem ru{c:Ui}(h:hx c=some d):d<16:=by
 have:=Xf (p:=λc=>match hx c with|some d=>decide (d<16)|none=>true) dk c
 rw[h]at this;simpa using this
theorem eI:∀(s:Lu) (n m k:Nat),n<16^k->Js n s=some m->m<16^(k+s.length)
 | [],n,m,k,hn,h=>by
  simp only[Js,Option.some.injEq]at h
  subst h;exact hn
 | c::r,n,m,k,hn,h=>by
  rw[Js]at h;cases hc:hx c with
  | none=>rw[hc]at h;cases h
  | some d =>
   rw[hc]at h;have hd:=ru hc
   have:=eI r (16*n+d) m (k+1) (by rw[bg];omega) h
   rw[List.length_cons,show k+(r.length+1)=k+1+r.length by omega];exact this
theorem l6{s:Lu}(h:UF s=some d):d<18446744073709551616:=by
 unfold UF at h;split at h
 ·rename_i hl
  have:=eI s 0 d 0 de h
  rw[hl]at this;exact this
 ·cases h
def GZ:Nat->Nat->List UInt8
 | 0,_=>[]
 | k+1,n=>GZ k (n/16)++[if n%16<10 then UInt8.ofNat (48+n%16)else UInt8.ofNat (87+n%16)]
def jl(kind draw:Nat):Lu:=pre kind++45::GZ 16 draw
theorem r4:∀(k n:Nat),(GZ k n).length=k
 | 0,_=>rfl
 | k+1,n=>by rw[GZ,Y0,r4 k];rfl
theorem vv(h:d<16):hx (if d<10 then UInt8.ofNat (48+d)else UInt8.ofNat (87+d))=some d:=by
 have:=(by decide:∀d:Fin 16,hx (if d.val<10 then UInt8.ofNat (48+d.val)else UInt8.ofNat (87+d.val))=some d.val) ⟨d,h⟩
 exact this
theorem Xrj:∀(s t:Lu) (n:Nat),Js n (s++t)=(Js n s).bind λm=>Js m t
 | [],_,_=>rfl
 | c::r,t,n=>by
  rw[Yz,Js,Js];cases hx c with
  | none=>rfl
  | some d=>exact Xrj r t _
theorem Xue:∀(k n m:Nat),n<16^k->Js m (GZ k n)=some (m*16^k+n)
 | 0,n,m,h=>by
  have:n=0:=su h
  subst this;simp[GZ,Js]
 | k+1,n,m,h=>by
  have h1:n/16<16^k:=by rw[bg]at h;omega
  rw[GZ,Xrj,Xue k (n/16) m h1,qH];simp only[Js,vv (yN n (by decide:0<16))]
  congr 1
  rw[bg,<-Y67];omega
theorem VM(h:n<18446744073709551616):UF (GZ 16 n)=some n:=by
 unfold UF;rw[Y7 (r4 16 n),Xue 16 n 0 (su h)]
 simp
theorem fI:∀c∈pre k,c≠45:=by
 intro c hc e;subst e
 match k,hc with
 | 0,h=>simp[pre]at h
 | 1,h=>simp[pre]at h
 | 2,h=>simp[pre]at h
 | 3,h=>simp[pre]at h
 | 4,h=>simp[pre]at h
 | 5,h=>simp[pre]at h
 | 6,h=>simp[pre]at h
 | k+7,h=>simp[pre]at h
theorem cf{p r:Lu}(h:∀c∈p,c≠45):Bb [45] (p++45::r)=p/\Xd [45] (p++45::r)=45::r:=by
 induction p with
 | nil=>simp[Bb,Xd]
 | cons c p ih =>
  have h1:c≠45:=h c sz;obtain⟨h2,h3⟩:=ih (λx hx=>h x (by simp[hx]));simp only[Bb,Xd]at h2 h3 ⊢
  rw[Yz,yz,Y3w]
  have:(!([45]:Lu).contains c)=true:=by simp[h1]
  rw[Y7 this,Y7 this];exact⟨Y5 (c::·) h2,h3⟩
theorem eR(h1:1<=k)(h2:k<=6):PD (pre k)=k:=by
 have:=(by decide:∀k:Fin 7,1<=k.val->PD (pre k.val)=k.val) ⟨k,om⟩ h1
 exact this
theorem wU(h1:1<=k)(h2:k<=6)(hd:d<18446744073709551616):EZ (jl k d)=some (k,d):=by
 unfold EZ jl;obtain⟨e1,e2⟩:=cf (p:=pre k) (r:=GZ 16 d) fI;rw[e1,e2,eR h1 h2,Y3 om,Kw,O5,VM hd];rfl
theorem SY(p:Lu):PD p<=6:=by
 unfold PD
 by_cases h1:p=pre 1
 ·rw[Y7 h1];decide
 by_cases h2:p=pre 2
 ·rw[Y3 h1,Y7 h2];decide
 by_cases h3:p=pre 3
 ·rw[Y3 h1,Y3 h2,Y7 h3];decide
 by_cases h4:p=pre 4
 ·rw[Y3 h1,Y3 h2,Y3 h3,Y7 h4];decide
 by_cases h5:p=pre 5
 ·rw[Y3 h1,Y3 h2,Y3 h3,Y3 h4,Y7 h5];decide
 by_cases h6:p=pre 6
 ·rw[Y3 h1,Y3 h2,Y3 h3,Y3 h4,Y3 h5,Y7 h6];decide
 ·rw[Y3 h1,Y3 h2,Y3 h3,Y3 h4,Y3 h5,Y3 h6];decide
theorem SX{p:Lu}(h:PD p≠0):p=pre (PD p):=by
 unfold PD at h ⊢
 by_cases h1:p=pre 1
 ·rw[Y7 h1];exact h1
 by_cases h2:p=pre 2
 ·rw[Y3 h1,Y7 h2];exact h2
 by_cases h3:p=pre 3
 ·rw[Y3 h1,Y3 h2,Y7 h3];exact h3
 by_cases h4:p=pre 4
 ·rw[Y3 h1,Y3 h2,Y3 h3,Y7 h4];exact h4
 by_cases h5:p=pre 5
 ·rw[Y3 h1,Y3 h2,Y3 h3,Y3 h4,Y7 h5];exact h5
 by_cases h6:p=pre 6
 ·rw[Y3 h1,Y3 h2,Y3 h3,Y3 h4,Y3 h5,Y7 h6];exact h6
 ·rw[Y3 h1,Y3 h2,Y3 h3,Y3 h4,Y3 h5,Y3 h6]at h;exact Yy O h
theorem wW{s:Lu}(h:EZ s=some (k,d)):1<=k/\k<=6/\d<18446744073709551616/\s.length<=23/\s≠[]:=by
 unfold EZ at h;split at h
 ·cases h
 ·rename_i hk
  obtain⟨x,hx,e⟩:=lr.1 h;simp only[Prod.mk.injEq]at e
  obtain⟨rfl,rfl⟩:=e;have hl:=SY (Bb [45] s);refine⟨om,hl,l6 hx,?_,λe=>by subst e;exact hk O⟩;unfold UF at hx;split at hx
  ·rename_i qO
   have h3:=wP [45] s;have h4:(Bb [45] s).length<=6:=by
    rw[SX hk]
    have:=(by decide:∀k:Fin 7,(pre k.val).length<=6) ⟨PD (Bb [45] s),om⟩
    exact this
   rw[Ye]at qO;omega
  ·cases hx
end Tk
namespace Tr
open Tk
structure Al where
 kind:Int
 name:Lu
 parent:Lu
 user:Lu
 service:Lu
 url:Lu
 made:Int
 used:Int
 Bq:Int
 fresh:Bool
 deriving DecidableEq
def r0:Al:=⟨0,[],[],[],[],[],0,0,0,false⟩
def jh(kind of:Int):Bool:=(kind==1&&of==0)||(kind==6&&of==0)||(kind==2&&of==1)||(kind==3&&of==4)||(kind==4&&of==2)||(kind==4&&of==3)||(kind==5&&of==4)
def pS(kind:Int)(name:List UInt8):Bool:=if name=[]then jh kind 0 else match EZ name with
 | some (of,_)=>jh kind (of:Nat)
 | none=>false
def MC(s:List UInt8)(kind:Int):Bool:=match EZ s with
 | some (k,_)=>((k:Nat):Int)==kind
 | none=>false
def Xt(r:Al):Bool :=
 (decide ((r.user.length:Int)<=32)&&decide ((r.service.length:Int)<=100)&&decide ((r.url.length:Int)<=100))&&(decide (0<=r.made)&&decide (r.made<=r.used)&&decide (r.used<=1099511627776)&&decide (0<=r.Bq)&&decide (r.Bq<=255))&&MC r.name r.kind&&pS r.kind r.parent
def H7(name:List UInt8):List Al->Nat->Int
 | [],_=>-1
 | r::l,i=>if r.name=name then(i:Int)else H7 name l (i+1)
def BG(l:List Al)(name:Lu):Int:=H7 name l 0
theorem Xtf(name:Lu):∀(l:List Al) (i:Nat),(H7 name l i=-1/\∀r∈l,r.name≠name)\/∃(j:Nat) (r:Al),H7 name l i=((i+j:Nat):Int)/\l[j]?=some r/\r.name=name/\∀(q:Nat) (t:Al),q<j->l[q]?=some t->t.name≠name
 | [],_=>.inl ⟨O,λr h=>by simp at h⟩
 | a::l,i=>by
  rw[H7]
  by_cases h:a.name=name
  ·rw[Y7 h];exact .inr ⟨0,a,O,O,h,λq t hq=>Yy hq om⟩
  ·rw[Y3 h];rcases Xtf name l (i+1)with⟨h1,h2⟩|⟨j,r,h1,h2,h3,h4⟩
   ·refine .inl ⟨h1,λr hr=>?_⟩;rcases Yi.1 hr with e|e
    ·subst e;exact h
    ·exact h2 r e
   ·refine .inr ⟨j+1,r,by rw[h1];congr 1;omega,h2,h3,λq t hq ht=>?_⟩;cases q with
    | zero=>simp at ht;subst ht;exact h
    | succ q=>exact h4 q t om (su ht)
theorem aL(l:List Al)(name:Lu):(BG l name=-1/\∀r∈l,r.name≠name)\/∃(j:Nat) (r:Al),BG l name=(j:Int)/\l[j]?=some r/\r.name=name/\∀(q:Nat) (t:Al),q<j->l[q]?=some t->t.name≠name:=by
 rcases Xtf name l 0 with h|⟨j,r,h1,h2⟩
 ·exact .inl h
 ·exact .inr ⟨j,r,by rw[BG,h1,Yj],h2⟩
theorem yg(l:List Al)(name:Lu):BG l name<l.length:=by
 rcases aL l name with⟨h,_⟩|⟨j,r,h,hr,_⟩
 ·rw[h];omega
 ·have:=(Y1.1 hr).1
  rw[h];omega
theorem bL(l:List Al)(name:Lu):-1<=BG l name:=by
 rcases aL l name with⟨h,_⟩|⟨j,r,h,_⟩<;>rw[h]<;>omega
def get(l:List Al)(name:Lu):Option Al:=l.find? λr=>decide (r.name=name)
theorem get_at(l:List Al)(name:Lu):(BG l name=-1/\get l name=none)\/∃(j:Nat) (r:Al),BG l name=(j:Int)/\l[j]?=some r/\r.name=name/\get l name=some r:=by
 rcases aL l name with⟨h1,h2⟩|⟨j,r,h1,h2,h3,h4⟩
 ·refine .inl ⟨h1,?_⟩;unfold get;rw[List.find?_eq_none];intro r hr;simpa using h2 r hr
 ·refine .inr ⟨j,r,h1,h2,h3,?_⟩;unfold get
  have:∀(l:List Al) (j:Nat),l[j]?=some r->(∀(q:Nat) (t:Al),q<j->l[q]?=some t->t.name≠name)->l.find? (λr=>decide (r.name=name))=some r:=by
   intro l
   induction l with
   | nil=>intro j h;simp at h
   | cons a l ih =>
    intro j h AL;rw[yI];cases j with
    | zero=>simp at h;subst h;rw[decide_eq_true h3]
    | succ j =>
     rw[decide_eq_false (AL 0 a om O)];exact ih j (su h) (λq t hq ht=>AL (q+1) t om (su ht))
  exact this l j h2 h4
def Ld(room:Int)(l:List Al)(r:Al):Nat:=if Xt r=false then 1 else if 0<=BG l r.name then 7 else if r.parent≠[]/\BG l r.parent<0 then 6 else if room<=l.length then 5 else 0
def add(room:Int)(l:List Al)(r:Al):List Al:=if Ld room l r=0 then l++[r]else l
def Zo(l:List Al)(r:Al):Nat:=if Xt r=false then 1 else match get l r.name with
 | none=>6
 | some t=>if t.parent≠r.parent then 8 else 0
def put(l:List Al)(r:Al):List Al:=if Zo l r=0 then l.set (BG l r.name).toNat r else l
structure Wf(l:List Al):Prop where
 right:∀r∈l,Xt r=true
 one:∀(i j:Nat) (r s:Al),l[i]?=some r->l[j]?=some s->r.name=s.name->i=j
 up:∀(i:Nat) (r:Al),l[i]?=some r->(r.parent=[]\/0<=BG l r.parent)/\BG l r.parent<i
theorem Wf.nil:Wf []:=⟨λr h=>by simp at h,λi j r s h=>by simp at h,λi r h=>by simp at h⟩
theorem Wf.at_{l:List Al}(h:Wf l){r:Al}(hr:l[i]?=some r):BG l r.name=(i:Int):=by
 rcases aL l r.name with⟨_,h2⟩|⟨j,t,h1,h2,h3,_⟩
 ·exact Yy O (h2 r (Y6 hr))
 ·rw[h1,h.one j i t r h2 hr h3]
theorem Wf.Aap{l:List Al}(h:Wf l){r:Al}(hr:l[i]?=some r):get l r.name=some r:=by
 rcases get_at l r.name with⟨h1,_⟩|⟨j,t,h1,h2,h3,h4⟩
 ·rw[h.at_ hr]at h1;omega
 ·rw[h4];have e:j=i:=h.one j i t r h2 hr h3;subst e;rw[h2]at hr;exact hr
theorem Xce{r:Al}(h:Xt r=true):r.name≠[]:=by
 intro e;unfold Xt at h;simp only[Yb]at h
 have h1:=h.1.2;unfold MC at h1;rw[e]at h1;cases hp:EZ []with
 | none=>rw[hp]at h1;cases h1
 | some x=>exact(wW (k:=x.1) (d:=x.2) hp).2.2.2.2 O
theorem R3(name:Lu):∀(l m:List Al) (i:Nat),H7 name (l++m) i=if H7 name l i=-1 then H7 name m (i+l.length)else H7 name l i
 | [],m,i=>by simp[H7]
 | a::l,m,i=>by
  rw[Yz,H7,H7];split
  ·rw[Y3 om]
  ·rw[R3 name l m (i+1),List.length_cons,show i+1+l.length=i+(l.length+1)by omega]
theorem lL(l:List Al)(r:Al)(name:Lu):BG (l++[r]) name=if BG l name=-1 then(if r.name=name then(l.length:Int)else -1)else BG l name:=by
 unfold BG;rw[R3];simp[H7]
theorem Xdw{l:List Al}{r:Al}{t:Al}(h:(l++[r])[i]?=some t):l[i]?=some t\/(i=l.length/\t=r):=by
 rcases C5 i l.length with h1|h1
 ·rw[Y9 h1]at h;exact .inl h
 ·rw[Yq h1]at h;have h2:=(Y1.1 h).1;simp at h2
  have h3:i=l.length:=om
  subst h3;simp at h
  exact .inr ⟨O,h.symm⟩
theorem bj{room:Int}{l:List Al}{r:Al}(h:Ld room l r=0):Xt r=true/\BG l r.name=-1/\(r.parent=[]\/0<=BG l r.parent)/\(l.length:Int)<room:=by
 unfold Ld at h;split at h
 ·cases h
 ·rename_i h1
  split at h
  ·cases h
  ·rename_i h2
   split at h
   ·cases h
   ·rename_i h3
    split at h
    ·cases h
    ·refine⟨su h1,by have:=bL l r.name;omega,?_,om⟩
     by_cases e:r.parent=[]
     ·exact .inl e
     ·refine .inr ?_
      have:¬ BG l r.parent<0:=λh4=>h3 ⟨e,h4⟩
      omega
theorem Wf.snoc{l:List Al}(h:Wf l){r:Al}(hr:Xt r=true)(hm1:BG l r.name=-1)(hp:r.parent=[]\/0<=BG l r.parent):Wf (l++[r]):=by
 have AL:∀t∈l,t.name≠r.name:=by
  rcases aL l r.name with⟨_,h4⟩|⟨j,t,h4,_⟩
  ·exact h4
  ·rw[h4]at hm1;omega
 have Ade:∀l:List Al,(∀r∈l,Xt r=true)->BG l []=-1:=λl hl=>by
  rcases aL l []with⟨h4,_⟩|⟨j,t,_,ht,he,_⟩
  ·exact h4
  ·exact Yy he (Xce (hl t (Y6 ht)))
 refine⟨λt ht=>?_,λi j s t hi hj he=>?_,λi t hi=>?_⟩
 ·rcases Yn.1 ht with e|e
  ·exact h.right t e
  ·simp at e;subst e;exact hr
 ·rcases Xdw hi with mR|⟨mR,Wy⟩
  ·rcases Xdw hj with qX|⟨qX,O6⟩
   ·exact h.one i j s t mR qX he
   ·rw[O6]at he;exact Yy he (AL s (Y6 mR))
  ·rcases Xdw hj with qX|⟨qX,O6⟩
   ·rw[Wy]at he;exact Yy he.symm (AL t (Y6 qX))
   ·omega
 ·have key:∀(t:Al),(t.parent=[]\/0<=BG l t.parent)->BG (l++[r]) t.parent=BG l t.parent:=λt ht=>by
   rw[lL];rcases ht with e|e
   ·rw[e,Ade l h.right,Y7 O,Y3 (Xce hr)]
   ·rw[Y3 om]
  rcases Xdw hi with mR|⟨mR,Wy⟩
  ·obtain⟨h1,h2⟩:=h.up i t mR;rw[key t h1];exact⟨h1,h2⟩
  ·subst mR;subst Wy;rw[key t hp];exact⟨hp,yg l t.parent⟩
theorem Wf.add{l:List Al}(h:Wf l){room:Int}{r:Al}:Wf (add room l r):=by
 unfold Tr.add;split
 ·rename_i he
  obtain⟨h1,h2,h3,_⟩:=bj he;exact h.snoc h1 h2 h3
 ·exact h
theorem R4(name:Lu){r:Al}:∀(l:List Al) (k i:Nat) (t:Al),l[k]?=some t->t.name=r.name->H7 name (l.set k r) i=H7 name l i
 | [],k,i,t,h,_=>by simp at h
 | a::l,0,i,t,h,he=>by
  simp at h;subst h
  rw[List.set_cons_zero,H7,H7,he]
 | a::l,k+1,i,t,h,he=>by
  rw[Y46,H7,H7,R4 name l k (i+1) t (su h) he]
theorem we{l:List Al}{r:Al}(h:Zo l r=0):Xt r=true/\∃(j:Nat) (t:Al),BG l r.name=(j:Int)/\l[j]?=some t/\t.name=r.name/\t.parent=r.parent/\get l r.name=some t:=by
 unfold Zo at h;split at h
 ·cases h
 ·rename_i h1
  refine⟨su h1,?_⟩;rcases get_at l r.name with⟨_,h2⟩|⟨j,t,h2,h3,h4,h5⟩
  ·rw[h2]at h;cases h
  ·rw[h5]at h;simp only at h
   split at h
   ·cases h
   ·rename_i h6
    exact⟨j,t,h2,h3,h4,su h6,h5⟩
theorem Wf.set{l:List Al}(h:Wf l){j:Nat}{t r:Al}(ht:l[j]?=some t)(hn:t.name=r.name)(hp:t.parent=r.parent)(hr:Xt r=true):Wf (l.set j r):=by
 have hj:=(Y1.1 ht).1;have e:∀name,BG (l.set j r) name=BG l name:=λname=>R4 name l j 0 t ht hn
 have g:∀(i:Nat) (s:Al),(l.set j r)[i]?=some s->∃u,l[i]?=some u/\u.name=s.name/\u.parent=s.parent:=λi s hs=>by
  rw[yB]at hs;split at hs
  ·rename_i y8
   subst y8;cases hs
   exact⟨t,ht,hn,hp⟩
  ·exact⟨s,hs,O,O⟩
 refine⟨λs hs=>?_,λi k s u hi hk he=>?_,λi s hi=>?_⟩
 ·rcases Y3m hs with h1|h1
  ·exact h.right s h1
  ·subst h1;exact hr
 ·obtain⟨s',h1,h2,_⟩:=g i s hi;obtain⟨u',h3,h4,_⟩:=g k u hk;exact h.one i k s' u' h1 h3 (by rw[h2,h4,he])
 ·obtain⟨s',h1,_,h2⟩:=g i s hi;rw[e,<-h2];exact h.up i s' h1
theorem Wf.put{l:List Al}(h:Wf l){r:Al}:Wf (put l r):=by
 unfold Tr.put;split
 ·rename_i he
  obtain⟨h1,j,t,h2,h3,h4,h5,_⟩:=we he;rw[h2,Y8];exact h.set h3 h4 h5 h1
 ·exact h
def PH(l:List Al):Nat->Int->List Al
 | 0,_=>[]
 | f+1,i=>if i<0 then[]else match l[i.toNat]? with
  | some r=>r::PH l f (BG l r.parent)
  | none=>[]
theorem xd(l:List Al)(f:Nat){i:Int}(h:i<0):PH l f i=[]:=by
 cases f with
 | zero=>rfl
 | succ f=>rw[PH,Y7 h]
theorem Xj3{l:List Al}(h:Wf l):∀(f g:Nat) (i:Int),i<f->i<g->PH l f i=PH l g i
 | 0,g,i,h1,_=>by rw[xd l g om,xd l 0 om]
 | f+1,0,i,_,h2=>by rw[xd l (f+1) om,xd l 0 om]
 | f+1,g+1,i,h1,h2=>by
  rw[PH,PH];split
  ·rfl
  ·rename_i hi
   cases hr:l[i.toNat]? with
   | none=>rfl
   | some r =>
    have hu:=(h.up i.toNat r hr).2;simp only
    rw[Xj3 h f g (BG l r.parent) om om]
def qA(l:List Al)(i:Int):List Al:=PH l (i.toNat+1) i
def path(l:List Al)(name:Lu):List Al:=qA l (BG l name)
theorem XN(l:List Al){i:Int}(h:i<0):qA l i=[]:=xd l _ h
theorem fB{l:List Al}(h:Wf l){r:Al}(hr:l[i]?=some r):qA l (i:Int)=r::qA l (BG l r.parent):=by
 unfold qA;rw[Y8,PH,Y3 om,Y8,hr];simp only
 have hu:=(h.up i r hr).2;rw[Xj3 h i ((BG l r.parent).toNat+1) _ om om]
def sQ(l:List Al)(name:Lu):List Al:=l.filter λr=>decide (name≠[])&&decide (r.parent=name)
def kids(l:List Al)(name:Lu):List Lu:=(sQ l name).map Al.name
def EF(l:List Al):Nat->List UInt8->List (List UInt8)
 | 0,_=>[]
 | f+1,name=>name::(kids l name).flatMap (EF l f)
def below(l:List Al)(name:Lu):List Lu:=if 0<=BG l name then EF l l.length name else[]
def drop(l:List Al)(name:Lu):List Al:=l.filter λr=>!(below l name).contains r.name
def D8{α:Type}(pr:α->Bool):List α->Nat->Int
 | [],_=>-1
 | s::r,i=>if pr s then(i:Int)else D8 pr r (i+1)
theorem X9j{α:Type}(pr:α->Bool):∀(n:Nat) (r:List α) (i:Nat),(∀(j:Nat) s,j<n->r[j]?=some s->pr s=false)->D8 pr r i=D8 pr (r.drop n) (i+min n r.length)
 | 0,r,i,_=>by simp
 | n+1,[],i,_=>by simp[D8]
 | n+1,s::r,i,h=>by
  rw[D8,Y3 (by rw[h 0 s om O];decide),X9j pr n r (i+1) (λj t hj ht=>h (j+1) t om (su ht)),Kw,List.length_cons]
  congr 1
  omega
theorem pJ{pr:α->Bool}{l:List α}{s:α}(h:∀(j:Nat) t,j<i->l[j]?=some t->pr t=false)(hs:l[i]?=some s)(hp:pr s=true):D8 pr l 0=(i:Int):=by
 have hi:=(Y1.1 hs).1;rw[X9j pr i l 0 h,Yj,jx om,Yp hi,(Y1.1 hs).2,D8,Y7 hp]
theorem pG{pr:α->Bool}{l:List α}(h:∀(j:Nat) t,l[j]?=some t->pr t=false):D8 pr l 0=-1:=by
 rw[X9j pr l.length l 0 (λj t _ ht=>h j t ht),s5];rfl
theorem kG{α:Type}(pr:α->Bool):∀(l:List α) (i:Nat),decide (0<=D8 pr l i)=l.any pr
 | [],i=>rfl
 | s::r,i=>by
  rw[D8,Y5s];split
  ·rename_i h
   rw[h,Bool.true_or,dq1];omega
  ·rename_i h
   rw[Y5h.2 h,lB,kG pr r (i+1)]
theorem Xu2(name:Lu):∀(l:List Al) (i:Nat),D8 (λr=>decide (r.name=name)) l i=H7 name l i
 | [],i=>rfl
 | s::r,i=>by
  rw[D8,H7,Xu2 name r (i+1)];simp only[dq1]
def getD(l:List Al)(name:Lu):Al:=(get l name).getD r0
end Tr
namespace Go.Proofs.W9
open Gk Ul Pc FI Xm Tr
open Tryz
theorem xl(h:At I p vs)(n:Nat):At I p (vs.take n):=by
 obtain⟨h1,arr,E,fr,h2,h3⟩:=h;refine⟨h1,arr,E,fr,h2,λj v hj=>?_⟩;rw[jw]at hj;split at hj
 ·exact h3 j v hj
 ·cases hj
theorem AQ{cells:α->Lv}{s:Nat}(hc:∀x,(cells x).length=s){l:List α}(hR:RS I a s l.length (X2 cells l)){x:α}(hx:l[i]?=some x):∃q,a=some q/\At I (q.add (i*s)) (cells x):=by
 obtain⟨q,rfl,hq⟩:=hR.2 (oh ((Y1.1 hx).1));refine⟨q,O,?_⟩;have h3:=xl (hq.add (i*s)) s;rw[X2,wS (l.map cells) (λc h=>by obtain⟨y,_,rfl⟩:=Fg.1 h;exact hc y) i (cells x) (by rw[Ys,hx];rfl)]at h3;exact h3
abbrev Xw(p:Px):Lv:=[S p.1,S p.2]
def rT:Lv:=X2 Xw MK
structure Kx(I:Im):Prop where
 Hb:At I (ad 1 0) rT
 pow : ∀(B w : World) (As : List X1), Aa B w I As → Go.Lib.TabIs prog w "internal/strconv.uint64pow10" .u64 Go.Lib.pow10Tab
 max:∀(B w:Wo) (As:La),Aa B w I As->∃m,w.cell? ⟨2,0,none⟩=some (.int .i64 m)
 syn:∀(B w:Wo) (As:La),Aa B w I As->∃te pe,w.cell? ⟨4,0,none⟩=some (.iface te pe)
 rng:∀(B w:Wo) (As:La),Aa B w I As->∃te pe,w.cell? ⟨5,0,none⟩=some (.iface te pe)
theorem Xvn(hl:Le I J):Aa B w J As->Aa B w I As:=λ⟨g,h1,h2⟩=>⟨g,h1,h2.os,h2.tape,h2.output,λb o hi=>h2.MB b o (hl.h b o hi),h2.own,h2.nodup,λb o hm=>by
  cases hi:I b with
  | none=>rfl
  | some x=>have:=h2.apart b o hm;rw[hl.h b x hi]at this;cases this⟩
theorem Kx.mono(h:Kx I)(hl:Le I J):Kx J :=
 ⟨h.Hb.mono hl,λB w As s=>h.pow B w As (Xvn hl s),λB w As s=>h.max B w As (Xvn hl s),λB w As s=>h.syn B w As (Xvn hl s),λB w As s=>h.rng B w As (Xvn hl s)⟩
theorem Xtb(s:Lu)(c:Ui)(hs:s.length<=1000000)(hK:Kx I)(As:La)(hS:Aa B w I As):Calls prog 82 #[S s,S [c]] w (A4 λv w'=>v=.tuple #[S (Bb [c] s),S ((Xd [c] s).drop 1),.bool (!(Xd [c] s).isEmpty)]/\Aa B w' I As):=by
 obtain⟨m,hm⟩:=hK.max B w As hS;refine(strings_Cut ⟨s.toArray⟩ ⟨[c].toArray⟩ m w (by show s.length<_;omega) hm).mono λe w' he=>?_
 obtain⟨rfl,n,rfl⟩:=he;refine⟨_,O,?_,w5 hS n⟩;show Value.tuple #[S (Go.Lib.cut s [c]).1,S (Go.Lib.cut s [c]).2.1,.bool (Go.Lib.cut s [c]).2.2]=_
 rw[Sb]
theorem Xmz(s m:Lu)(c:Ui)(hs:s.length<=100000000)(hm:m.length<=6)(A8:([c]==m)=false)(hK:Kx I)(As:La)(hS:Aa B w I As):Calls prog 449 #[S s,S [c],S m] w (A4 λv w'=>v=S (PL c m s)/\Aa B w' I As):=by
 obtain⟨q,hq⟩:=hK.max B w As hS;have AcX:Go.Lib.countB ⟨s.toArray⟩ ⟨[c].toArray⟩<=s.length:=by
  have h:∀(n:Nat) (s:Lu),s.length<=n->Go.Lib.count s [c]<=s.length:=by
   intro n
   induction n with
   | zero =>
    intro s h
    have:s=[]:=Yf om
    subst this;rw[Go.Lib.count_miss (by rw[Go.Lib.index_one];rfl)];exact Yd _
   | succ n ih =>
    intro s h;have IQ:=Go.Lib.indexByte_ge s c
    by_cases e:Go.Lib.indexByte s c=-1
    ·rw[Go.Lib.count_miss (by rw[Go.Lib.index_one];exact e)];exact Y4 _
    ·obtain⟨i,hk⟩:∃k:Nat,Go.Lib.indexByte s c=k:=⟨(Go.Lib.indexByte s c).toNat,om⟩
     have BO:i<s.length:=(Y1.1 (Go.Lib.indexByte_some hk).1).1;rw[Go.Lib.count_hit sz (by rw[Go.Lib.index_one];exact hk)]
     have:=ih (s.drop (i+1)) (by rw[Ye];omega)
     rw[Ye]at this;show 1+Go.Lib.count (s.drop (i+1)) [c]<=_
     omega
  exact h _ s (Yd _)
 refine(strings_ReplaceAll ⟨s.toArray⟩ ⟨[c].toArray⟩ ⟨m.toArray⟩ q w (by show s.length<_;omega) hq (Yd 1) ?_).mono λe w' he=>?_
 ·show s.length+Go.Lib.countB ⟨s.toArray⟩ ⟨[c].toArray⟩*m.length<=_
  have:Go.Lib.countB ⟨s.toArray⟩ ⟨[c].toArray⟩*m.length<=s.length*6:=Y5g AcX hm
  omega
 ·obtain⟨rfl,hb⟩:=he;refine⟨_,O,?_,hS.grown hb⟩;show S (Go.Lib.replaceAll s [c] m)=_
  rw[Xsj c m s A8]
theorem mF:∀(s p:Lu),Go.Lib.hasPrefix s p=Xg s p:=by
 intro s p;unfold Go.Lib.hasPrefix Xg;rw[yH,yq,List.prefix_iff_eq_take];(try rw[Y8]);simp only[Yb,dq1,beq_iff_eq]
 constructor
 ·intro h
  have:=Y5 List.length h
  rw[Yl]at this;exact⟨om,h.symm⟩
 ·exact λh=>h.2.symm
theorem Xa2(s p:Lu)(As:La)(hS:Aa B w I As):Calls prog 26 #[S s,S p] w (A4 λv w'=>v=.tuple #[S (if Xg s p=true then s.drop p.length else s),.bool (Xg s p)]/\Aa B w' I As):=by
 refine(strings_CutPrefix ⟨s.toArray⟩ ⟨p.toArray⟩ w).mono λe w' he=>?_
 obtain⟨rfl,rfl⟩:=he;refine⟨_,O,?_,hS⟩;show Value.tuple #[S (Go.Lib.trimPrefix s p),.bool (Go.Lib.hasPrefix s p)]=_
 unfold Go.Lib.trimPrefix;rw[mF]
theorem Xjw(s:Lu)(c:Ui)(hc:c.toNat<128)(As:La)(hS:Aa B w I As):Calls prog 299 #[S s,S [c]] w (A4 λv w'=>v=Ab (Go.Lib.indexAny s [c])/\Aa B w' I As):=by
 refine(strings_IndexAny_one ⟨s.toArray⟩ ⟨[c].toArray⟩ w O (λj b h=>?_)).mono λe w' he=>?_
 ·cases j with
  | zero=>have h:some c=some b:=h;cases h;exact hc
  | succ j=>have h:([]:Lu)[j]?=some b:=h;simp at h
 ·obtain⟨rfl,rfl⟩:=he;exact⟨_,O,O,hS⟩
theorem Ex.WR{x y:Operand}{t:TypeId}{g:Option (Nat×Bool)}{d:Option Nat}{s:Nat}{e:TypeId}{us:Lv}{i:Int}{q:IntKind}(hx:Ev n L x (.agg vs.toArray))(hy:Ev n L y (.int q i))(hi:0<=i)(hl:i<(m:Int))(ht:P.underlying t=some (.array m e))(hs:∀w,(Go.sizeOf e).run P w=.ok s w)(ha:∀w,(isAgg e).run P w=.ok true w)(hv:(vs.drop (i.toNat*s)).take s=us)(hle:i.toNat*s+s<=vs.length):Ex P n L w ⟨d,.index t x y,ty,pos,af,g⟩ (.agg us.toArray) w:=λb hb=>by
 subst hv;simp[execOp,hx b hb,hy b hb,Instr.index,run_underlying ht,asIntOf,hi,hl,hs,ha,part,hle]
theorem nP(c:Ui):((decide (97<=(c.toNat:Int))&&decide ((c.toNat:Int)<=122))||(decide (65<=(c.toNat:Int))&&decide ((c.toNat:Int)<=90)))=LZ c:=eq_of_beq (Xf (p:=λc=>((decide (97<=(c.toNat:Int))&&decide ((c.toNat:Int)<=122))||(decide (65<=(c.toNat:Int))&&decide ((c.toNat:Int)<=90)))==LZ c) dk c)
theorem nu(c:Ui):((((LZ c||(decide (48<=(c.toNat:Int))&&decide ((c.toNat:Int)<=57)))||((c.toNat:Int)==58))||((c.toNat:Int)==45))||((c.toNat:Int)==95))=Qw c:=eq_of_beq (Xf (p:=λc=>((((LZ c||(decide (48<=(c.toNat:Int))&&decide ((c.toNat:Int)<=57)))||((c.toNat:Int)==58))||((c.toNat:Int)==45))||((c.toNat:Int)==95))==Qw c) dk c)
theorem gJ(c:Ui):(((c.toNat:Int)==127)||((decide ((c.toNat:Int)<32)&&((c.toNat:Int)!=9))&&((c.toNat:Int)!=10)))=!wo c:=eq_of_beq (Xf (p:=λc=>(((c.toNat:Int)==127)||((decide ((c.toNat:Int)<32)&&((c.toNat:Int)!=9))&&((c.toNat:Int)!=10)))==!wo c) dk c)
theorem SI{s:Lu}(h:s≠[]):s.headD 0=at_ s 0:=by
 cases s with
 | nil=>exact Yy O h
 | cons a b=>rfl
theorem Xh6(c:Ui)(As:La)(hS:Aa B w I As):Ce B I As 397 [U8 c.toNat] w (.bool (LZ c)):=by
 refine gH 14 ?_;exact gG 2 ⟨Y5 Value.bool (nP c),hS⟩
theorem Xt7(c:Ui)(As:La)(hS:Aa B w I As):Ce B I As 398 [U8 c.toNat] w (.bool (Qw c)):=by
 refine gE 2 (Xh6 c) ?_;clear hS;intro w hS;refine gH 14 ?_;exact gG 7 ⟨Y5 Value.bool (nu c),hS⟩
theorem Xq6(s:Lu)(hl:s.length<=1000000)(As:La)(hS:Aa B w I As):Ce B I As 303 [S s] w (.bool (RG s)):=by
 refine gH 5 (.AA O O (λAi=>.vy (l:=s) (i:=(0:Int)) (.gd Ai O) (.of O) om (oh (U5.2 (show s≠[] from by simpa using Ai))) BV) O ?_);refine .AG (T:=λw=>Aa B w I As) O O O func397 O (λAi=>(X5 (.gd Ai O) X4)) O (λAi=>Xh6 (at_ s 0) _ hS) hS ?_;clear hS;rintro w hS;refine gM 2 ?_ ?_<;>intro Dw Eo
 ·refine gG 1 (⟨Y5 Value.bool ?_,hS⟩);unfold RG
  by_cases hs:s=[]
  ·rw[hs];first|done|rfl
  ·have h:=Dw;rw[show(s==[])=false by simpa using hs,lB]at h;rw[SI hs,show LZ (at_ s 0)=false by simpa using h,jy];first|done|rfl
 refine gG 3 (.lk [0,13] (σ:=Nat) (λi _m=>(14,Ab (i:Nat))::_m) (λi w=>i<=s.length/\(∀j,j<i->j<s.length->Qw (at_ s (j:Int))=true)/\Aa B w I As) (λi=>s.length-i) 0 ⟨Y4 _,λ_ h=>Yy h om,hS⟩ ?_);rintro i w ⟨hi,Dz,hS⟩;refine gN 1 ?_ ?_<;>intro G8
 ·refine gE 5 (Xt7 (at_ s (i:Int))) ?_;clear hS;intro w hS;refine gM 1 ?_ ?_<;>intro El IH
  ·refine gG 1 (⟨Y5 Value.bool ?_,hS⟩);unfold RG;rw[Xg2 (p:=Qw) (i:=i) om (su El),jy]
  refine gG 2 (rd (i+1) ⟨om,λj hj ER=>?_,hS⟩);rcases C5 j i with h1|h1
  ·exact Dz j h1 ER
  ·have e:j=i:=om
   subst e;simpa using El
 refine gG 1 (⟨Y5 Value.bool ?_,hS⟩);have h:=Dw;simp only[Mw,sZ]at h
 have hs:s≠[]:=su h.1
 unfold RG;rw[SI hs,h.1,h.2,xL Dz om];first|done|rfl
theorem Xjt(s:Lu)(hl:s.length<=1000000)(As:La)(hS:Aa B w I As):Ce B I As 305 [S s] w (.bool (OQ s)):=by
 refine gG 4 (.lk [0,6] (σ:=Nat) (λi _m=>(7,Ab (i:Nat))::_m) (λi w=>i<=s.length/\(∀j,j<i->j<s.length->wo (at_ s (j:Int))=true)/\Aa B w I As) (λi=>s.length-i) 0 ⟨Y4 _,λ_ h=>Yy h om,hS⟩ ?_);rintro i w ⟨hi,Dz,hS⟩;refine gN 1 ?_ ?_<;>intro E5
 ·refine gH 14 ?_;refine gM 6 ?_ ?_<;>intro LH LM
  ·refine gG 1 (⟨Y5 Value.bool ?_,hS⟩);have hh:=gJ (at_ s (i:Int));rw[LH]at hh;exact(Xg2 (p:=wo) (i:=i) om (su hh.symm)).symm
  refine gG 2 (rd (i+1) ⟨om,λj hj ER=>?_,hS⟩);rcases C5 j i with h1|h1
  ·exact Dz j h1 ER
  ·have e:j=i:=om
   subst e;have hh:=gJ (at_ s (j:Int));rw[LH]at hh;simpa using hh.symm
 exact gG 1 ⟨Y5 Value.bool (xL Dz om).symm,hS⟩
theorem X92(a:Oa)(cap:Nat)(l:List (Px))(Hu:l.length<=9223372036854775807)(pr:Px->Bool)(BC:FuncId)(fn:Func)(EJ:prog.funcs[BC]?=some fn)(BZ:Xb fn=true)(AO:Lv)(As:La)(hE:∀w,Aa B w I As->Mj w Xw 2 a l)(hf:∀(r:Px) (hr:r∈l) w,Aa B w I As->Calls prog BC ([Value.agg (Xw r).toArray]++AO).toArray w (A4 λv w'=>v=.bool (pr r)/\Aa B w' I As))(hS:Aa B w I As):Ce B I As 301 [.slice a l.length cap,.func (.func BC) #[] AO.toArray] w (Ab (D8 pr l 0)):=by
 refine gG 4 (.lk [0,1,7] (σ:=Nat) (λi _m=>(8,Ab (i:Nat))::_m) (λi w=>i<=l.length/\(∀(j:Nat) t,j<i->l[j]?=some t->pr t=false)/\Aa B w I As) (λi=>l.length-i) 0 ⟨Y4 _,λ_ _ h=>Yy h om,hS⟩ ?_);rintro i w ⟨hi,AL,hS⟩;refine gN 1 ?_ ?_<;>intro DV
 ·refine gG 0 ?_;obtain⟨r,hr⟩:∃r,l[i]?=some r:=⟨_,Y2 om⟩
  obtain⟨p,rfl,hx⟩:=hE w hS i r hr;refine gH 6 (.val (.LY (.of O) hx H0 DU O) O (.B0 (cap:=AO) EJ BZ (.of O) (Be O X4) O (hf r (Y6 hr) w hS) ?_));clear hS;rintro _ w ⟨rfl,hS⟩;refine gM 0 ?_ ?_<;>intro B6 C1
  ·exact gG 2 ⟨by rw[pJ AL hr B6],hS⟩
  refine gG 2 (rd (i+1) ⟨od,λj t hj ht=>?_,hS⟩);rcases C5 j i with h1|h1
  ·exact AL j t h1 ht
  ·have e:j=i:=om
   subst e;rw[hr]at ht;cases ht;exact B6
 exact gG 1 ⟨by rw[pG (λj t ht=>AL j t (oh ((Y1.1 ht).1)) ht)],hS⟩
theorem Xbc(a:Oa)(cap:Nat)(l:List (Px))(Hu:l.length<=9223372036854775807)(pr:Px->Bool)(BC:FuncId)(fn:Func)(EJ:prog.funcs[BC]?=some fn)(BZ:Xb fn=true)(AO:Lv)(As:La)(hE:∀w,Aa B w I As->Mj w Xw 2 a l)(hf:∀(r:Px) (hr:r∈l) w,Aa B w I As->Calls prog BC ([Value.agg (Xw r).toArray]++AO).toArray w (A4 λv w'=>v=.bool (pr r)/\Aa B w' I As))(hS:Aa B w I As):Ce B I As 233 [.slice a l.length cap,.func (.func BC) #[] AO.toArray] w (.bool (l.any pr)):=by
 refine gP 3 [] (X92 a cap l Hu pr BC fn EJ BZ AO As hE hf) ?_;clear hS;rintro _ w ⟨rfl,hS⟩;exact gG 2 ⟨by rw[<-kG pr l 0],hS⟩
theorem Xwz(r a:Px)(b4:Nat)(As:La)(hS:Aa B w I (Ae b4 [S a.1,S a.2] 58::As)):Ce B I (Ae b4 [S a.1,S a.2] 58::As) 399 [.agg (Xw r).toArray,ptr b4 0] w (.bool (r.1==a.1)):=by
 refine gG 8 ?_;clear hS;intro b2 w hS;exact⟨O,hS.s⟩
theorem oK{l:List Px}(h:RS I a 2 l.length (X2 Xw l))(k:Nat)(hk:k<=l.length):RS I a 2 (l.take k).length (X2 Xw (l.take k)):=by
 refine⟨zR (cells:=Xw) (s:=2) (λ_=>rfl) _,λh0=>?_⟩;obtain⟨p,rfl,hA⟩:=h.2 (by rw[Yl]at h0;omega);refine⟨p,O,?_⟩;have h9:=xl hA (X2 Xw (l.take k)).length;have e:(X2 Xw l).take (X2 Xw (l.take k)).length=X2 Xw (l.take k):=by
  have e2:X2 Xw l=X2 Xw (l.take k)++X2 Xw (l.drop k):=by
   conv=>lhs;rw[<-Mv k l]
   unfold X2;rw[Ym,ju]
  conv=>lhs;rw[e2]
  exact U9
 rw[e]at h9;exact h9
theorem Xzo(sa:Oa)(cap:Nat)(l:List Px)(AaO:l.length<=cap)(SL:l.length<=9223372036854775807)(jO:∀a∈l,a.1.length<=1000000/\a.2.length<=1000000)(hR:RS I sa 2 l.length (X2 Xw l))(As:La)(hS:Aa B w I As):Ce B I As 304 [.slice sa l.length cap] w (.bool (Mf [] l)):=by
 refine gG 4 (.lk [0,5,6] (σ:=Nat) (λi _m=>(7,Ab (i:Nat))::_m) (λi w=>i<=l.length/\Mf [] l=Mf (l.take i) (l.drop i)/\Aa B w I As) (λi=>l.length-i) 0 ⟨Y4 _,O,hS⟩ ?_);rintro i w ⟨hi,Dz,hS⟩;refine gN 1 ?_ ?_<;>intro E5
 ·refine gG 0 ?_;obtain⟨a,ha⟩:∃a,l[i]?=some a:=⟨_,Y2 om⟩
  obtain⟨p,F5,hx⟩:=AQ (cells:=Xw) (s:=2) (λ_=>rfl) hR ha;subst F5;unfold Xw at hx;have Gg:=jO a (Y6 ha);have Ec:l.drop i=a::l.drop (i+1):=by rw[Yp om,(Y1.1 ha).2]
  rw[Ec]at Dz;have WJ:(l.take i).length=i:=by rw[Yl];omega
  refine gH 8 ?_;clear hS;intro b4 w hS;refine gE 0 (Xq6 a.1 Gg.1) ?_;clear hS;intro w hS;refine gH 4 (.AG (T:=λw=>Aa B w I (Ae b4 [S a.1,S a.2] 58::As)) O O O func305 O (λAi=>(X5 (.gd Ai O) X4)) O (λAi=>Xjt a.2 Gg.2 _ hS) hS ?_);clear hS;rintro w hS;refine gH 5 (.AA O O (λAi=>.Oy (.gd Ai O) (.gd Ai O) om om H2 DU) O ?_);rw[show((i:Nat):Int).toNat=(l.take i).length by rw[WJ];(try rw[Y8]),X9u];have hcf:∀w,Aa B w I (Ae b4 [S a.1,S a.2] 58::As)->Calls prog 233 #[.slice (some p) (l.take i).length cap,.func (.func 399) #[] [ptr b4 0].toArray] w (A4 λv w'=>v=.bool ((l.take i).any λb=>b.1==a.1)/\Aa B w' I (Ae b4 [S a.1,S a.2] 58::As)):=λw hS=>Xbc (some p) cap (l.take i) om (λb=>b.1==a.1) 399 _ func399 O [ptr b4 0] (Ae b4 [S a.1,S a.2] 58::As) (λw h=>aP (cells:=Xw) (s:=2) (λ_=>rfl) h (oK hR i om)) (λr hr w h=>Xwz r a b4 As h) hS
  refine gH 1 (.AG (T:=λw=>Aa B w I (Ae b4 [S a.1,S a.2] 58::As)) O O O func233 O (λAi=>(X5 (.gd Ai O) (X5 (.gd Ai O) X4))) O (λAi=>hcf w hS) hS ?_);clear hS;rintro w hS;refine gM 1 ?_ ?_<;>intro BD G9
  ·refine gG 1 (⟨Y5 Value.bool ?_,hS.s⟩);rw[Dz,Mf]
   revert BD
   cases RG a.1<;>cases OQ a.2<;>cases((l.take i).any λb=>b.1==a.1)<;>simp
  refine gG 2 (rd (i+1) ⟨om,?_,hS.y 0 1⟩);rw[Dz,Mf,Yo,ha,Yu];simp only[Mw,sZ]at BD
  rw[BD.1.1,BD.1.2,BD.2];rfl
 exact gG 1 ⟨Y5 Value.bool (by rw[Dz,Yk om];first|done|rfl),hS⟩
theorem zZ{m:Px}(h:MK[i]?=some m):(rT.drop (i*2)).take 2=[S m.1,S m.2]/\(∃c,m.1=[c])/\m.2.length<=6/\([m.1.headD 0]==m.2)=false:=by
 match i,h with
 | 0,h=>cases h;exact⟨O,⟨_,O⟩,de,de⟩
 | 1,h=>cases h;exact⟨O,⟨_,O⟩,de,de⟩
 | 2,h=>cases h;exact⟨O,⟨_,O⟩,de,de⟩
 | 3,h=>cases h;exact⟨O,⟨_,O⟩,de,de⟩
 | 4,h=>cases h;exact⟨O,⟨_,O⟩,de,de⟩
 | i+5,h=>simp[MK]at h
theorem vJ(s:Lu)(hl:s.length<=10000):∀(i:Nat),i<=5->((MK.take i).foldl Mu s).length<=100000000:=by
 have h:∀(i:Nat),i<=5->((MK.take i).foldl Mu s).length<=6^i*s.length:=by
  intro i
  induction i with
  | zero=>intro _;simp
  | succ i ih =>
   intro hi;obtain⟨m,hm⟩:∃m,MK[i]?=some m:=⟨_,Y2 (by show i<5;omega)⟩
   rw[Yo,hm,Yu,Lm];show(PL _ m.2 _).length<=_
   have h1:=Xvg (m.1.headD 0) m.2 (zZ hm).2.2.1 ((MK.take i).foldl Mu s);have h2:=ih om;have h3:6*((MK.take i).foldl Mu s).length<=6*(6^i*s.length):=Nat.mul_le_mul_left 6 h2;rw[bg]
   calc _<=_:=h1
    _<=_:=h3
    _=_:=by rw[<-Y67,lD 6]
 intro i hi;have h1:=h i hi;have h2:6^i<=6^5:=Y4e de hi;have h3:6^i*s.length<=6^5*10000:=Y5g h2 hl;have h4:6^5*10000<=100000000:=de
 omega
theorem Xmy(s:Lu)(m:Px)(hm:MK[i]?=some m)(hs:s.length<=100000000)(hK:Kx I)(As:La)(hS:Aa B w I As):Calls prog 449 #[S s,S m.1,S m.2] w (A4 λv w'=>v=S (Mu s m)/\Aa B w' I As):=by
 obtain⟨_,⟨c,hc⟩,h2,h3⟩:=zZ hm;unfold Mu;rw[hc]at h3 ⊢;exact Xmz s m.2 c hs h2 h3 hK As hS
theorem Xh4(s:Lu)(hl:s.length<=10000)(hK:Kx I)(As:La)(hS:Aa B w I As):Ce B I As 437 [S s] w (S (Ea s)):=by
 refine gG 1 (.val (.Cy (us:=rT) (.of O) hS hK.Hb isAgg423 sizeOf423 O (λ_ _ h=>h)) O (gG 1 (.lk [5] (σ:=Nat) (λi _m=>(0,S ((MK.take i).foldl Mu s))::(6,Ab (i:Nat))::_m) (λi w=>i<=5/\Aa B w I As) (λi=>5-i) 0 ⟨Y4 _,hS⟩ ?_)));rintro i w ⟨hi,hS⟩;refine gN 1 ?_ ?_<;>intro hc7
 ·refine gG 0 ?_;obtain⟨m,hm⟩:∃m,MK[i]?=some m:=⟨_,Y2 (by show i<5;omega)⟩
  have y9:=zZ hm;have NT:((MK.take i).foldl Mu s).length<=100000000:=vJ s hl i om;refine gG 0 ?_;refine .val (Ex.WR (m:=5) (s:=2) (vs:=rT) (us:=[S m.1,S m.2]) (.of O) (.of O) om om M4 DU H0 (by rw[Y8];exact y9.1) (by rw[Y8];show i*2+2<=10;omega)) O ?_;refine gH 7 ?_;clear hS;intro b4 w hS;refine gE 0 (Xmy _ m hm NT hK) ?_;clear hS;intro w hS;refine gG 3 (⟨i+1,⟨?_,O,O,trivial⟩,⟨om,hS.y 0 1⟩,om⟩);show some (S _)=some _
  rw[Yo,hm,Yu,Lm];rfl
 refine gG 2 (⟨?_,hS⟩);rw[show i=5 by omega,<-Xtz];first|done|rfl
theorem Xzi(m:Px)(hm:m.2.length<=6)(rs:Lu)(hrs:rs.length<=1000000)(b6:Nat)(As:La)(hS:Aa B w I (Ae b6 [S rs] 9::As)):Ce B I (Ae b6 [S rs] 9::As) 302 [.agg (Xw m).toArray,ptr b6 0] w (.bool (Xg (38::rs) m.2)):=by
 refine gH 3 ?_;clear hS;intro b2 w hS;refine .val (.cat (l:=[38]) (m:=rs) (.of O) (.of O) (by simp only[List.length_cons,List.length_nil];omega)) O ?_;rw[show[38]++rs=38::rs from O];refine gC 2 (pF (38::rs) m.2 _ (by simp only[List.length_cons];omega) om) ?_;rintro _ _ ⟨rfl,rfl⟩;exact gG 1 ⟨O,hS.s⟩
theorem bB(cs:Lu):∀(s:Lu),decide (0<=Go.Lib.indexAny s cs)=s.any (λc=>cs.contains c)
 | []=>rfl
 | b::l=>by
  rw[Go.Lib.indexAny,Y5s,<-bB cs l];split
  ·rename_i hb;rw[hb];rfl
  ·rename_i hb
   rw[show cs.contains b=false by simpa using hb,lB]
   have:=Go.Lib.indexAny_ge cs l
   split
   ·rename_i h;rw[beq_iff_eq.1 h]
   ·rename_i h
    have h9:Go.Lib.indexAny l cs≠-1:=λe=>h (beq_iff_eq.2 e)
    rw[decide_eq_true om,decide_eq_true om]
theorem Xeb(s cs:Lu)(hs:s.length<=1000000)(HM:iO cs)(hl:cs.length<=1000)(h2:2<=cs.length)(As:La)(hS:Aa B w I As):Ce B I As 300 [S s,S cs] w (.bool (s.any λc=>cs.contains c)):=by
 refine gE 3 (X7g s cs hs HM hl h2) ?_;clear hS;intro w hS;exact gG 2 ⟨Y5 Value.bool (bB cs s),hS⟩
theorem Vg:iO M9:=λj b h=>by
 match j,h with
 | 0,h=>cases h;decide
 | 1,h=>cases h;decide
 | 2,h=>cases h;decide
 | 3,h=>cases h;decide
 | _+4,h=>simp[M9]at h
theorem Xxh{t:Lu}(h:D8 (λm:Px=>Xg t m.2) MK 0=(i:Int)):∃m,MK[i]?=some m/\ON t=some m:=by
 unfold ON;have key:∀(l:List Px) (k:Nat),(D8 (λm:Px=>Xg t m.2) l k=-1/\l.find? (λm=>Xg t m.2)=none)\/∃j m,D8 (λm:Px=>Xg t m.2) l k=((k+j:Nat):Int)/\l[j]?=some m/\l.find? (λm=>Xg t m.2)=some m:=by
  intro l
  induction l with
  | nil=>intro k;exact .inl ⟨O,O⟩
  | cons a l ih =>
   intro k;rw[D8,yI];cases ha:Xg t a.2 with
   | true=>exact .inr ⟨0,a,by simp,O,O⟩
   | false =>
    rcases ih (k+1)with⟨h1,h2⟩|⟨j,m,h1,h2,h3⟩
    ·exact .inl ⟨su h1,su h2⟩
    ·exact .inr ⟨j+1,m,by simp only[Y45,if_false];rw[h1];congr 1;omega,su h2,su h3⟩
 rcases key MK 0 with⟨h1,_⟩|⟨j,m,h1,h2,h3⟩
 ·rw[h1]at h;omega
 ·rw[h1]at h
  have:j=i:=om
  subst this;exact⟨m,h2,h3⟩
theorem Xxi{t:Lu}(h:D8 (λm:Px=>Xg t m.2) MK 0<0):ON t=none:=by
 cases hm:ON t with
 | none=>rfl
 | some m =>
  exfalso
  unfold ON at hm;obtain⟨i,hi⟩:=O3.1 (yr hm);have hp:=List.find?_some hm;have h9:=kG (λm:Px=>Xg t m.2) MK 0;rw[decide_eq_false om]at h9
  have:=Y4w.1 h9.symm m (Y6 hi)
  exact this hp
theorem vL(h:At I (ad 1 0) rT):RS I (some (ad 1 0)) 2 5 (X2 Xw MK):=⟨O,λ_=>⟨_,O,h⟩⟩
theorem mk_pos{m:Px}(h:MK[i]?=some m):1<=m.2.length:=by
 match i,h with
 | 0,h=>cases h;decide
 | 1,h=>cases h;decide
 | 2,h=>cases h;decide
 | 3,h=>cases h;decide
 | 4,h=>cases h;decide
 | i+5,h=>simp[MK]at h
theorem vK{m:Px}(h:m∈MK):m.2.length<=6:=by
 obtain⟨i,hi⟩:=O3.1 h;exact(zZ hi).2.2.1
theorem Ex.oR{d:Option Nat}{gg:Option (Nat×Bool)}{t e:TypeId}{x:Operand}{s:Nat}(hx:Ev n L x (.pointer (some p)))(ht:P.underlying t=some (.array m e))(hs:∀w,(Go.sizeOf e).run P w=.ok s w)(hm:m≠0):Ex P n L w ⟨d,.slice t x none none none,ty,pos,af,gg⟩ (.slice (some p) m m) w:=λa ha=>by
 obtain⟨e1,e2⟩:=Xds ht;have h:=run_sliceAt_array_all (P:=P) w t p (by rw[e1,e2];exact ht);rw[e1,e2,hs]at h;simp[execOp,hx a ha,h,slicedAt,hm]
 rfl
theorem Xb8(s:Lu)(hl:s.length<=10000)(hK:Kx I)(As:La)(hS:Aa B w I As):Cz 217 [S s] w λv w'=>∃n1 e1,v=.tuple #[S n1,Ab (e1:Nat)]/\(match Mo s with|none=>n1=[]/\e1=10|some t=>n1=t/\e1=0)/\Aa B w' I As:=by
 refine gE 3 (Xeb s M9 om Vg de de) ?_;clear hS;intro w hS;refine gM 0 ?_ ?_<;>intro CQ DO
 ·refine gG 2 (⟨[],10,O,?_,hS⟩);unfold Mo;rw[Y7 CQ];exact⟨O,O⟩
 refine gG 1 ?_;clear hS;intro b4 w hS;replace hS:=(hS.An 5 1).pick 1 O;try dsimp only[List.eraseIdx]at hS
 refine .lk [4] (σ:=Lu×Va×Va×Lu) (λ(out,p,v,t) _m=>(0,S t)::_m) (λ(out,p,v,t) w=>out.length+t.length<=s.length/\Hc s=(Hc t).map (out++·)/\(p=.pointer none\/p=ptr b4 0)/\(out=[]->v=.slice none 0 0)/\Aa B w I (Ae b4 [p,v] 331::Ar 5 1 v (out).length (Ax (out))::As)) (λ(out,p,v,t)=>t.length) ([],.pointer none,.slice none 0 0,s) ⟨by simp,by simp,.inl O,λ_=>rfl,hS⟩ ?_;rintro⟨out,p,v,t⟩ w ⟨Mz,AL,hp,mZ,hS⟩;refine gM 2 ?_ ?_<;>intro Bu B_
 ·refine gG 0 ?_;have hul:=wP [38] t;have hnp:∀x∈Bb [38] t,x≠38:=λx hx=>by have:=fj hx;simpa using this
  refine gE 1 (Xtb t 38 om hK) ?_;clear hS;intro w hS;refine gH 9 ?_;clear hS;intro b6 w hS;refine gC 0 (Xr b4 p v out (Bb [38] t) hp _ (hS.x [2,2]) om) ?_;clear hS;rintro _ w ⟨rfl,v2,hS⟩;try dsimp only[List.eraseIdx]at hS
  refine gM 2 ?_ ?_<;>intro LG Dx
  ·refine gG 0 ?_;have hz:Xd [38] t=[]:=by
    cases hf:Xd [38] t with
    | nil=>rfl
    | cons a r=>rw[hf]at LG;simp at LG
   have rp:t=Bb [38] t:=by have:=pP [38] t;rw[hz,Yr]at this;exact this.symm
   have Adc:¬ out++Bb [38] t=[]:=by
    rw[<-rp];intro h9;have h8:=(Y5y.1 h9).2;rw[h8]at Bu;simp at Bu
   refine gE 0 (wR b4 (ptr b4 0) v2 (out++Bb [38] t) (λh=>Yy h Adc)) ?_;clear hS;intro w hS;refine gG 2 (⟨_,0,O,?_,hS.s⟩);have hu:Hc t=some (Bb [38] t):=by
    conv=>lhs;rw[rp,<-Yr (Bb [38] t),Xb4 _ _ hnp,Xm2]
    simp
   unfold Mo;rw[Y3 (nB CQ),AL,hu];exact⟨O,O⟩
  refine gG 0 ?_;have AaV:Xd [38] t=38::(Xd [38] t).drop 1:=by
   cases hf:Xd [38] t with
   | nil=>rw[hf]at LG;simp at LG
   | cons a r =>
    have:=Xnz (Ay:=[38]) (s:=t) (c:=a) (by rw[hf];rfl)
    have e:a=38:=su this
    rw[e];rfl
  have Abe:t=Bb [38] t++38::(Xd [38] t).drop 1:=by rw[<-AaV,pP]
  refine gG 0 (.val (Ex.oR (m:=5) (s:=2) (.of O) M4 DU de) O ?_);refine gP 1 [2] (X92 (some (ad 1 0)) 5 MK de (λm=>Xg (38::((Xd [38] t).drop 1)) m.2) 302 _ func302 O [ptr b6 0] _ (λw h=>aP (cells:=Xw) (s:=2) (λ_=>rfl) h (vL hK.Hb)) (λr hr w h=>Xzi r (vK hr) ((Xd [38] t).drop 1) (by have:=Me [38] t;rw[Ye];omega) b6 _ h)) ?_;clear hS;rintro _ w ⟨rfl,hS⟩;refine gN 3 ?_ ?_<;>intro JP
  ·refine gG 2 (⟨[],10,O,?_,hS.s⟩);have hmk:ON (38::(Xd [38] t).drop 1)=none:=Xxi (oh JP);have hu:Hc t=none:=by
    conv=>lhs;rw[Abe,Xb4 _ _ hnp,xx,Y7 O,hmk]
    first|done|rfl
   unfold Mo;rw[Y3 (nB CQ),AL,hu];exact⟨O,O⟩
  refine gG 0 ?_;obtain⟨k,hk⟩:∃k:Nat,D8 (λm:Px=>Xg (38::(Xd [38] t).drop 1) m.2) MK 0=k:=⟨(D8 (λm:Px=>Xg (38::(Xd [38] t).drop 1) m.2) MK 0).toNat,by have h9:=JP;omega⟩
  obtain⟨m,hm,hmk⟩:=Xxh hk;have y9:=zZ hm;have hk5:k<5:=(Y1.1 hm).1;have hmp:m.2.length<=(38::(Xd [38] t).drop 1).length:=pX (List.find?_some (p:=λm:Px=>Xg (38::(Xd [38] t).drop 1) m.2) hmk);simp only[List.length_cons]at hmp
  have hm2:1<=m.2.length:=mk_pos hm;have d_:(((Xd [38] t).drop 1).drop (m.2.length-1)).length+(Bb [38] t).length+m.1.length<=t.length/\(((Xd [38] t).drop 1).drop (m.2.length-1)).length<t.length:=by
   have h1:=Y5 List.length AaV;obtain⟨c,hc⟩:=y9.2.1;rw[hc];simp only[Ye,List.length_cons,List.length_nil]at h1 ⊢
   omega
  rw[hk];have DW:=hK.Hb;have np:At I ((ad 1 0).add (k*2)) [S m.1,S m.2]:=by
   have h9:=xl (hK.Hb.add (k*2)) 2;rw[y9.1]at h9;exact h9
  refine gH 1 (.val (.Bc (i:=((k:Nat):Int)) (.of O) (.of O) om om M4 DU) O ?_);try rw[Y8]
  refine gC 2 (Xr b4 _ v2 (out++Bb [38] t) m.1 (.inr O) _ ((hS.pick 2 O).pick 2 O) (by obtain⟨c,hc⟩:=y9.2.1;rw[hc];simp only[Y0,List.length_cons,List.length_nil];omega)) ?_;clear hS;rintro _ w ⟨rfl,v3,hS⟩;try dsimp only[List.eraseIdx]at hS
  refine gG 0 (.dw (λw=>∃R,Aa B w I (Ae b6 [S ((Xd [38] t).drop 1)] 9::R)) (λj=>!([].contains j)) ?_);replace hS:=hS.drew;generalize w.drew=w at hS ⊢;have hH:∃R,Aa B w I (Ae b6 [S ((Xd [38] t).drop 1)] 9::R):=⟨_,(hS.x [2])⟩
  refine .tk 0 O hH (λw ⟨R,hS⟩=>(by first|exact(.lo O hS (k:=0) O BF O)|exact(.Ca (.of O) hS (At.add np _) BF O))) ?_;refine .tp 1 O (λw=>(.mo O)) (.tp 2 O (λw=>(.Bc (i:=((k:Nat):Int)) (.of O) (.of O) om om M4 DU)) ?_);try rw[Y8]
  refine .tp 3 O (λw=>(by first|exact .fo 1 O PI O O Bf O|exact .fi 1 O PI O O Bf O)) ?_;refine .tk 4 O hH (λw ⟨R,hS⟩=>(by first|exact(.lo O hS (k:=0) O BF O)|exact(.Ca (.of O) hS (At.add np _) BF O))) ?_;refine .tp 5 O (λw=>(.len (.of O) BV)) (.tp 6 O (λw=>(.sub (.of O) (.of O) ⟨om,om⟩)) (.tp 7 O (λw=>(.L9 (.of O) (.of O) om om BV)) (.tp 8 O (λw=>(.ao O)) (.dn ?_))));rw[show(((m.2.length:Nat):Int)-1).toNat=m.2.length-1 by omega];refine E_ (out++Bb [38] t++m.1,_,_,((Xd [38] t).drop 1).drop (m.2.length-1)) O ⟨by(try dsimp only);simp only[Y0];have:=d_;omega,?_,.inr O,λh=>Yy h (by obtain⟨c,hc⟩:=y9.2.1;rw[hc];simp),(((hS.pick 1 O).pick 1 O).drop (k:=2) O)⟩ (by(try dsimp only);have:=d_;omega);have hu:Hc t=(Hc (((Xd [38] t).drop 1).drop (m.2.length-1))).map (λx=>Bb [38] t++(m.1++x)):=by
   conv=>lhs;rw[Abe,Xb4 _ _ hnp,xx,Y7 O,hmk]
   dsimp only
   cases Hc (((Xd [38] t).drop 1).drop (m.2.length-1))<;>rfl
  rw[AL,hu];cases Hc (((Xd [38] t).drop 1).drop (m.2.length-1))<;>simp[Yc]
 refine gG 0 (gE 0 (wR b4 p v out mZ) ?_);clear hS;intro w hS;refine gG 2 (⟨_,0,O,?_,hS⟩);have rp:t=[]:=su Bu
 subst rp;unfold Mo;rw[Y3 (nB CQ),AL,Xm2];exact⟨by simp,O⟩
def Cb:Nat->Im->List Value->Nd->Prop
 | 0,_,_,_=>False
 | d+1,I,cs,n=>n.name.length<=10000/\n.text.length<=10000/\n.attrs.length<=10000/\n.kids.length<=10000/\(∀a∈n.attrs,a.1.length<=10000/\a.2.length<=10000)/\∃(aa:Option Addr) (ca:Nat) (ka:Option Addr) (ck:Nat) (xs:List (List Value)),cs=[S n.name,.slice aa n.attrs.length ca,S n.text,.slice ka n.kids.length ck]/\n.attrs.length<=ca/\n.kids.length<=ck/\RS I aa 2 n.attrs.length (X2 Xw n.attrs)/\RS I ka 4 n.kids.length xs.flatten/\xs.length=n.kids.length/\(∀x∈xs,x.length=4)/\∀(i:Nat) x k,xs[i]?=some x->n.kids[i]?=some k->Cb d I x k
theorem Cb.mono(hl:Le I J):∀{d:Nat} {cs:Lv} {n:Nd},Cb d I cs n->Cb d J cs n
 | 0,_,_,h=>h
 | d+1,cs,n,h=>by
  obtain⟨h1,h2,h3,h4,h5,aa,ca,ka,ck,xs,h6,h7,h8,h9,Jo,h11,h12,h13⟩:=h;exact⟨h1,h2,h3,h4,h5,aa,ca,ka,ck,xs,h6,h7,h8,h9.mono hl,Jo.mono hl,h11,h12,λi x k hx hk=>(h13 i x k hx hk).mono hl⟩
theorem Cb.cells:∀{d:Nat} {cs:Lv} {n:Nd},Cb d I cs n->∃(s1:Lu) (a1:Oa) (n1 m1:Nat) (s2:Lu) (a2:Oa) (n2 m2:Nat),cs=[S s1,.slice a1 n1 m1,S s2,.slice a2 n2 m2]
 | 0,_,_,h=>h.elim
 | d+1,cs,n,h=>by
  obtain⟨h1,h2,h3,h4,h5,aa,ca,ka,ck,xs,h6,_⟩:=h;exact⟨_,_,_,_,_,_,_,_,h6⟩
theorem Xoe{xs:List Lv}(hR:RS I ka 4 m xs.flatten)(hm:xs.length=m)(h4:∀x∈xs,x.length=4){x:Lv}(hx:xs[i]?=some x):∃q,ka=some q/\At I (q.add (i*4)) x:=by
 obtain⟨q,rfl,hq⟩:=hR.2 (oh ((Y1.1 hx).1));refine⟨q,O,?_⟩;have h3:=xl (hq.add (i*4)) 4;rw[wS xs h4 i x hx]at h3;exact h3
theorem Xiu{f:Int->Nd->Option Int}(hf:∀l n m,0<=l->f l n=some m->0<=m/\m<=l):∀(ks:List Nd) (l m:Int),0<=l->F8 f l ks=some m->0<=m/\m<=l
 | [],l,m,h0,h=>by cases h;exact⟨h0,Int.le_refl _⟩
 | k::r,l,m,h0,h=>by
  rw[F8]at h;split at h
  ·cases h
  ·rename_i l2 h2
   have h3:=hf _ _ _ h0 h2;have h4:=Xiu hf r l2 m h3.1 h;exact⟨h4.1,om⟩
theorem Xu3:∀(d:Nat) (l:Int) (n:Nd) (m:Int),0<=l->Cq d l n=some m->0<=m/\m<=l
 | 0,_,_,_,_,h=>by cases h
 | d+1,l,n,m,h0,h=>by
  rw[Cq]at h;split at h
  ·cases h
  ·rename_i hc
   have:=Xiu (λl n m h0 h=>Xu3 d l n m h0 h) n.kids (l-1) m om h
   exact⟨this.1,om⟩
theorem Xxk:∀(d:Nat) (n:Nd) (cs:Lv) (deep left:Int) (lb:Nat) (B w:Wo) (I:Im) (As:La),1<=deep->deep+(d:Int)=9->0<=left->left<=1000->Cb d I cs n->Aa B w I (Ae lb [Ab (left)] 3::As)->
  Cz 218 [.agg cs.toArray,Ab deep,ptr lb 0] w λv w'=>∃l2,v=.bool (Cq d left n).isSome/\(Cq d left n=none\/Cq d left n=some l2)/\Aa B w' I (Ae lb [Ab (l2)] 3::As):=by
 intro d
 induction d with
 | zero=>intro n cs deep left lb B w I As _ _ _ _ hN;exact hN.elim
 | succ d ih =>
  intro n cs deep left lb B w I As hp hd h0 h1 hN hS;obtain⟨hnl,WJ,Gg,Cw,SC,aa,ca,ka,ck,xs,rfl,HM,qS,KF,JL,CW,WK,jF⟩:=hN;refine gH 14 ?_;clear hS;intro b3 w hS;refine gH 5 (.AG (T:=λw=>Aa B w I (Ae b3 [S n.name,.slice aa n.attrs.length ca,S n.text,.slice ka n.kids.length ck] 138::Ae lb [Ab (left-1)] 3::As)) O O O func303 O (λAi=>(X5 (.gd Ai O) X4)) O (λAi=>Xq6 n.name om _ hS) hS ?_);clear hS;rintro w hS;refine gH 5 (.AG (T:=λw=>Aa B w I (Ae b3 [S n.name,.slice aa n.attrs.length ca,S n.text,.slice ka n.kids.length ck] 138::Ae lb [Ab (left-1)] 3::As)) O O O func304 O (λAi=>(X5 (.gd Ai O) X4)) O (λAi=>Xzo aa ca n.attrs HM om (λa h=>by have:=SC a h;omega) KF _ hS) hS ?_);clear hS;rintro w hS;refine gH 5 (.AG (T:=λw=>Aa B w I (Ae b3 [S n.name,.slice aa n.attrs.length ca,S n.text,.slice ka n.kids.length ck] 138::Ae lb [Ab (left-1)] 3::As)) O O O func305 O (λAi=>(X5 (.gd Ai O) X4)) O (λAi=>Xjt n.text om _ hS) hS ?_);clear hS;rintro w hS;refine gM 13 ?_ ?_<;>intro CS mK
  ·refine gG 1 ?_;have hF:Cq (d+1) left n=none:=by
    rw[Cq,Y7];simp only[PM,Yb,ly,dq1]at CS
    rcases CS with (((h|h)|h)|h)|h
    ·rcases h with h|h
     ·push_cast at hd;omega
     ·left;omega
    ·exact .inr (.inl h)
    ·exact .inr (.inr (.inl h))
    ·exact .inr (.inr (.inr (.inl h)))
    ·refine .inr (.inr (.inr (.inr ⟨su h.1,λe=>?_⟩)));have h2:=h.2;rw[e]at h2;simp at h2
   refine⟨left-1,by rw[hF];rfl,.inl hF,hS.s⟩
  refine gG 4 ?_;simp only[Mw,qF,sZ,dq2]at CS
  have hF:Cq (d+1) left n=F8 (Cq d) (left-1) n.kids:=by
   rw[Cq,Y3];rintro(e|e|e|e|⟨e1,e2⟩)
   ·omega
   ·rw[e]at CS;simp at CS
   ·rw[e]at CS;simp at CS
   ·rw[e]at CS;simp at CS
   ·rcases CS.2 with e3|e3
    ·simp at e3;exact e1 e3
    ·have:=U5.2 e2;omega
  replace hS:Aa B w I (Ae lb [Ab (left-1)] 3::As):=hS.drop (k:=0) O;refine .lk [1,2,52,53] (σ:=Nat×Int) (λ(i,l) _m=>(54,Ab (i:Nat))::_m) (λ(i,l) w=>i<=n.kids.length/\F8 (Cq d) (left-1) n.kids=F8 (Cq d) l (n.kids.drop i)/\0<=l/\l<=1000/\Aa B w I (Ae lb [Ab (l)] 3::As)) (λ(i,l)=>n.kids.length-i) (0,left-1) ⟨Y4 _,O,om,om,hS⟩ ?_;rintro⟨i,l⟩ w ⟨hi,Dz,h0l,h1l,hS⟩;refine gN 1 ?_ ?_<;>intro Acq
  ·refine gG 0 ?_;obtain⟨k,hk⟩:∃k,n.kids[i]?=some k:=⟨_,Y2 om⟩
   obtain⟨x,Qv⟩:∃x,xs[i]?=some x:=⟨_,Y2 om⟩
   have dv:=jF i x k Qv hk;obtain⟨q,WG,hx⟩:=Xoe JL CW WK Qv;subst WG;obtain⟨s1,a1,n1,m1,s2,a2,n2,m2,DV⟩:=dv.cells;subst DV;have Ec:n.kids.drop i=k::n.kids.drop (i+1):=by rw[Yp om,(Y1.1 hk).2]
   refine gH 8 ?_;clear hS;intro b8 w hS;refine gP 0 [1] (ih k [S s1,.slice a1 n1 m1,S s2,.slice a2 n2 m2] (deep+1) l lb B _ I _ om (by push_cast at hd;omega) h0l h1l dv) ?_;clear hS;rintro _ w ⟨l2,rfl,LP,hS⟩;refine gM 1 ?_ ?_<;>intro mH AhA
   ·refine gG 1 ?_;have q8:Cq d l k=none:=by
     cases he:Cq d l k with
     | none=>rfl
     | some z=>rw[he]at mH;simp at mH
    have KE:Cq (d+1) left n=none:=by rw[hF,Dz,Ec,F8,q8]
    exact⟨l2,by rw[KE];rfl,.inl KE,hS.s⟩
   refine gG 2 ?_;have q8:Cq d l k=some l2:=by
    rcases LP with e|e
    ·rw[e]at mH;simp at mH
    ·exact e
   have hle:=Xu3 d l k l2 h0l q8;refine rd (i+1,l2) ⟨od,?_,hle.1,od,(hS.y 1 1)⟩;rw[Dz,Ec,F8,q8]
  refine gG 1 ?_;have KE:Cq (d+1) left n=some l:=by rw[hF,Dz,Yk om];rfl
  exact⟨l,by rw[KE];rfl,.inr KE,hS⟩
theorem Xjs(n:Nd)(cs:Lv)(hN:Cb 8 I cs n)(As:La)(hS:Aa B w I As):Ce B I As 121 [.agg cs.toArray] w (.bool (Cq 8 200 n).isSome):=by
 obtain⟨s1,a1,n1,m1,s2,a2,n2,m2,DV⟩:=hN.cells;subst DV;refine gH 5 ?_;clear hS;intro b1 b3 w hS;refine gP 0 [] (Xxk 8 n [S s1,.slice a1 n1 m1,S s2,.slice a2 n2 m2] 1 200 b3 B _ I _ de de de de hN) ?_;clear hS;rintro _ w ⟨l2,rfl,LP,hS⟩;exact gG 1 ⟨O,hS.s⟩
theorem lM{l:List Px}(hR:RS I a 2 l.length (X2 Xw l)){x:Px}(hx:l[i]?=some x):∃q,a=some q/\At I (q.add (i*2)) [S x.1,S x.2]:=AQ (cells:=Xw) (s:=2) (λ_=>rfl) hR hx
theorem iN:∀(d:Nat) (n:Nd) (cs:Lv) (bb:Nat) (p v:Va) (out:Lu) (B w:Wo) (I:Im) (As:La),Kx I->Cb d I cs n->(p=.pointer none\/p=ptr bb 0)->(out++CG d n).length<=1000000->Aa B w I (Ae bb [p,v] 331::Ar 5 1 v (out).length (Ax (out))::As)->
  Calls prog 400 #[ptr bb 0,.agg cs.toArray] w (A4 λu w'=>u=.tuple #[]/\∃v',Aa B w' I (Ae bb [ptr bb 0,v'] 331::Ar 5 1 v' (out++CG d n).length (Ax (out++CG d n))::As)):=by
 intro d
 induction d with
 | zero=>intro n cs bb p v out B w I As _ hN;exact hN.elim
 | succ d ih =>
  intro n cs bb p v out B w I As hK hN hp hT hS;obtain⟨hnl,WJ,Gg,Cw,SC,aa,ca,ka,ck,xs,rfl,HM,qS,KF,JL,CW,WK,jF⟩:=hN;have hT1:(out++([60]++n.name)++(n.attrs.map GL).flatten).length<=1000000:=by simp only[CG,Y0,List.length_cons,List.length_nil]at hT ⊢;omega
  have hT2:((out++([60]++n.name)++(n.attrs.map GL).flatten)++([62]++Ea n.text)++(n.kids.map (CG d)).flatten).length<=1000000:=by simp only[CG,Y0,List.length_cons,List.length_nil]at hT ⊢;omega
  refine gH 5 ?_;clear hS;intro b3 w hS;refine gC 0 (Xr bb p v out ([60]++n.name) hp _ (hS.x [2,2]) (by simp only[Y0,List.length_cons,List.length_nil]at hT1 ⊢;omega)) ?_;clear hS;rintro _ w ⟨rfl,v1,hS⟩;try dsimp only[List.eraseIdx]at hS
  have Bh:=hS;clear hS;refine gG 4 (.lk [0,3,14,15] (σ:=Nat×Lu×Va) (λ(i,q,v) _m=>(16,Ab (i:Nat))::_m) (λ(i,q,v) w=>i<=n.attrs.length/\q++((n.attrs.drop i).map GL).flatten=(out++([60]++n.name)++(n.attrs.map GL).flatten)/\Aa B w I (Ae bb [ptr bb 0,v] 331::Ar 5 1 v (q).length (Ax (q))::Ae b3 [S n.name,.slice aa n.attrs.length ca,S n.text,.slice ka n.kids.length ck] 138::As)) (λ(i,q,v)=>n.attrs.length-i) (0,out++([60]++n.name),v1) ⟨Y4 _,O,Bh⟩ ?_);rintro⟨i,q,v⟩ w ⟨hi,Dz,hS⟩;clear Bh;refine gN 1 ?_ ?_<;>intro Gx
  ·refine gG 0 ?_;obtain⟨a,ha⟩:∃a,n.attrs[i]?=some a:=⟨_,Y2 om⟩
   obtain⟨qa,WG,hx⟩:=lM KF ha;subst WG;have Aau:=SC a (Y6 ha);have JU:=Xfa a.2;have Ec:n.attrs.drop i=a::n.attrs.drop (i+1):=by rw[Yp om,(Y1.1 ha).2]
   have jN:q.length<=1000000:=by have:=Y5 List.length Dz;simp only[Y0]at this hT1;omega
   refine gG 4 ?_;clear hS;intro b5 w hS;refine gD [0] [] [0,1,2,3,4,5,6,7,8,9,10] ?_;clear hS;intro w hS;refine gE 7 (Xh4 a.2 om hK) ?_;clear hS;intro w hS;refine gC 2 (Xr bb (ptr bb 0) v q (((([32]++a.1)++[61,34])++Ea a.2)++[34]) (.inr O) _ (hS.x [2,2]) (by simp only[Y0,List.length_cons,List.length_nil];omega)) ?_;clear hS;rintro _ w ⟨rfl,v2,hS⟩;try dsimp only[List.eraseIdx]at hS
   refine gG 2 (rd (i+1,q++(((([32]++a.1)++[61,34])++Ea a.2)++[34]),v2) ⟨od,?_,(hS.z [3,2,2] 3 1)⟩);rw[<-Dz,Ec];simp[GL]
  refine gG 0 ?_;have Hv:q=(out++([60]++n.name)++(n.attrs.map GL).flatten):=by rw[<-Dz,Yk om];simp
  subst Hv;have het:=Xfa n.text;refine gE 3 (Xh4 n.text om hK) ?_;clear hS;intro w hS;refine gC 1 (Xr bb (ptr bb 0) v (out++([60]++n.name)++(n.attrs.map GL).flatten) ([62]++Ea n.text) (.inr O) _ (hS.x [1,1]) (by simp only[Y0,List.length_cons,List.length_nil]at hT1 ⊢;omega)) ?_;clear hS;rintro _ w ⟨rfl,v3,hS⟩;try dsimp only[List.eraseIdx]at hS
  have Bh:=hS;clear hS;refine gG 4 (.lk [0,3,39,40] (σ:=Nat×Lu×Va) (λ(i,q,v) _m=>(41,Ab (i:Nat))::_m) (λ(i,q,v) w=>i<=n.kids.length/\q++((n.kids.drop i).map (CG d)).flatten=((out++([60]++n.name)++(n.attrs.map GL).flatten)++([62]++Ea n.text)++(n.kids.map (CG d)).flatten)/\Aa B w I (Ae bb [ptr bb 0,v] 331::Ar 5 1 v (q).length (Ax (q))::Ae b3 [S n.name,.slice aa n.attrs.length ca,S n.text,.slice ka n.kids.length ck] 138::As)) (λ(i,q,v)=>n.kids.length-i) (0,(out++([60]++n.name)++(n.attrs.map GL).flatten)++([62]++Ea n.text),v3) ⟨Y4 _,O,Bh⟩ ?_);rintro⟨i,q,v⟩ w ⟨hi,Dz,hS⟩;clear Bh;refine gN 1 ?_ ?_<;>intro JR
  ·refine gG 0 ?_;obtain⟨k,hk⟩:∃k,n.kids[i]?=some k:=⟨_,Y2 om⟩
   obtain⟨x,Qv⟩:∃x,xs[i]?=some x:=⟨_,Y2 om⟩
   have dv:=jF i x k Qv hk;obtain⟨qa,WG,hx⟩:=Xoe JL CW WK Qv;subst WG;obtain⟨s1,a1,n1,m1,s2,a2,n2,m2,DV⟩:=dv.cells;subst DV;have Ec:n.kids.drop i=k::n.kids.drop (i+1):=by rw[Yp om,(Y1.1 hk).2]
   have jN:(q++CG d k).length<=1000000:=by have:=Y5 List.length Dz;rw[Ec]at this;simp only[Yt,JG,Y0]at this hT2 ⊢;omega
   refine gH 6 ?_;clear hS;intro b7 w hS;refine gP 0 [2,2] (ih k [S s1,.slice a1 n1 m1,S s2,.slice a2 n2 m2] bb (ptr bb 0) v q B _ I _ hK dv (.inr O) jN) ?_;clear hS;rintro _ w ⟨rfl,v2,hS⟩;refine gG 2 (rd (i+1,q++CG d k,v2) ⟨od,?_,(hS.z [3,2,2] 3 1)⟩);rw[<-Dz,Ec];simp[GL]
  refine gG 0 ?_;have E8:q=((out++([60]++n.name)++(n.attrs.map GL).flatten)++([62]++Ea n.text)++(n.kids.map (CG d)).flatten):=by rw[<-Dz,Yk om];simp
  subst E8;refine gC 5 (Xr bb (ptr bb 0) v ((out++([60]++n.name)++(n.attrs.map GL).flatten)++([62]++Ea n.text)++(n.kids.map (CG d)).flatten) (([60,47]++n.name)++[62]) (.inr O) _ (hS.x [1,1]) (by simp only[Y0,List.length_cons,List.length_nil]at hT2 ⊢;omega)) ?_;clear hS;rintro _ w ⟨rfl,v5,hS⟩;try dsimp only[List.eraseIdx]at hS
  refine gG 0 ?_;have he:((out++([60]++n.name)++(n.attrs.map GL).flatten)++([62]++Ea n.text)++(n.kids.map (CG d)).flatten)++(([60,47]++n.name)++[62])=out++CG (d+1) n:=by simp[CG]
  rw[he]at hS;exact⟨O,v5,hS.s⟩
theorem Xzn(n:Nd)(cs:Lv)(hK:Kx I)(hN:Cb 8 I cs n)(hT:(CG 8 n).length<=1000000)(As:La)(hS:Aa B w I As):Ce B I As 306 [.agg cs.toArray] w (.tuple #[S (if(Cq 8 200 n).isSome=true then CG 8 n else[]),Ab (if(Cq 8 200 n).isSome=true then 0 else 1)]):=by
 obtain⟨s1,a1,n1,m1,s2,a2,n2,m2,DV⟩:=hN.cells;subst DV;refine gH 4 ?_;clear hS;intro b1 w hS;refine gE 0 (Xjs n [S s1,.slice a1 n1 m1,S s2,.slice a2 n2 m2] hN) ?_;clear hS;intro w hS;refine gM 1 ?_ ?_<;>intro KG hc7
 ·refine gG 2 (⟨?_,hS.s⟩);rw[Y3 (su KG),Y3 (su KG)]
 refine gG 1 ?_;clear hS;intro b4 w hS;replace hS:=(hS.An 5 1).pick 1 O;try dsimp only[List.eraseIdx]at hS
 refine gP 1 [1,1] (iN 8 n [S s1,.slice a1 n1 m1,S s2,.slice a2 n2 m2] b4 _ _ [] B _ I _ hK hN (.inl O) (by rw[Ez];exact hT)) ?_;clear hS;rintro _ w ⟨rfl,v2,hS⟩;rw[Ez]at hS;have JU:CG 8 n≠[]:=by simp[CG]
 refine gP 0 [] (wR b4 _ v2 (CG 8 n) (λh=>Yy h JU) _) ?_;clear hS;rintro _ w ⟨rfl,hS⟩;refine gG 2 (⟨?_,hS.s⟩);rw[Y7 (su KG),Y7 (su KG)]
theorem Xh7(rb:Nat)(t x:Lu)(l:Int)(As:La)(hS:Aa B w I (Ae rb [S (t),Ab (l)] 226::As)):Ce B I (Ae rb [S (if Xg t x=true then t.drop x.length else t),Ab (l)] 226::As) 214 [ptr rb 0,S x] w (.bool (Xg t x)):=by
 refine gE 6 (Xa2 t x) ?_;clear hS;intro w hS;refine gG 12 ?_;clear hS;intro w hS;exact⟨O,hS⟩
theorem Xw6(rb:Nat)(t Ay:Lu)(hl:t.length<=1000000)(l:Int)(As:La)(hI:∀w,Aa B w I (Ae rb [S (t),Ab (l)] 226::As)->Calls prog 299 #[S t,S Ay] w (A4 λv w'=>v=Ab (Go.Lib.indexAny t Ay)/\Aa B w' I (Ae rb [S (t),Ab (l)] 226::As)))(hS:Aa B w I (Ae rb [S (t),Ab (l)] 226::As)):Ce B I (Ae rb [S (Xd Ay t),Ab (l)] 226::As) 215 [ptr rb 0,S Ay] w (S (Bb Ay t)):=by
 refine gP 6 [] (hI _) ?_;clear hS;rintro _ w ⟨rfl,hS⟩;have hix:Go.Lib.indexAny t Ay=-1/\Bb Ay t=t/\Xd Ay t=[]\/∃k:Nat,Go.Lib.indexAny t Ay=k/\Bb Ay t=t.take k/\Xd Ay t=t.drop k/\k<t.length:=by
  have IQ:=Go.Lib.indexAny_ge Ay t
  by_cases e:Go.Lib.indexAny t Ay=-1
  ·exact .inl ⟨e,Xdq e⟩
  ·obtain⟨k,hk⟩:∃k:Nat,Go.Lib.indexAny t Ay=k:=⟨(Go.Lib.indexAny t Ay).toNat,om⟩
   exact .inr ⟨k,hk,Xkj hk⟩
 generalize Go.Lib.indexAny t Ay=ix at hix;refine gN 3 ?_ ?_<;>intro Dh
 ·refine gG 6 ?_;have AaY:ix=-1/\Bb Ay t=t/\Xd Ay t=[]:=by
   rcases hix with h|⟨k,h,_⟩
   ·exact h
   ·rw[h]at Dh;omega
  refine gH 14 (gG 5 ?_);clear hS;intro w hS;refine⟨?_,?_⟩
  ·rw[AaY.2.1];(try rw[Y8]);rw[Jm]
  ·rw[AaY.2.2];rw[Y8,s5]at hS;exact hS
 refine gG 0 ?_;obtain⟨k,hk,Jr,JW,qY⟩:∃k:Nat,ix=k/\Bb Ay t=t.take k/\Xd Ay t=t.drop k/\k<t.length:=by
  rcases hix with⟨h,_⟩|h
  ·rw[h]at Dh;omega
  ·exact h
 subst hk;refine gH 14 (gG 5 ?_);clear hS;intro w hS;refine⟨?_,?_⟩
 ·rw[Jr];(try rw[Y8])
 ·rw[JW];rw[Y8]at hS;exact hS
theorem QR(rb:Nat)(t:Lu)(c:Ui)(hc:c.toNat<128)(hl:t.length<=1000000)(l:Int)(As:La)(hS:Aa B w I (Ae rb [S (t),Ab (l)] 226::As)):Calls prog 215 #[ptr rb 0,S [c]] w (A4 λv w'=>v=S (Bb [c] t)/\Aa B w' I (Ae rb [S (Xd [c] t),Ab (l)] 226::As)):=Xw6 rb t [c] hl l As (λw h=>Xjw t c hc _ h) hS
theorem wK(rb:Nat)(t:Lu)(hl:t.length<=1000000)(l:Int)(As:La)(hS:Aa B w I (Ae rb [S (t),Ab (l)] 226::As)):Calls prog 215 #[ptr rb 0,S [32,62]] w (A4 λv w'=>v=S (Bb [32,62] t)/\Aa B w' I (Ae rb [S (Xd [32,62] t),Ab (l)] 226::As)):=Xw6 rb t [32,62] hl l As (λw h=>X7g t [32,62] hl (λj b h=>by
  match j,h with
  | 0,h=>cases h;decide
  | 1,h=>cases h;decide
  | _+2,h=>simp at h) de de _ h) hS
end Go.Proofs.W9
namespace Xm
open Ul Pc Gk FI Tk Tr
def QO(c:Ui):Bool:=LZ c||(48<=c&&c<=57)||c==45
def Mb(s:Lu):Prop:=∀c∈s,QO c=true
theorem vx{c:Ui}(h:hx c=some d):QO c=true:=by
 have:=Xf (p:=λc=>!(hx c).isSome||QO c) dk c
 rw[h]at this;simpa using this
theorem SR:∀(s:Lu) (n d:Nat),Js n s=some d->Mb s
 | [],_,_,_=>λc hc=>by simp at hc
 | c::r,n,d,h=>by
  rw[Js]at h;cases hc:hx c with
  | none=>rw[hc]at h;cases h
  | some x =>
   rw[hc]at h;intro y hy;rcases Yi.1 hy with rfl|hy
   ·exact vx hc
   ·exact SR r _ _ h y hy
theorem Xot{s:Lu}(h:EZ s=some (k,d)):Mb s:=by
 unfold EZ at h;split at h
 ·cases h
 ·rename_i hk
  obtain⟨x,hx,e⟩:=lr.1 h;have hl:=SY (Bb [45] s);have h1:Mb (Bb [45] s):=by
   rw[SX hk]
   have:=(by decide:∀k:Fin 7,∀c∈pre k.val,QO c=true) ⟨PD (Bb [45] s),om⟩
   exact this
  unfold UF at hx;split at hx
  ·rename_i qO
   have h2:=SR _ _ _ hx;intro c hc;rw[<-pP [45] s]at hc;rcases Yn.1 hc with hc|hc
   ·exact h1 c hc
   ·cases hf:Xd [45] s with
    | nil=>rw[hf]at qO;simp at qO
    | cons a r =>
     rw[hf]at hc h2;rcases Yi.1 hc with rfl|hc
     ·have:=Xnz (Ay:=[45]) (s:=s) (c:=c) (by rw[hf];rfl)
      have:c=45:=su this
      rw[this];decide
     ·exact h2 c hc
  ·cases hx
theorem wc{a b:Ui}(h:a≠b)(r p:Lu):Xg (a::r) (b::p)=false:=by
 unfold Xg;simp[h]
theorem aO{a b:Ui}(h:a≠b)(c:Ui)(r p:Lu):Xg (c::a::r) (c::b::p)=false:=by
 unfold Xg;rw[Y8,List.length_cons,List.length_cons,qG,qG,show(c::a::r.take p.length==c::b::p)=false from beq_eq_false_iff_ne.2 λe=>by injection e with _ e;injection e with e _;exact h e,jy]
theorem cD(a r:Lu):(a++r).drop a.length=r:=by simp
theorem Vl(a:Ui)(ha:a≠32)(rest:Lu)(f:Nat)(out:List Px):F9 (f+1) (a::rest) out=some (out,a::rest):=by
 rw[F9,Y7 (wc ha _ _)]
theorem Vk{f:Nat}(g:Nat){s:Lu}{out:List Px}(hf:s.length<f)(hg:s.length<g):F9 f s out=F9 g s out:=Xew f g s out hf hg
structure Nt where
 ticket:Lu
 url:Lu
 tries:Int
 next:Int
deriving DecidableEq
def QP(t:Lu):Bool:=MC t 2||MC t 3
def OP(n:Nt):Bool:=QP n.ticket&&decide ((n.url.length:Int)<=100)&&decide (0<=n.tries)&&decide (n.tries<=9)&&decide (0<=n.next)&&decide (n.next<=1099511627776)
end Xm
namespace Go.Proofs.W9
open Gk Ul Pc FI Xm Tr
open Tryz
def tkn(b:Bool)(X x:Lu):Lu:=if(!b&&Xg X x)=true then X.drop x.length else X
theorem QN(rb:Nat)(X x:Lu)(l:Int)(b:Bool)(As:La)(hS:Aa B w I (Ae rb [S (X),Ab (l)] 226::As)):(b=false->Calls prog 214 #[ptr rb 0,S x] w (A4 λv w'=>v=.bool (Xg X x)/\Aa B w' I (Ae rb [S (tkn b X x),Ab (l)] 226::As)))/\(b≠false->Aa B w I (Ae rb [S (tkn b X x),Ab (l)] 226::As)):=by
 refine⟨λh=>?_,λh=>?_⟩
 ·subst h;exact(Xh7 rb X x l As hS)
 ·have:b=true:=su h
  subst this;exact hS
theorem Xt6(rb:Nat)(t0:Lu)(hl0:t0.length<=10000)(l:Int)(hK:Kx I)(As:La)(hS:Aa B w I (Ae rb [S (t0),Ab (l)] 226::As)):Calls prog 216 #[ptr rb 0] w (A4 λv w'=>∃J aa m c ok t',v=.tuple #[.slice aa m c,.bool ok]/\Le I J/\(match F9 (t0.length+1) t0 []with
   | none=>ok=false
   | some (ps,r)=>ok=true/\t'=r/\m=ps.length/\m<=c/\RS J aa 2 m (X2 Xw ps)/\(∀a∈ps,a.1.length<=t0.length/\a.2.length<=t0.length)/\ps.length<=t0.length)/\Aa B w' J (Ae rb [S (t'),Ab (l)] 226::As)):=by
 refine gG 3 ?_;replace hS:=(hS.An 58 2).pick 1 O;try dsimp only[List.eraseIdx]at hS
 refine .lk [0] (σ:=Lu×List Px×Va) (λ(t,out,v) _m=>(4,v)::_m) (λ(t,out,v) w=>t.length<=t0.length/\F9 (t0.length+1) t0 []=F9 (t.length+1) t out/\out.length+t.length<=t0.length/\(∀a∈out,a.1.length<=t0.length/\a.2.length<=t0.length)/\Aa B w I (Ae rb [S (t),Ab (l)] 226::Ar 58 2 v (out).length (X2 Xw (out))::As)) (λ(t,out,v)=>t.length) (t0,[],.slice none 0 0) ⟨Yd _,O,by simp,by simp,hS⟩ ?_;rintro⟨t,out,v⟩ w ⟨WJ,SC,Mz,u9,hS⟩;refine gC 4 (pF t [32] _ om de) ?_;rintro _ _ ⟨rfl,rfl⟩;refine gM 0 ?_ ?_<;>intro Bu B_
 ·refine gG 0 ?_;have HN:=pX Bu;simp only[List.length_cons,List.length_nil]at HN;obtain⟨t1,SO⟩:∃x,x=t.drop 1:=⟨_,O⟩
  have NV:t1.length=t.length-1:=by rw[SO,Ye]
  refine gG 9 ?_;clear hS;intro w hS;rw[show List.drop (1:Int).toNat t=t1 from SO.symm]at hS;refine gE 1 (QR rb t1 61 de om l) ?_;clear hS;intro w hS;refine gG 1 ?_;obtain⟨t2,eH⟩:∃x,x=Xd [61] t1:=⟨_,O⟩
  rw[<-eH]at hS;have LP:t2.length<=t1.length:=by rw[eH];exact Me _ _
  have JW:=wP [61] t1;refine gE 1 (Xh7 rb t2 [61,34] l) ?_;clear hS;intro w hS;refine gM 1 ?_ ?_<;>intro JN E4
  ·refine gH 2 (.nil (.ret ?_));refine λ_ A5=>fX A5 O O (⟨_,O,I,none,0,0,false,_,O,Le.refl _,?_,(hS.y 1 1)⟩)
   rw[SC,F9,Y3 (nB Bu),<-SO,<-eH,Y7 (su JN)]
  refine gG 0 ?_;have E8:Xg t2 [61,34]=true:=su JN
  rw[Y7 E8]at hS;have KK:=pX E8;simp only[List.length_cons,List.length_nil]at KK;obtain⟨t3,ht3⟩:∃x,x=t2.drop 2:=⟨_,O⟩
  have q8:t3.length=t2.length-2:=by rw[ht3,Ye]
  rw[show List.drop ([61,34]:Lu).length t2=t3 from ht3.symm]at hS;have qY:=wP [34] t3;refine gE 1 (QR rb t3 34 de om l) ?_;clear hS;intro w hS;refine gF 0 (Xb8 (Bb [34] t3) om hK) ?_;clear hS;rintro _ w ⟨n1,e1,rfl,hu,hS⟩;refine gG 5 ?_;obtain⟨t4,rn⟩:∃x,x=Xd [34] t3:=⟨_,O⟩
  rw[<-rn]at hS;have Qp:=λb=>QN rb t4 [34] _ b _ hS
  refine gH 4 (.P6 O O O MH O (λAi=>X5 (.gd Ai O) (Be O X4)) O (Qp _).1 (Qp _).2 ?_);clear hS Qp;intro w hS;refine gM 2 ?_ ?_<;>intro E3 Wt
  ·refine gH 2 (.nil (.ret ?_));refine λ_ A5=>fX A5 O O (⟨_,O,I,none,0,0,false,_,O,Le.refl _,?_,(hS.y 1 1)⟩)
   rw[SC,F9,Y3 (nB Bu),<-SO,<-eH,Y3 (nB E8),<-ht3];cases hh:Mo (Bb [34] t3)with
   | none=>rfl
   | some z =>
    rw[hh]at hu;have h0:=hu.2;subst h0;dsimp only
    rw[<-rn,Y7 (su E3)]
  refine gG 0 ?_;have he0:e1=0/\Xg t4 [34]=true:=su E3
  have uW:(!((e1:Int)!=0)&&Xg t4 [34])=true:=by rw[he0.1,he0.2];rfl
  have hp4:=pX he0.2;simp only[List.length_cons,List.length_nil]at hp4;unfold tkn at hS;rw[Y7 uW]at hS;obtain⟨t5,ht5⟩:∃x,x=t4.drop 1:=⟨_,O⟩
  have hl5:t5.length=t4.length-1:=by rw[ht5,Ye]
  rw[show List.drop ([34]:Lu).length t4=t5 from ht5.symm]at hS;have MA:Mo (Bb [34] t3)=some n1:=by
   cases hh:Mo (Bb [34] t3)with
   | none=>rw[hh]at hu;have:=hu.2;omega
   | some z=>rw[hh]at hu;rw[hu.1]
  have Adw:=iE MA;rw[<-rn]at qY;refine gG 7 ?_;clear hS;intro b43 a44 c44 uD w hS;replace hS:=hS.px [1,1];have er:X2 Xw (out++[(Bb [61] t1,n1)])=X2 Xw out++[S (Bb [61] t1),S n1]:=by simp[X2,Xw]
  have el:(out++[(Bb [61] t1,n1)]).length=out.length+1:=by simp
  refine E_ (t5,out++[(Bb [61] t1,n1)],_) O ⟨od,?_,by rw[el];(try dsimp only);omega,λa ha=>?_,by rw[er,el];exact hS⟩
  ·rw[SC,F9,Y3 (nB Bu),<-SO,<-eH,Y3 (nB E8),<-ht3,MA];dsimp only
   rw[<-rn,Y3 (nB he0.2),<-ht5];exact Vk _ om om
  ·rcases Yn.1 ha with h|h
   ·exact u9 a h
   ·rw[HH.1 h];(try dsimp only);omega
 refine gG 3 ?_;obtain⟨a9,c9,rfl,DV,_⟩:=hS.vS 1;obtain⟨J,hJ,AJ,hS⟩:=hS.fV 1;refine⟨J,a9,out.length,c9,true,t,O,hJ,?_,hS⟩;rw[SC,F9,Y7 Bu];exact⟨O,O,O,DV,AJ,u9,om⟩
theorem Xit{el:Int->Lu->Option (Nd×Lu×Int)}(jI:∀l s k r l2,el l s=some (k,r,l2)->r.length<s.length):∀(f g:Nat) (left:Int) (s:Lu) (out:List Nd),s.length<f->s.length<g->Ir el f left s out=Ir el g left s out
 | 0,_,_,_,_,h,_=>by omega
 | _+1,0,_,_,_,_,h=>by omega
 | f+1,g+1,left,s,out,hf,hg=>by
  rw[Ir,Ir];split
  ·rfl
  ·split
   ·rfl
   ·rename_i k r l he
    have:=jI _ _ _ _ _ he
    exact Xit jI f g _ _ _ om om
theorem Xuj{el:Int->Lu->Option (Nd×Lu×Int)}(jI:∀l s k r l2,0<=l->el l s=some (k,r,l2)->0<=l2/\l2<=l):∀(f:Nat) (left:Int) (s:Lu) (out ks:List Nd) (r:Lu) (l2:Int),0<=left->Ir el f left s out=some (ks,r,l2)->0<=l2/\l2<=left
 | 0,_,_,_,_,_,_,_,h=>by cases h
 | f+1,left,s,out,ks,r,l2,h0,h=>by
  rw[Ir]at h;split at h
  ·cases h;exact⟨h0,Int.le_refl _⟩
  ·split at h
   ·cases h
   ·rename_i k r1 l1 he
    have h1:=jI _ _ _ _ _ h0 he;have h2:=Xuj jI f _ _ _ _ _ _ h1.1 h;exact⟨h2.1,om⟩
theorem Xtu:∀(d:Nat) (l:Int) (s:Lu) (k:Nd) (r:Lu) (l2:Int),0<=l->Gr d l s=some (k,r,l2)->0<=l2/\l2<=l
 | 0,_,_,_,_,_,_,h=>by cases h
 | d+1,l,s,k,r,l2,h0,h=>by
  rw[Gr]at h;split at h
  ·cases h
  ·rename_i hc
   simp only[not_or]at hc
   split at h
   ·cases h
   ·split at h
    ·cases h
    ·split at h
     ·cases h
     ·split at h
      ·cases h
      ·rename_i ks q l3 hk
       split at h
       ·cases h
       ·cases h
        have:=Xuj (λl s k r l2 h0 h=>Xtu d l s k r l2 h0 h) _ _ _ _ _ _ _ om hk
        exact⟨this.1,om⟩
theorem Xnj(d:Nat)(ih:∀e,d=e+1->∀(deep:Int) (t:Lu) (l:Int) (rb:Nat) (B w:Wo) (I:Im) (As:La),1<=deep->deep+(e:Int)=9->t.length<=10000->0<=l->l<=1000->Kx I->Aa B w I (Ae rb [S (t),Ab (l)] 226::As)->Calls prog 120 #[ptr rb 0,Ab deep] w (A4 λv w'=>∃J s1 a1 n1 m1 s2 a2 n2 m2 ok t' l',v=.tuple #[.agg ([S s1,.slice a1 n1 m1,S s2,.slice a2 n2 m2]:Lv).toArray,.bool ok]/\Le I J/\(match Gr e l t with
   | none=>ok=false
   | some (k,r,l2)=>ok=true/\t'=r/\l'=l2/\Cb e J [S s1,.slice a1 n1 m1,S s2,.slice a2 n2 m2] k)/\Aa B w' J (Ae rb [S (t'),Ab (l')] 226::As)))
  (deep:Int) (t:Lu) (l:Int) (rb:Nat)   (As:La) (hp:1<=deep) (hd:deep+(d:Int)=9) (hl0:t.length<=10000) (h0:0<=l) (h1:l<=1000) (hK:Kx I) (hS:Aa B w I (Ae rb [S (t),Ab (l)] 226::As)):Calls prog 120 #[ptr rb 0,Ab deep] w (A4 λv w'=>∃J s1 a1 n1 m1 s2 a2 n2 m2 ok t' l',v=.tuple #[.agg ([S s1,.slice a1 n1 m1,S s2,.slice a2 n2 m2]:Lv).toArray,.bool ok]/\Le I J/\(match Gr d l t with
   | none=>ok=false
   | some (k,r,l2)=>ok=true/\t'=r/\l'=l2/\Cb d J [S s1,.slice a1 n1 m1,S s2,.slice a2 n2 m2] k)/\Aa B w' J (Ae rb [S (t'),Ab (l')] 226::As)):=by
 refine gH 14 ?_;clear hS;intro b4 w hS;refine gH 7 ?_;replace hS:=(hS.pick 1 O);try dsimp only[List.eraseIdx]at hS
 have Qp:=λb=>QN rb t [60] _ b _ hS
 refine .P6 O O O MH O (λAi=>X5 (.gd Ai O) (Be O X4)) O (Qp _).1 (Qp _).2 ?_;clear hS Qp;intro w hS;refine gM 2 ?_ ?_<;>intro LJ AaK
 ·refine gH 3 ?_;clear hS;intro w hS;refine .nil (.ret ?_)
  first|refine λ_ A5=>Jl (b:=_) (cs:=[_,_,_,_]) A5 hS (k:=0) O Je Gb O O O ?_|refine λ_ A5=>Jl (b:=_) (cs:=[_,_,_,_]) A5 hS (k:=1) O Je Gb O O O ?_
  refine⟨_,O,I,[],none,0,0,[],none,0,0,false,_,_,O,Le.refl _,?_,(hS.y 1 1)⟩;cases d with
  | zero=>rfl
  | succ e =>
   rw[Gr,Y7]
   by_cases h1:l-1<0
   ·exact .inl h1
   ·right
    have h2:¬ deep > 8:=by push_cast at hd;omega
    rw[decide_eq_false h1,decide_eq_false h2]at LJ;simpa using LJ
 refine gG 0 ?_;obtain⟨NV,HN⟩:(deep<=8/\0<=l-1)/\Xg t [60]=true:=su LJ
 have N3:(!(decide (deep > 8)||decide (l-1<0))&&Xg t [60])=true:=by rw[HN,decide_eq_false om,decide_eq_false om];rfl
 unfold tkn at hS;rw[Y7 N3]at hS;obtain⟨e,JU⟩:∃e,d=e+1:=⟨d-1,om⟩
 subst JU;have Aa7:=pX HN;simp only[List.length_cons,List.length_nil]at Aa7;obtain⟨t1,SO⟩:∃x,x=t.drop 1:=⟨_,O⟩
 have AhT:t1.length=t.length-1:=by rw[SO,Ye]
 rw[show List.drop ([60]:Lu).length t=t1 from SO.symm]at hS;have V5:Gr (e+1) l t=match F9 ((Xd [32,62] t1).length+1) (Xd [32,62] t1) []with
   | none=>none
   | some (ps,r)=>if Xg r [62]=false then none else match Mo (Bb [60] (r.drop 1))with
    | none=>none
    | some z=>match Ir (Gr e) ((Xd [60] (r.drop 1)).length+1) (l-1) (Xd [60] (r.drop 1)) []with
     | none=>none
     | some (ks,q,l)=>if Xg q (60::47::Bb [32,62] t1++[62])=false then none else some (.mk (Bb [32,62] t1) ps z ks,q.drop ((Bb [32,62] t1).length+3),l):=by
  rw[Gr,Y3 (by rintro(h|h)<;>first|omega|(rw[HN]at h;cases h)),<-SO]
 have Jr:=wP [32,62] t1;refine gE 1 (wK rb t1 om (l-1)) ?_;clear hS;intro w hS;refine gH 3 ?_;clear hS;intro b6 w hS;refine gG 0 ?_;obtain⟨t2,eH⟩:∃x,x=Xd [32,62] t1:=⟨_,O⟩
 obtain⟨nm,SM⟩:∃x,x=Bb [32,62] t1:=⟨_,O⟩
 rw[<-eH,<-SM]at hS V5 Jr;refine gF 2 (Xt6 rb t2 om (l-1) hK) ?_;clear hS;rintro _ w ⟨J,aa,m,c,ok,t3,rfl,hJ,hA,hS⟩;have hA2:(F9 (t2.length+1) t2 []=none/\ok=false)\/∃ps,F9 (t2.length+1) t2 []=some (ps,t3)/\ok=true/\m=ps.length/\m<=c/\RS J aa 2 m (X2 Xw ps)/\(∀a∈ps,a.1.length<=t2.length/\a.2.length<=t2.length)/\ps.length<=t2.length:=by
  cases h:F9 (t2.length+1) t2 []with
  | none=>rw[h]at hA;exact .inl ⟨O,hA⟩
  | some x =>
   obtain⟨ps,r⟩:=x;rw[h]at hA;obtain⟨h1,h2,h3⟩:=hA;subst h2;exact .inr ⟨ps,O,h1,h3⟩
 refine gH 10 ?_;clear hS;intro w hS;have Qp:=λb=>QN rb t3 [62] _ b _ hS
 refine .P6 O O O MH O (λAi=>X5 (.gd Ai O) (Be O X4)) O (Qp _).1 (Qp _).2 ?_;clear hS Qp;intro w hS;refine gM 2 ?_ ?_<;>intro dJ uq
 ·refine gH 3 ?_;clear hS;intro w hS;refine .nil (.ret ?_)
  first|refine λ_ A5=>Jl (b:=_) (cs:=[_,_,_,_]) A5 hS (k:=0) O Je Gb O O O ?_|refine λ_ A5=>Jl (b:=_) (cs:=[_,_,_,_]) A5 hS (k:=1) O Je Gb O O O ?_|refine λ_ A5=>Jl (b:=_) (cs:=[_,_,_,_]) A5 hS (k:=2) O Je Gb O O O ?_
  refine⟨_,O,J,[],none,0,0,[],none,0,0,false,_,_,O,hJ,?_,(hS.y 1 2)⟩;rw[V5];rcases hA2 with⟨h,_⟩|⟨ps,h1,h2,_⟩
  ·rw[h]
  ·rw[h1];dsimp only
   rw[Y7 (by rw[h2]at dJ;simpa using dJ)]
 refine gG 0 ?_;obtain⟨u7,vd⟩:ok=true/\Xg t3 [62]=true:=su dJ
 have Adu:(!(!ok)&&Xg t3 [62])=true:=by rw[u7,vd];rfl
 unfold tkn at hS;rw[Y7 Adu]at hS;obtain⟨ps,hAF,hmp,hmc,AJ,E7,NZ⟩:∃ps,F9 (t2.length+1) t2 []=some (ps,t3)/\m=ps.length/\m<=c/\RS J aa 2 m (X2 Xw ps)/\(∀a∈ps,a.1.length<=t2.length/\a.2.length<=t2.length)/\ps.length<=t2.length:=by
  rcases hA2 with⟨_,h⟩|⟨ps,h1,h2,h3⟩
  ·rw[h]at u7;cases u7
  ·exact⟨ps,h1,h3⟩
 have q8:=Xbi _ _ _ _ _ hAF;have Adh:=pX vd;simp only[List.length_cons,List.length_nil]at Adh;obtain⟨t4,rn⟩:∃x,x=t3.drop 1:=⟨_,O⟩
 have hl4:t4.length=t3.length-1:=by rw[rn,Ye]
 rw[show List.drop ([62]:Lu).length t3=t4 from rn.symm]at hS;rw[hAF]at V5;dsimp only at V5
 rw[Y3 (nB vd),<-rn]at V5;have uW:=wP [60] t4;have hKJ:=hK.mono hJ;refine gE 1 (QR rb t4 60 de om (l-1)) ?_;clear hS;intro w hS;refine gF 0 (Xb8 (Bb [60] t4) om hKJ) ?_;clear hS;rintro _ w ⟨n1,e1,rfl,hu,hS⟩;refine gN 7 ?_ ?_<;>intro mM
 ·refine gH 3 ?_;clear hS;intro w hS;refine .nil (.ret ?_)
  first|refine λ_ A5=>Jl (b:=_) (cs:=[_,_,_,_]) A5 hS (k:=0) O Je Gb O O O ?_|refine λ_ A5=>Jl (b:=_) (cs:=[_,_,_,_]) A5 hS (k:=1) O Je Gb O O O ?_|refine λ_ A5=>Jl (b:=_) (cs:=[_,_,_,_]) A5 hS (k:=2) O Je Gb O O O ?_
  refine⟨_,O,J,[],none,0,0,[],none,0,0,false,_,_,O,hJ,?_,(hS.y 1 2)⟩;rw[V5];cases hh:Mo (Bb [60] t4)with
  | none=>rfl
  | some z=>rw[hh]at hu;have:=hu.2;have:=mM;omega
 refine gG 0 ?_;have he0:e1=0:=by have:=mM;omega
 have MA:Mo (Bb [60] t4)=some n1:=by
  cases hh:Mo (Bb [60] t4)with
  | none=>rw[hh]at hu;have:=hu.2;omega
  | some z=>rw[hh]at hu;rw[hu.1]
 have Adw:=iE MA;rw[MA]at V5;dsimp only at V5
 obtain⟨t5,ht5⟩:∃x,x=Xd [60] t4:=⟨_,O⟩
 rw[<-ht5]at hS V5 uW;refine gH 3 ?_;clear hS;intro w hS;refine gG 0 ?_;have Bh:=((hS.An 138 4).pick 2 O).pick 2 O;clear hS;try dsimp only[List.eraseIdx]at Bh
 refine .lk [0,1,4,6] (σ:=Lu×Int×List Nd×List Lv×Va×Im) (λ(tq,lq,ks,xs,v,M) _m=>_m) (λ(tq,lq,ks,xs,v,M) w=>tq.length<=t5.length/\0<=lq/\lq<=1000/\Ir (Gr e) (t5.length+1) (l-1) t5 []=Ir (Gr e) (tq.length+1) lq tq ks/\Le J M/\xs.length=ks.length/\(∀x∈xs,x.length=4)/\(∀(i:Nat) x k,xs[i]?=some x->ks[i]?=some k->Cb e M x k)/\ks.length+tq.length<=t5.length/\Aa B w M (Ae rb [S (tq),Ab (lq)] 226::Ae b6 [S nm,.slice aa m c,S n1,v] 138::Ar 138 4 v xs.length xs.flatten::Ae b4 [S [],.slice none 0 0,S [],.slice none 0 0] 138::As)) (λ(tq,lq,ks,xs,v,M)=>tq.length) (t5,l-1,[],[],.slice none 0 0,J) ⟨Yd _,om,om,O,Le.refl _,O,by simp,by simp,by simp,Bh⟩ ?_;rintro⟨tq,lq,ks,xs,v,M⟩ w ⟨htq,h0q,h1q,hkf,hJM,np,WK,yV,Cw,hS⟩;clear Bh;refine gC 4 (pF tq [60,47] _ om de) ?_;rintro _ _ ⟨rfl,rfl⟩;refine gM 0 ?_ ?_<;>intro Wn Acu
 ·obtain⟨ka,kc,rfl,CV,_⟩:=hS.vS 2;refine gG 0 (.dw (λw=>∃R,Aa B w M (Ae b6 [S nm,.slice aa m c,S n1,.slice ka xs.length kc] 138::R)) (λj=>!([].contains j)) ?_);replace hS:=hS.drew;generalize w.drew=w at hS ⊢;have hH:∃R,Aa B w M (Ae b6 [S nm,.slice aa m c,S n1,.slice ka xs.length kc] 138::R):=⟨_,(hS.x [1])⟩
  refine .tk 0 O hH (λw ⟨R,hS⟩=>(by first|exact(.HQ (cs:=[_,_,_,_]) (.of O) hS (k:=0) O Je Gb O)|exact(.GG (vs:=[_,_,_,_]) (.of O) hS (k:=0) O Je Gb O (λ_ _ h=>h)))) ?_;refine .tp 1 O (λw=>(.mo O)) (.tp 2 O (λw=>(by first|exact .fo 0 O GX O O Bf O|exact .fi 0 O GX O O Bf O)) ?_);refine .tk 3 O hH (λw ⟨R,hS⟩=>(.lo O hS (k:=0) O BF O)) (.tp 4 O (λw=>(.cat (.of O) (.of O) (by(try simp only[Y0,List.length_cons,List.length_nil]);omega))) (.tp 5 O (λw=>(.cat (.of O) (.of O) (by(try simp only[Y0,List.length_cons,List.length_nil]);omega))) (.b1 6 O (.call MH O (Be O (Be O X4)) O (Xh7 rb tq (([60,47]++nm)++[62]) lq _ hS) ?_))));clear hS;rintro _ w ⟨rfl,hS⟩;try dsimp only[List.eraseIdx]at hS
  refine .nil ?_;clear hH;have hH:∃R,Aa B w M (Ae b6 [S nm,.slice aa m c,S n1,.slice ka xs.length kc] 138::R):=⟨_,(hS.x [1])⟩
  refine⟨λ_ _=>hH,?_⟩;refine .b1 7 O ?_
  first|refine .so hS (k:=0) O O O O Gb O sz ?_|refine .so hS (k:=1) O O O O Gb O sz ?_|refine .so hS (k:=2) O O O O Gb O sz ?_|refine .so hS (k:=3) O O O O Gb O sz ?_
  clear hS;intro w hS;try dsimp only[List.set]at hS
  try simp only[RU,Ez,Yr,Kw,O5,Y57,Yj]at hS
  refine .nil ?_;clear hH;have hH:∃R,Aa B w M (Ae b6 [S nm,.slice aa m c,S n1,.slice ka xs.length kc] 138::R):=⟨_,(hS.x [1])⟩
  refine⟨λ_ _=>hH,?_⟩;refine .tp 8 O (λw=>(.ao O)) (.dn ?_);refine .ret ?_
  first|refine λ_ A5=>Jl (b:=_) (cs:=[_,_,_,_]) A5 hS (k:=0) O Je Gb O O O ?_|refine λ_ A5=>Jl (b:=_) (cs:=[_,_,_,_]) A5 hS (k:=1) O Je Gb O O O ?_|refine λ_ A5=>Jl (b:=_) (cs:=[_,_,_,_]) A5 hS (k:=2) O Je Gb O O O ?_|refine λ_ A5=>Jl (b:=_) (cs:=[_,_,_,_]) A5 hS (k:=3) O Je Gb O O O ?_
  have DL:=((((hS.pick 2 O).pick 1 O).drop (k:=2) O).drop (k:=2) O)
  obtain⟨M3,hM3,JL,DL⟩:=DL.fV 1;have hkq:Ir (Gr e) (tq.length+1) lq tq ks=some (ks,tq,lq):=by rw[Ir,Y7 Wn]
  rw[hkf,hkq]at V5;dsimp only at V5
  have hnl:nm.length<=10000:=om
  refine⟨_,O,M3,nm,aa,m,c,n1,ka,xs.length,kc,_,_,_,O,hJ.trans (hJM.trans hM3),?_,DL⟩;rw[V5];rw[show(([60,47]:Lu)++nm++[62])=60::47::nm++[62] from O];cases rf:Xg tq (60::47::nm++[62])with
  | false=>rfl
  | true =>
   refine⟨O,?_,O,?_⟩
   ·rw[Y7 O];congr 1;simp only[List.length_cons,Y0,List.length_nil]
   ·refine⟨hnl,by(try dsimp only[Nd.text]);show n1.length<=10000;omega,by show ps.length<=10000;omega,by show ks.length<=10000;omega,λa ha=>by have:=E7 a ha;omega,aa,c,ka,kc,xs,?_,?_,?_,?_,?_,np,WK,λi x k hx hk=>(yV i x k hx hk).mono hM3⟩
    ·show[S nm,.slice aa m c,S n1,.slice ka xs.length kc]=[S nm,.slice aa ps.length c,S n1,.slice ka ks.length kc]
     rw[hmp,np]
    ·show ps.length<=c;omega
    ·show ks.length<=kc;omega
    ·have:=(AJ.mono hJM).mono hM3;rw[hmp]at this;exact this
    ·rw[np]at JL;exact JL
 refine gP 3 [] (ih e O (deep+1) tq lq rb B _ M _ om (by push_cast at hd;omega) om h0q h1q (hK.mono (hJ.trans hJM))) ?_;clear hS;rintro _ w ⟨M2,s1,a1,n1,m1,s2,a2,n2,m2,ok2,t7,l7,rfl,SA,hE,hS⟩;refine gG 8 ?_;clear hS;intro De w hS;refine gM 0 ?_ ?_<;>intro uj Qk
 ·refine gH 3 ?_;clear hS;intro w hS;refine .nil (.ret ?_)
  first|refine λ_ A5=>Jl (b:=_) (cs:=[_,_,_,_]) A5 hS (k:=0) O Je Gb O O O ?_|refine λ_ A5=>Jl (b:=_) (cs:=[_,_,_,_]) A5 hS (k:=1) O Je Gb O O O ?_|refine λ_ A5=>Jl (b:=_) (cs:=[_,_,_,_]) A5 hS (k:=2) O Je Gb O O O ?_|refine λ_ A5=>Jl (b:=_) (cs:=[_,_,_,_]) A5 hS (k:=3) O Je Gb O O O ?_|refine λ_ A5=>Jl (b:=_) (cs:=[_,_,_,_]) A5 hS (k:=4) O Je Gb O O O ?_
  refine⟨_,O,M2,[],none,0,0,[],none,0,0,false,_,_,O,hJ.trans (hJM.trans SA),?_,(hS.z [1] 1 4)⟩;have hks:Ir (Gr e) (t5.length+1) (l-1) t5 []=none:=by
   rw[hkf,Ir,Y3 (nB Wn)];cases hh:Gr e lq tq with
   | none=>rfl
   | some x=>obtain⟨k,r,z⟩:=x;rw[hh]at hE;rw[hE.1]at uj;cases uj
  rw[V5,hks]
 refine gG 0 ?_;have Aa5:ok2=true:=su uj
 obtain⟨k,hEk,dv⟩:∃k,Gr e lq tq=some (k,t7,l7)/\Cb e M2 [S s1,.slice a1 n1 m1,S s2,.slice a2 n2 m2] k:=by
  cases hh:Gr e lq tq with
  | none=>rw[hh]at hE;rw[hE]at Aa5;cases Aa5
  | some x =>
   obtain⟨k,r,z⟩:=x;rw[hh]at hE;obtain⟨_,h2,h3,h4⟩:=hE;subst h2;subst h3;exact⟨k,O,h4⟩
 have Adq:=Xf9 _ _ _ _ _ _ hEk;have Ac8:=Xtu _ _ _ _ _ _ h0q hEk;refine gH 7 ?_;clear hS;intro b80 a81 c81 uG w hS;refine gG 0 ?_;replace hS:=(((((hS.pick 4 O).pick 4 O).pick 4 O).pick 4 O).drop (k:=4) O)
 have Abh:(xs++[[S s1,.slice a1 n1 m1,S s2,.slice a2 n2 m2]]).length=xs.length+1:=by simp
 have Ady:(xs++[[S s1,.slice a1 n1 m1,S s2,.slice a2 n2 m2]]).flatten=xs.flatten++[S s1,.slice a1 n1 m1,S s2,.slice a2 n2 m2]:=by simp
 refine E_ (t7,l7,ks++[k],xs++[[S s1,.slice a1 n1 m1,S s2,.slice a2 n2 m2]],_,M2) O ⟨od,od,od,?_,hJM.trans SA,by simp[np],λx hx=>?_,λi x k2 hx hk=>?_,by rw[Y0];(try dsimp only[List.length_cons,List.length_nil]);omega,by rw[Abh,Ady];exact hS⟩
 ·rw[hkf,Ir,Y3 (nB Wn),hEk];exact Xit (λl s k r l2 h=>Xf9 _ _ _ _ _ _ h) _ _ _ _ _ om om
 ·rcases Yn.1 hx with h|h
  ·exact WK x h
  ·rw[HH.1 h];rfl
 ·rcases C5 i xs.length with h|h
  ·rw[Y9 h]at hx;rw[Y9 om]at hk;exact(yV i x k2 hx hk).mono SA
  ·have hi:i=xs.length:=by have:=(Y1.1 hx).1;rw[Abh]at this;omega
   subst hi;rw[Yq (Yd _),qJ]at hx;rw[np,Yq (Yd _),qJ]at hk;cases hx;cases hk
   exact dv
theorem Xq5:∀(d:Nat) (deep:Int) (t:Lu) (l:Int) (rb:Nat) (B w:Wo) (I:Im) (As:La),1<=deep->deep+(d:Int)=9->t.length<=10000->0<=l->l<=1000->Kx I->Aa B w I (Ae rb [S (t),Ab (l)] 226::As)->Calls prog 120 #[ptr rb 0,Ab deep] w (A4 λv w'=>∃J s1 a1 n1 m1 s2 a2 n2 m2 ok t' l',v=.tuple #[.agg ([S s1,.slice a1 n1 m1,S s2,.slice a2 n2 m2]:Lv).toArray,.bool ok]/\Le I J/\(match Gr d l t with
   | none=>ok=false
   | some (k,r,l2)=>ok=true/\t'=r/\l'=l2/\Cb d J [S s1,.slice a1 n1 m1,S s2,.slice a2 n2 m2] k)/\Aa B w' J (Ae rb [S (t'),Ab (l')] 226::As)):=by
 intro d
 induction d with
 | zero=>exact λdeep t l rb B w I As=>Xnj 0 (λe he=>by omega) deep t l rb As
 | succ d ih=>exact λdeep t l rb B w I As=>Xnj (d+1) (λe he=>by have:e=d:=om;subst this;exact ih) deep t l rb As
theorem rG(I:Im)(d:Nat):Cb (d+1) I [S [],.slice none 0 0,S [],.slice none 0 0] fp:=by
 refine⟨de,de,de,de,λa h=>by simp[fp,Nd.attrs]at h,none,0,none,0,[],O,Yd _,Yd _,RS.nil I 2,RS.nil I 4,O,λx h=>by simp at h,λi x k h _=>by simp at h⟩
theorem Xh5(s:Lu)(hl:s.length<=10000)(hK:Kx I)(As:La)(hS:Aa B w I As):Cz 50 [S s] w λv w'=>∃J s1 a1 n1 m1 s2 a2 n2 m2 e nd,v=.tuple #[.agg ([S s1,.slice a1 n1 m1,S s2,.slice a2 n2 m2]:Lv).toArray,Ab (e:Nat)]/\Le I J/\Cb 8 J [S s1,.slice a1 n1 m1,S s2,.slice a2 n2 m2] nd/\(ym s=none/\e=10/\nd=fp\/ym s=some nd/\e=0)/\Aa B w' J As:=by
 refine gH 7 ?_;clear hS;intro b2 b9 w hS;refine gP 0 [] (Xq5 8 1 s 200 b9 B _ I _ de de hl de de hK) ?_;clear hS;rintro _ w ⟨J,s1,a1,n1,m1,s2,a2,n2,m2,ok,t7,l7,rfl,hJ,hE,hS⟩;have hE2:∃k,(Gr 8 200 s=none/\ok=false)\/(Gr 8 200 s=some (k,t7,l7)/\ok=true/\Cb 8 J [S s1,.slice a1 n1 m1,S s2,.slice a2 n2 m2] k):=by
  cases h:Gr 8 200 s with
  | none=>rw[h]at hE;exact⟨fp,.inl ⟨O,hE⟩⟩
  | some x =>
   obtain⟨k,r,z⟩:=x;rw[h]at hE;obtain⟨h1,h2,h3,h4⟩:=hE;subst h2;subst h3;exact⟨k,.inr ⟨O,h1,h4⟩⟩
 obtain⟨k,hE2⟩:=hE2;have LC:ok=true->Cb 8 J [S s1,.slice a1 n1 m1,S s2,.slice a2 n2 m2] k:=λh=>by
  rcases hE2 with⟨_,h2⟩|⟨_,_,h4⟩
  ·rw[h2]at h;cases h
  ·exact h4
 refine gH 14 ?_;clear hS;intro b5 w hS;refine gH 3 ?_;refine .AG (T:=λw=>Aa B w J (Ae b5 [S s1,.slice a1 n1 m1,S s2,.slice a2 n2 m2] 138::Ae b9 [S t7,Ab l7] 226::Ae b2 [S [],.slice none 0 0,S [],.slice none 0 0] 138::As)) O O O func121 O (λAi=>(X5 (.gd Ai O) X4)) O (λAi=>Xjs k [S s1,.slice a1 n1 m1,S s2,.slice a2 n2 m2] (LC (by revert Ai;cases ok<;>simp)) _ hS) hS ?_;clear hS;rintro w hS;refine gM 2 ?_ ?_<;>intro BD G9
 ·refine gH 3 ?_;clear hS;intro w hS;refine gG 0 (⟨J,[],none,0,0,[],none,0,0,10,fp,O,hJ,rG J 7,.inl ⟨?_,O,O⟩,hS.s⟩);unfold ym;rcases hE2 with⟨h,_⟩|⟨h,h2,_⟩
  ·rw[h]
  ·rw[h];dsimp only
   rw[Y7];rw[h2]at BD
   revert BD
   cases(Cq 8 200 k)<;>simp
 refine gH 3 ?_;clear hS;intro w hS;refine gG 0 ?_;have H_:=BD;simp only[Mw,sZ]at H_
 obtain⟨⟨h1,h2⟩,h3⟩:=H_;refine⟨J,_,_,_,_,_,_,_,_,0,k,O,hJ,LC h1,.inr ⟨?_,O⟩,hS.s⟩;unfold ym;rcases hE2 with⟨_,h⟩|⟨h,_,_⟩
 ·rw[h1]at h;cases h
 ·rw[h];dsimp only
  rw[Y3];rintro(h5|h5)
  ·exact h5 (su h2)
  ·rw[Option.isNone_iff_eq_none]at h5;rw[h5]at h3;cases h3
abbrev iQ:=Lu×Oa×Nat×Nat×Lu×Oa×Nat×Nat
abbrev lU(c:iQ):Lv:=[S c.1,.slice c.2.1 c.2.2.1 c.2.2.2.1,S c.2.2.2.2.1,.slice c.2.2.2.2.2.1 c.2.2.2.2.2.2.1 c.2.2.2.2.2.2.2]
theorem bW{d:Nat}{I:Im}:∀{xs:List Lv} {ks:List Nd},xs.length=ks.length->(∀(i:Nat) x k,xs[i]?=some x->ks[i]?=some k->Cb d I x k)->∃ys:List iQ,xs=ys.map lU
 | [],_,_,_=>⟨[],O⟩
 | x::xs,[],h,_=>by simp at h
 | x::xs,k::ks,h,hN=>by
  obtain⟨s1,a1,n1,m1,s2,a2,n2,m2,rfl⟩:=(hN 0 x k O O).cells;obtain⟨ys,rfl⟩:=bW (xs:=xs) (ks:=ks) (su h) (λi x k hx hk=>hN (i+1) x k hx hk);exact⟨(s1,a1,n1,m1,s2,a2,n2,m2)::ys,O⟩
theorem Cb.name:∀{d:Nat} {c:iQ} {n:Nd},Cb d I (lU c) n->c.1=n.name
 | 0,_,_,h=>h.elim
 | d+1,c,n,h=>by
  obtain⟨h1,h2,h3,h4,h5,aa,ca,ka,ck,xs,h6,_⟩:=h;injection h6 with h6;injection h6 with h6;injection h6 with h6;simpa using h6
theorem Xnp{α:Type}(pr:α->Bool):∀(l:List α) (k:Nat),(D8 pr l k=-1/\∀x∈l,pr x=false)\/∃j x,D8 pr l k=((k+j:Nat):Int)/\l[j]?=some x/\pr x=true/\∀(i:Nat) y,i<j->l[i]?=some y->pr y=false
 | [],_=>.inl ⟨O,by simp⟩
 | a::l,k=>by
  rw[D8];cases ha:pr a with
  | true=>exact .inr ⟨0,a,by simp,O,ha,λ_ _ h=>Yy h om⟩
  | false =>
   rcases Xnp pr l (k+1)with⟨h1,h2⟩|⟨j,x,h1,h2,h3,h4⟩
   ·refine .inl ⟨su h1,λx hx=>?_⟩;rcases Yi.1 hx with rfl|hx
    ·exact ha
    ·exact h2 x hx
   ·refine .inr ⟨j+1,x,by simp only[Y45,if_false];rw[h1];congr 1;omega,su h2,h3,λi y hi hy=>?_⟩;cases i with
    | zero=>cases hy;exact ha
    | succ i=>exact h4 i y om (su hy)
def SV(n:Nd)(p:Lu):Option Nd:=n.kids.find? λk=>k.name==p
theorem Xnn{α:Type}{pr:α->Bool}:∀{l:List α} {j:Nat} {x:α},l[j]?=some x->pr x=true->(∀(i:Nat) y,i<j->l[i]?=some y->pr y=false)->l.find? pr=some x
 | [],j,x,h,_,_=>by simp at h
 | a::l,0,x,h,hp,_=>by cases h;rw[yI,hp]
 | a::l,j+1,x,h,hp,hn=>by
  rw[yI,hn 0 a om O];exact Xnn (l:=l) (j:=j) (su h) hp (λi y hi hy=>hn (i+1) y om (su hy))
theorem Xhb(a:Oa)(cap:Nat)(l:List (iQ))(Hu:l.length<=9223372036854775807)(pr:iQ->Bool)(BC:FuncId)(fn:Func)(EJ:prog.funcs[BC]?=some fn)(BZ:Xb fn=true)(AO:Lv)(As:La)(hE:∀w,Aa B w I As->Mj w lU 4 a l)(hf:∀(r:iQ) (hr:r∈l) w,Aa B w I As->Calls prog BC ([Value.agg (lU r).toArray]++AO).toArray w (A4 λv w'=>v=.bool (pr r)/\Aa B w' I As))(hS:Aa B w I As):Ce B I As 122 [.slice a l.length cap,.func (.func BC) #[] AO.toArray] w (Ab (D8 pr l 0)):=by
 refine gG 4 (.lk [0,1,7] (σ:=Nat) (λi _m=>(8,Ab (i:Nat))::_m) (λi w=>i<=l.length/\(∀(j:Nat) t,j<i->l[j]?=some t->pr t=false)/\Aa B w I As) (λi=>l.length-i) 0 ⟨Y4 _,λ_ _ h=>Yy h om,hS⟩ ?_);rintro i w ⟨hi,AL,hS⟩;refine gN 1 ?_ ?_<;>intro DV
 ·refine gG 0 ?_;obtain⟨r,hr⟩:∃r,l[i]?=some r:=⟨_,Y2 om⟩
  obtain⟨p,rfl,hx⟩:=hE w hS i r hr;refine gH 6 (.val (.LY (.of O) hx Je Gb O) O (.B0 (cap:=AO) EJ BZ (.of O) (Be O X4) O (hf r (Y6 hr) w hS) ?_));clear hS;rintro _ w ⟨rfl,hS⟩;refine gM 0 ?_ ?_<;>intro B6 C1
  ·exact gG 2 ⟨by rw[pJ AL hr B6],hS⟩
  refine gG 2 (rd (i+1) ⟨od,λj t hj ht=>?_,hS⟩);rcases C5 j i with h1|h1
  ·exact AL j t h1 ht
  ·have e:j=i:=om
   subst e;rw[hr]at ht;cases ht;exact B6
 exact gG 1 ⟨by rw[pG (λj t ht=>AL j t (oh ((Y1.1 ht).1)) ht)],hS⟩
theorem Xrb(r:iQ)(p:Lu)(b7:Nat)(As:La)(hS:Aa B w I (Ae b7 [S p] 9::As)):Ce B I (Ae b7 [S p] 9::As) 123 [.agg (lU r).toArray,ptr b7 0] w (.bool (r.1==p)):=by
 refine gG 7 ?_;clear hS;intro b2 w hS;exact⟨O,hS.s⟩
open Tk
def Ig:List Lu:=[[],pre 1,pre 2,pre 3,pre 4,pre 5,pre 6]
def BB(I:Im):Prop:=At I (ad 3 0) (Ig.map S)
theorem BB.mono(h:BB I)(hl:Le I J):BB J:=At.mono h hl
theorem oy(h:k<7):(((Ig.map S).drop (k*1)))[0]?=some (S (pre k)):=by
 match k,h with
 | 0,_=>rfl
 | 1,_=>rfl
 | 2,_=>rfl
 | 3,_=>rfl
 | 4,_=>rfl
 | 5,_=>rfl
 | 6,_=>rfl
def Nw(k:Int):Lu:=if k<1\/6<k then[]else pre k.toNat
theorem Ex.Dm{d:Option Nat}{gg:Option (Nat×Bool)}{t e:TypeId}{x:Operand}{s:Nat}(hx:Ev n L x (.pointer (some p)))(ht:P.underlying t=some (.array m e))(hs:∀w,(Go.sizeOf e).run P w=.ok s w):Ex P n L w ⟨d,.slice t x none none none,ty,pos,af,gg⟩ (.slice (some (if m=0 then p else p.add (0*s))) (m-0) (m-0)) w:=λa ha=>by
 obtain⟨e1,e2⟩:=Xds ht;have h:=run_sliceAt_array_all (P:=P) w t p (by rw[e1,e2];exact ht);rw[e1,e2,hs]at h;simp[execOp,hx a ha,h,slicedAt]
def PK(p:List UInt8):List (List UInt8)->Nat->Int
 | [],_=>-1
 | x::r,i=>if p=x then(i:Int)else PK p r (i+1)
theorem Xfm(p:Lu):∀(n:Nat) (r:List Lu) (i:Nat),(∀(j:Nat) x,j<n->r[j]?=some x->p≠x)->PK p r i=PK p (r.drop n) (i+min n r.length)
 | 0,r,i,_=>by simp
 | n+1,[],i,_=>by simp[PK]
 | n+1,x::r,i,h=>by
  rw[PK,Y3 (h 0 x om O),Xfm p n r (i+1) (λj y hj hy=>h (j+1) y om (su hy)),Kw,List.length_cons]
  congr 1
  omega
theorem eM{p:Lu}{l:List Lu}(h:∀(j:Nat) x,j<i->l[j]?=some x->p≠x)(hs:l[i]?=some p):PK p l 0=(i:Int):=by
 have hi:=(Y1.1 hs).1;rw[Xfm p i l 0 h,Yj,jx om,Yp hi,(Y1.1 hs).2,PK,Y7 O]
theorem WN{p:Lu}{l:List Lu}(h:∀(j:Nat) x,l[j]?=some x->p≠x):PK p l 0=-1:=by
 rw[Xfm p l.length l 0 (λj x _ hx=>h j x hx),s5];rfl
theorem Xdz(p:Lu):(1<=PK p Ig 0->PD p≠0/\PK p Ig 0=(PD p:Int))/\(¬ 1<=PK p Ig 0->PD p=0):=by
 unfold Ig PD;simp only[PK]
 by_cases h0:p=[]
 ·subst h0;exact⟨λh=>by simp at h,λ_=>by decide⟩
 rw[Y3 h0]
 by_cases h1:p=pre 1
 ·rw[Y7 h1,Y7 h1];exact⟨λ_=>⟨de,de⟩,λh=>Yy de h⟩
 rw[Y3 h1,Y3 h1]
 by_cases h2:p=pre 2
 ·rw[Y7 h2,Y7 h2];exact⟨λ_=>⟨de,de⟩,λh=>Yy de h⟩
 rw[Y3 h2,Y3 h2]
 by_cases h3:p=pre 3
 ·rw[Y7 h3,Y7 h3];exact⟨λ_=>⟨de,de⟩,λh=>Yy de h⟩
 rw[Y3 h3,Y3 h3]
 by_cases h4:p=pre 4
 ·rw[Y7 h4,Y7 h4];exact⟨λ_=>⟨de,de⟩,λh=>Yy de h⟩
 rw[Y3 h4,Y3 h4]
 by_cases h5:p=pre 5
 ·rw[Y7 h5,Y7 h5];exact⟨λ_=>⟨de,de⟩,λh=>Yy de h⟩
 rw[Y3 h5,Y3 h5]
 by_cases h6:p=pre 6
 ·rw[Y7 h6,Y7 h6];exact⟨λ_=>⟨de,de⟩,λh=>Yy de h⟩
 rw[Y3 h6,Y3 h6];exact⟨λh=>Yy h de,λ_=>rfl⟩
theorem zJ(a:Oa)(c:Nat)(l:List Lu)(SL:l.length<=100000)(p:Lu)(hA:RS I a 1 l.length (l.map S))(As:La)(hS:Aa B w I As):Ce B I As 331 [.slice a l.length c,S p] w (Ab (PK p l 0)):=by
 refine gG 4 (.lk [0,1,7] (σ:=Nat) (λi _m=>(8,Ab (i:Nat))::_m) (λi w=>i<=l.length/\(∀(j:Nat) x,j<i->l[j]?=some x->p≠x)/\Aa B w I As) (λi=>l.length-i) 0 ⟨Y4 _,λ_ _ h=>Yy h om,hS⟩ ?_);rintro i w ⟨hi,AL,hS⟩;refine gN 1 ?_ ?_<;>intro DV
 ·refine gG 0 ?_;obtain⟨x,hx⟩:∃x,l[i]?=some x:=⟨_,Y2 om⟩
  obtain⟨q,rfl,hq⟩:=hA.2 om;have hqx:((l.map S).drop ((i:Int).toNat*1))[0]?=some (S x):=by rw[U6];(try rw[Y8]);rw[Gv,Hn,Ys,hx];rfl
  refine gH 6 (.val (.Ca (v:=S x) (.of O) hS (hq.add _) BF hqx) O ?_);refine gM 1 ?_ ?_<;>intro B6 C1
  ·refine gG 2 ?_;have e:p=x:=su B6
   subst e;exact⟨by rw[eM AL hx],hS⟩
  refine gG 2 (rd (i+1) ⟨om,λj y hj hy=>?_,hS⟩);rcases C5 j i with h1|h1
  ·exact AL j y h1 hy
  ·have e:j=i:=om
   subst e;rw[hx]at hy;cases hy;simpa using B6
 exact gG 1 ⟨by rw[WN (λj x hx=>AL j x (oh ((Y1.1 hx).1)) hx)],hS⟩
theorem Xhx(k:Int)(hP:BB I)(As:La)(hS:Aa B w I As):Ce B I As 425 [Ab k] w (S (Nw k)):=by
 refine gN 7 ?_ ?_<;>intro E5
 ·exact gG 1 ⟨by rw[Nw,Y7 om],hS⟩
 have hk7:k.toNat<7:=om
 refine gH 1 (.val (.Bc (i:=k) (.of O) (.of O) om om ye Bf) O (.val (.Ca (v:=S (pre k.toNat)) (.of O) hS (At.add hP _) BF (oy hk7)) O ?_));exact gG 1 ⟨by rw[Nw,Y3 om],hS⟩
abbrev MD:Lu:=[48,49,50,51,52,53,54,55,56,57,97,98,99,100,101,102]
theorem vw(c:Ui):(match hx c with|some d=>Go.Lib.indexByte MD c=(d:Int)|none=>Go.Lib.indexByte MD c=-1):=by
 have:=Xf (p:=λc=>match hx c with|some d=>Go.Lib.indexByte MD c==(d:Int)|none=>Go.Lib.indexByte MD c == -1) dk c
 cases h:hx c with
 | some d=>rw[h]at this;simpa using this
 | none=>rw[h]at this;simpa using this
theorem eJ{s:Lu}(hi:i<s.length)(hn:Js 0 (s.take i)=some n)(hd:hx (at_ s (i:Int))=some d):Js 0 (s.take (i+1))=some (16*n+d):=by
 have:s[i]?=some (at_ s (i:Int)):=Rx hi
 rw[Yo,this,Yu,Xrj,hn,qH];simp only[Js,hd]
theorem SQ:∀(s:Lu) (i n:Nat),i<s.length->hx (at_ s (i:Int))=none->Js n s=none
 | [],i,_,h,_=>by simp at h
 | c::r,0,n,_,h=>by
  rw[Js,show hx c=none from h]
 | c::r,i+1,n,hi,h=>by
  rw[Js];cases hx c with
  | none=>rfl
  | some d=>exact SQ r i _ (su hi) (by
    have e:at_ (c::r) ((i+1:Nat):Int)=at_ r (i:Int):=by simp[at_]
    rw[e]at h;exact h)
theorem vY(hd:d<16):(16*n)||| d=16*n+d:=by
 have:=Y4d (i:=4) (b:=d) hd n
 simpa using this.symm
theorem Xtr(s:Lu)(hs:s.length<=1000000)(As:La)(hS:Aa B w I As):Ce B I As 330 [S s] w (match UF s with|some d=>.tuple #[BH (d:Nat),.bool true]|none=>.tuple #[BH 0,.bool false]):=by
 refine gN 5 ?_ ?_<;>intro DV
 ·exact gG 2 ⟨by rw[UF,Y3 om],hS⟩
 refine gG 4 (.lk [0,11] (σ:=Nat×Nat) (λ(i,n) _m=>(4,BH (n:Nat))::(12,Ab (i:Nat))::_m) (λ(i,n) w=>i<=s.length/\Js 0 (s.take i)=some n/\n<16^i/\Aa B w I As) (λ(i,n)=>s.length-i) (0,0) ⟨Y4 _,O,de,hS⟩ ?_);rintro⟨i,n⟩ w ⟨hi,hn,Ada,hS⟩;refine gN 1 ?_ ?_<;>intro DP
 ·refine gC 5 (X6g MD (at_ s (i:Int)) _) ?_;rintro _ _ ⟨rfl,rfl⟩;have Qv:=vw (at_ s (i:Int));refine gM 3 ?_ ?_<;>intro BX FX
  ·refine gG 2 (⟨?_,hS⟩);have hdn:hx (at_ s (i:Int))=none:=by
    cases hd:hx (at_ s (i:Int))with
    | none=>rfl
    | some d=>exfalso;rw[hd]at Qv;simp only at Qv;rw[Qv]at BX;simp at BX;omega
   rw[UF,Y7 om,SQ s i 0 om hdn]
  refine gG 0 ?_;obtain⟨d,hd⟩:∃d,hx (at_ s (i:Int))=some d:=by
   cases hd:hx (at_ s (i:Int))with
   | none=>exfalso;rw[hd]at Qv;simp only at Qv;rw[Qv]at BX;simp at BX
   | some d=>exact⟨d,O⟩
  rw[hd]at Qv;simp only at Qv
  have AcY:=ru hd;rw[Qv];have Ac_:n<16^15:=Nat.lt_of_lt_of_le Ada (Y4e de om);have AhV:n<1152921504606846976:=su Ac_
  refine gH 1 (.val (.shl (.of O) (.of O) de de) O ?_);rw[show IntKind.u64.wrap ((n:Int)*2^(4:Int).toNat)=((16*n:Nat):Int)by rw[IntKind.wrap_u64];simp;omega];refine gH 1 (.val (.cvi (.of O) Dq ae (by rw[IntKind.wrap_u64];omega)) O (.val (.Aby (a:=16*n) (b:=d) om om (.of O) (.of O)) O ?_));rw[vY AcY];refine gG 3 (rd (i+1,16*n+d) ⟨od,eJ om hn hd,?_,hS⟩)
  (try dsimp only)
  rw[bg];omega
 refine gG 3 (⟨?_,hS⟩);rw[Yg om]at hn;rw[UF,Y7 om,hn]
theorem Xel(s:Lu)(hs:s.length<=1000000)(hK:Ba I)(hP:BB I)(As:La)(hS:Aa B w I As):Ce B I As 245 [S s] w (match EZ s with|some (k,d)=>.tuple #[Ab (k:Nat),BH (d:Nat),.bool true]|none=>.tuple #[Ab 0,BH 0,.bool false]):=by
 refine gE 4 (X86 s 45 hs hK) ?_;clear hS;intro w hS;refine gE 8 (Xtr _ (by have:=Me [45] s;rw[Ye];omega)) ?_;clear hS;intro w hS;rcases Ec:UF ((Xd [45] s).drop 1)with _|d
 ·refine gG 5 (.val (Ex.Dm (m:=7) (s:=1) (.of O) ye Bf) O (gP 1 [] (zJ (some (ad 3 0)) 7 Ig de (Bb [45] s) ⟨O,λ_=>⟨_,O,hP⟩⟩ As) ?_));clear hS;rintro _ w ⟨rfl,hS⟩;refine gM 7 ?_ ?_<;>intro FW JQ
  ·refine gG 3 (⟨?_,hS⟩)
   have:EZ s=none:=by
    unfold EZ;split
    ·rfl
    ·rw[Ec];rfl
   rw[this]
  refine gH 5 (.nil (.ret ?_));refine λ_ A5=>wi A5 O O O ?_
  exfalso;simp at FW
 refine gG 5 (.val (Ex.Dm (m:=7) (s:=1) (.of O) ye Bf) O (gP 1 [] (zJ (some (ad 3 0)) 7 Ig de (Bb [45] s) ⟨O,λ_=>⟨_,O,hP⟩⟩ As) ?_));clear hS;rintro _ w ⟨rfl,hS⟩;refine gM 7 ?_ ?_<;>intro FW JQ
 ·refine gG 3 (⟨?_,hS⟩);have h0:=(Xdz (Bb [45] s)).2 (by simp at FW;omega);rw[EZ,Y7 h0]
 refine gG 5 (⟨?_,hS⟩);obtain⟨h0,h1⟩:=(Xdz (Bb [45] s)).1 (by simp at FW;omega);rw[EZ,Y3 h0,Ec,h1];rfl
theorem rS(s:Lu)(kind:Int)(hs:s.length<=1000000)(hK:Ba I)(hP:BB I)(As:La)(hS:Aa B w I As):Ce B I As 155 [S s,Ab kind] w (.bool (MC s kind)):=by
 refine gE 2 (Xel s hs hK hP) ?_;clear hS;intro w hS;rcases E7:EZ s with _|⟨k,d⟩
 ·exact gG 14 ⟨by rw[MC,E7];rfl,hS⟩
 exact gG 14 ⟨by rw[MC,E7];rfl,hS⟩
theorem Xea(kind of:Int)(w:Wo):Cz 332 [Ab kind,Ab of] w λv w'=>v=.bool (jh kind of)/\w=w':=by
 refine gN 4 ?_ ?_<;>intro y6
 ·refine gG 3 (⟨Y5 Value.bool ?_,O⟩);try simp only[beq_iff_eq,beq_eq_false_iff_ne]at *
  (subst_vars;simp[jh];done)
 refine gN 2 ?_ ?_<;>intro E5
 ·refine gG 3 (⟨Y5 Value.bool ?_,O⟩);try simp only[beq_iff_eq,beq_eq_false_iff_ne]at *
  (subst_vars;simp[jh];done)
 refine gN 2 ?_ ?_<;>intro DO
 ·refine gG 3 (⟨Y5 Value.bool ?_,O⟩);try simp only[beq_iff_eq,beq_eq_false_iff_ne]at *
  (subst_vars;simp[jh];done)
 refine gN 2 ?_ ?_<;>intro B_
 ·refine gG 3 (⟨Y5 Value.bool ?_,O⟩);try simp only[beq_iff_eq,beq_eq_false_iff_ne]at *
  (subst_vars;simp[jh];done)
 refine gN 2 ?_ ?_<;>intro Dh
 ·refine gG 3 (⟨Y5 Value.bool ?_,O⟩);try simp only[beq_iff_eq,beq_eq_false_iff_ne]at *
  (subst_vars;simp[jh];done)
 refine gN 2 ?_ ?_<;>intro C1
 ·refine gG 7 (⟨Y5 Value.bool ?_,O⟩);try simp only[beq_iff_eq,beq_eq_false_iff_ne]at *
  (subst_vars;simp[jh];done)
 refine gG 1 (⟨Y5 Value.bool ?_,O⟩);try simp only[beq_iff_eq,beq_eq_false_iff_ne]at *
 (simp[jh, *];done)
theorem Xyd(kind:Int)(s:Lu)(hs:s.length<=1000000)(hK:Ba I)(hP:BB I)(As:La)(hS:Aa B w I As):Ce B I As 247 [Ab kind,S s] w (.bool (pS kind s)):=by
 refine gM 3 ?_ ?_<;>intro GO DV
 ·refine gC 1 (Xea kind 0 _) ?_;rintro _ _ ⟨rfl,rfl⟩;exact gG 1 ⟨by rw[pS,Y7 (su GO)],hS⟩
 refine gE 1 (Xel s hs hK hP) ?_;clear hS;intro w hS;rcases E7:EZ s with _|⟨k,d⟩
 ·refine gH 11 (.AG (T:=λw=>Aa B w I As) O O O func332 O (λAi=>(X5 (.gd Ai O) (X5 (.gd Ai O) X4))) O (λAi=>Ux (Xea _ _ w) hS) hS ?_);clear hS;rintro w hS;exact gG 2 ⟨by rw[pS,Y3 (su GO),E7];rfl,hS⟩
 refine gH 11 (.AG (T:=λw=>Aa B w I As) O O O func332 O (λAi=>(X5 (.gd Ai O) (X5 (.gd Ai O) X4))) O (λAi=>Ux (Xea _ _ w) hS) hS ?_);clear hS;rintro w hS;exact gG 2 ⟨by rw[pS,Y3 (su GO),E7];rfl,hS⟩
abbrev X8(r:Al):Lv:=[Ab r.kind,S r.name,S r.parent,S r.user,S r.service,S r.url,Ab r.made,Ab r.used,Ab r.Bq,.bool r.fresh]
theorem Xep(r:Al)(hn:r.name.length<=1000000)(hp:r.parent.length<=1000000)(hK:Ba I)(hP:BB I)(As:La)(hS:Aa B w I As):Ce B I As 160 [.agg (X8 r).toArray] w (.bool (Xt r)):=by
 refine gH 14 ?_;clear hS;intro b1 w hS;refine gH 14 (gH 14 (gH 12 (.AG (T:=λw=>Aa B w I (Ae b1 [Ab r.kind,S r.name,S r.parent,S r.user,S r.service,S r.url,Ab r.made,Ab r.used,Ab r.Bq,.bool r.fresh] 188::As)) O O O func155 O (λAi=>(X5 (.gd Ai O) (X5 (.gd Ai O) X4))) O (λAi=>rS r.name r.kind hn hK hP _ hS) hS ?_)));clear hS;rintro w hS;refine gH 6 (.AG (T:=λw=>Aa B w I (Ae b1 [Ab r.kind,S r.name,S r.parent,S r.user,S r.service,S r.url,Ab r.made,Ab r.used,Ab r.Bq,.bool r.fresh] 188::As)) O O O func247 O (λAi=>(X5 (.gd Ai O) (X5 (.gd Ai O) X4))) O (λAi=>Xyd r.kind r.parent hp hK hP _ hS) hS ?_);clear hS;rintro w hS;exact gG 2 ⟨O,hS.s⟩
end Go.Proofs.W9
