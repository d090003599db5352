/- Part 3 of what the proof stands on: SxT, SxV, SyE, SxX. -/
import Derived.Test.YtokmddjcdfailaaGreatDoorM26B
import Derived.Test.YtokmddjcdfailaaGreatDoorProg
import Derived.KernelRfl
set_option linter.unusedVariables false
set_option linter.unusedSimpArgs false
section
open Go.Proofs
abbrev Xhh:=@Tryz.func14
abbrev Qf15:=@Tryz.func15
abbrev Qf16:=@Tryz.func16
abbrev Qf17:=@Tryz.func17
abbrev Qf18:=@Tryz.func18
abbrev Qf185:=@Tryz.func185
abbrev Qf19:=@Tryz.func19
abbrev Qf20:=@Tryz.func20
abbrev Qf21:=@Tryz.func21
abbrev Qf22:=@Tryz.func22
abbrev Qf23:=@Tryz.func23
abbrev Qf28:=@Tryz.func28
abbrev Qf97:=@Tryz.func97
abbrev Xey:=@Tryz.isAgg128
abbrev Xcc:=@Tryz.isAgg143
abbrev Xez:=@Tryz.isAgg296
abbrev Qg3:=@Tryz.isAgg3
abbrev Qg33:=@Tryz.isAgg33
abbrev Xgo:=@Tryz.isAgg36
abbrev Qg4:=@Tryz.isAgg4
abbrev Qg41:=@Tryz.isAgg41
abbrev Xaa:=@Tryz.isAgg43
abbrev Qg48:=@Tryz.isAgg48
abbrev Qg5:=@Tryz.isAgg5
abbrev Qg75:=@Tryz.isAgg75
abbrev Qg9:=@Tryz.isAgg9
abbrev Qr17:=@Tryz.results17
abbrev Qr19:=@Tryz.results19
abbrev Xhi:=@Tryz.results23
abbrev Qr3:=@Tryz.results3
abbrev Qs3:=@Tryz.sizeOf3
abbrev Xhj:=@Tryz.sizeOf36
abbrev Qs4:=@Tryz.sizeOf4
abbrev X6h:=@Tryz.sizeOf43
abbrev Qs48:=@Tryz.sizeOf48
abbrev Qs5:=@Tryz.sizeOf5
abbrev Qs75:=@Tryz.sizeOf75
abbrev Qs9:=@Tryz.sizeOf9
abbrev Xhk:=@Tryz.underlying124
abbrev Xf0:=@Tryz.underlying128
abbrev Xw:=@Tryz.underlying22
abbrev Xcd:=@Tryz.underlying296
abbrev Qu3:=@Tryz.underlying3
abbrev Xhl:=@Tryz.underlying300
abbrev Qu4:=@Tryz.underlying4
abbrev Qu40:=@Tryz.underlying40
abbrev Xab:=@Tryz.underlying43
abbrev Qu48:=@Tryz.underlying48
abbrev Qu5:=@Tryz.underlying5
abbrev X7u:=@Tryz.underlying50
abbrev Qu79:=@Tryz.underlying79
abbrev Qu9:=@Tryz.underlying9
abbrev Xhm:=@Tryz.zeroValue128
abbrev Xhn:=@Tryz.zeroValue296
abbrev Qz3:=@Tryz.zeroValue3
abbrev Qz4:=@Tryz.zeroValue4
abbrev Qz5:=@Tryz.zeroValue5
abbrev Qz9:=@Tryz.zeroValue9
end
namespace Go.Proofs.YtokmddjcdfailaaGreatDoor
open Gk Sx
set_option maxRecDepth 100000
noncomputable def tyT:Tr TI:=.n 128 ⟨1,8,false,[.v (.int .u64 0)],(.int .u64)⟩ (.n 68 ⟨32,320,true,[.v (.slice none 0 0),.v (.slice none 0 0),.v (.int .i64 0),.v (.int .i64 0),.v (.int .i64 0),.v (.int .i64 0),.v (.int .i64 0),.v (.int .i64 0),.v (.int .i64 0),.v (.int .i64 0),.v (.int .i64 0),.v (.int .i64 0),.v (.int .i64 0),.v (.int .i64 0),.v (.int .i64 0),.v (.int .i64 0),.v (.int .i64 0),.v (.int .i64 0),.v (.int .i64 0),.v (.int .i64 0),.v (.int .i64 0),.v (.int .i64 0),.v (.int .i64 0),.v (.int .i64 0),.v (.float .f64 0),.v (.float .f64 0),.v (.float .f64 0),.v (.int .i64 0),.v (.pointer none),.v (.pointer none),.v (.slice none 0 0),.v (.slice none 0 0)],(.struct [(0,28,true),(28,1,false),(29,1,false),(30,1,false),(31,1,false)])⟩ (.n 36 ⟨1,8,false,[.v (.float .f64 0)],.other⟩ (.n 22 ⟨1,24,false,[.v (.slice none 0 0)],(.slice 9)⟩ (.n 4 ⟨1,1,false,[.v (.bool false)],.bool⟩ (.n 3 ⟨1,8,false,[.v (.int .i64 0)],(.int .i64)⟩ (.n 2 ⟨1,8,false,[.v (.int .i64 0)],(.int .i64)⟩ (.l) (.l)) (.l)) (.n 9 ⟨1,16,false,[.st []],.str⟩ (.n 5 ⟨1,1,false,[.v (.int .u8 0)],(.int .u8)⟩ (.l) (.l)) (.l))) (.n 32 ⟨1,24,false,[.v (.slice none 0 0)],(.slice 77)⟩ (.n 31 ⟨1,24,false,[.v (.slice none 0 0)],(.slice 74)⟩ (.n 28 ⟨1,8,false,[.v (.int .i64 0)],(.int .i64)⟩ (.l) (.l)) (.l)) (.n 35 ⟨21,168,true,Xc7 21 [.v (.int .i64 0)],(.struct [(0,7,true),(7,7,true),(14,7,true)])⟩ (.n 33 ⟨7,56,true,[.v (.int .i64 0),.v (.int .i64 0),.v (.int .i64 0),.v (.int .i64 0),.v (.int .i64 0),.v (.int .i64 0),.v (.int .i64 0)],(.arr 7 3)⟩ (.l) (.l)) (.l)))) (.n 45 ⟨6,104,true,[.v (.int .i64 0),.st [],.v (.int .i64 0),.v (.slice none 0 0),.v (.slice none 0 0),.v (.slice none 0 0)],(.struct [(0,1,false),(1,1,false),(2,1,false),(3,1,false),(4,1,false),(5,1,false)])⟩ (.n 41 ⟨1,24,false,[.v (.slice none 0 0)],(.slice 40)⟩ (.n 40 ⟨1,8,false,[.v (.int .u64 0)],(.int .u64)⟩ (.n 38 ⟨28,256,true,[.v (.slice none 0 0),.v (.slice none 0 0),.v (.int .i64 0),.v (.int .i64 0),.v (.int .i64 0),.v (.int .i64 0),.v (.int .i64 0),.v (.int .i64 0),.v (.int .i64 0),.v (.int .i64 0),.v (.int .i64 0),.v (.int .i64 0),.v (.int .i64 0),.v (.int .i64 0),.v (.int .i64 0),.v (.int .i64 0),.v (.int .i64 0),.v (.int .i64 0),.v (.int .i64 0),.v (.int .i64 0),.v (.int .i64 0),.v (.int .i64 0),.v (.int .i64 0),.v (.int .i64 0),.v (.float .f64 0),.v (.float .f64 0),.v (.float .f64 0),.v (.int .i64 0)],(.struct [(0,1,false),(1,1,false),(2,21,true),(23,1,false),(24,1,false),(25,1,false),(26,1,false),(27,1,false)])⟩ (.l) (.l)) (.l)) (.n 43 ⟨1,24,false,[.v (.slice none 0 0)],(.slice 5)⟩ (.n 42 ⟨1,24,false,[.v (.slice none 0 0)],(.slice 4)⟩ (.l) (.l)) (.l))) (.n 50 ⟨2,32,true,[.v (.pointer none),.v (.slice none 0 0)],(.struct [(0,1,false),(1,1,false)])⟩ (.n 48 ⟨1,8,false,[.v (.pointer none)],(.ptr 50)⟩ (.n 46 ⟨1,24,false,[.v (.slice none 0 0)],(.slice 45)⟩ (.l) (.l)) (.l)) (.n 66 ⟨1,8,false,[.v (.pointer none)],(.ptr 95)⟩ (.n 64 ⟨1,8,false,[.v (.pointer none)],(.ptr 85)⟩ (.l) (.l)) (.l))))) (.n 95 ⟨3,24,true,[.v (.pointer none),.v (.pointer none),.v (.pointer none)],(.struct [(0,1,false),(1,1,false),(2,1,false)])⟩ (.n 82 ⟨1,24,false,[.v (.slice none 0 0)],(.slice 293)⟩ (.n 77 ⟨3,56,true,[.st [],.st [],.v (.slice none 0 0)],(.struct [(0,1,false),(1,1,false),(2,1,false)])⟩ (.n 75 ⟨1,24,false,[.v (.slice none 0 0)],(.slice 98)⟩ (.n 74 ⟨8,80,true,[.v (.int .i64 0),.v (.float .f64 0),.st [],.v (.bool false),.v (.bool false),.v (.bool false),.st [],.v (.slice none 0 0)],(.struct [(0,1,false),(1,1,false),(2,1,false),(3,1,false),(4,1,false),(5,1,false),(6,1,false),(7,1,false)])⟩ (.l) (.l)) (.l)) (.n 79 ⟨7,112,true,[.st [],.st [],.st [],.st [],.st [],.st [],.st []],(.arr 7 9)⟩ (.n 78 ⟨1,8,false,[.v (.pointer none)],(.ptr 5)⟩ (.l) (.l)) (.l))) (.n 86 ⟨1,8,false,[.v (.pointer none)],(.ptr 114)⟩ (.n 85 ⟨5,88,true,[.v (.slice none 0 0),.v (.slice none 0 0),.v (.slice none 0 0),.v (.bool false),.v (.int .i64 0)],(.struct [(0,1,false),(1,1,false),(2,1,false),(3,1,false),(4,1,false)])⟩ (.n 83 ⟨1,24,false,[.v (.slice none 0 0)],(.slice 295)⟩ (.l) (.l)) (.l)) (.n 92 ⟨1,8,false,[.v (.pointer none)],(.ptr 150)⟩ (.n 89 ⟨1,8,false,[.v (.pointer none)],(.ptr 142)⟩ (.l) (.l)) (.l)))) (.n 111 ⟨1,8,false,[.v (.pointer none)],(.ptr 213)⟩ (.n 106 ⟨1,24,false,[.v (.slice none 0 0)],(.slice 102)⟩ (.n 102 ⟨4,48,true,[.st [],.st [],.v (.int .i64 0),.v (.int .i64 0)],(.struct [(0,1,false),(1,1,false),(2,1,false),(3,1,false)])⟩ (.n 98 ⟨2,32,true,[.st [],.st []],(.struct [(0,1,false),(1,1,false)])⟩ (.l) (.l)) (.l)) (.n 110 ⟨1,8,false,[.v (.pointer none)],(.ptr 226)⟩ (.n 107 ⟨1,8,false,[.v (.pointer none)],(.ptr 158)⟩ (.l) (.l)) (.l))) (.n 121 ⟨1,8,false,[.v .nilFunc],.func⟩ (.n 117 ⟨2,32,true,[.st [],.st []],(.struct [(0,1,false),(1,1,false)])⟩ (.n 114 ⟨26,208,true,[.v (.pointer none),.v (.pointer none),.v (.pointer none),.v (.pointer none),.v (.int .i64 0),.v (.int .i64 0),.v (.int .i64 0),.v (.int .i64 0),.v (.int .i64 0),.v (.int .i64 0),.v (.int .i64 0),.v (.int .i64 0),.v (.int .i64 0),.v (.int .i64 0),.v (.int .i64 0),.v (.int .i64 0),.v (.int .i64 0),.v (.int .i64 0),.v (.int .i64 0),.v (.int .i64 0),.v (.int .i64 0),.v (.int .i64 0),.v (.int .i64 0),.v (.int .i64 0),.v (.int .i64 0),.v (.int .i64 0)],(.struct [(0,1,false),(1,1,false),(2,1,false),(3,1,false),(4,21,true),(25,1,false)])⟩ (.l) (.l)) (.l)) (.n 124 ⟨1,8,false,[.v (.pointer none)],.unsafe_⟩ (.l) (.l)))))) (.n 228 ⟨3,24,true,[.v (.int .i64 0),.v (.int .i64 0),.v (.int .i64 0)],(.struct [(0,1,false),(1,1,false),(2,1,false)])⟩ (.n 176 ⟨1,8,false,[.v (.map none)],(.map 9 178)⟩ (.n 150 ⟨5,56,true,[.v (.int .i64 0),.v (.float .f64 0),.v (.float .f64 0),.v (.float .f64 0),.v (.slice none 0 0)],(.struct [(0,1,false),(1,1,false),(2,1,false),(3,1,false),(4,1,false)])⟩ (.n 142 ⟨2,16,true,[.v (.pointer none),.v (.map none)],(.struct [(0,1,false),(1,1,false)])⟩ (.n 140 ⟨1,8,false,[.v (.map none)],(.map 9 9)⟩ (.n 137 ⟨1,8,false,[.v (.pointer none)],(.ptr 230)⟩ (.l) (.l)) (.l)) (.n 145 ⟨1,24,false,[.v (.slice none 0 0)],(.slice 238)⟩ (.n 143 ⟨1,24,false,[.v (.slice none 0 0)],(.slice 43)⟩ (.l) (.l)) (.l))) (.n 160 ⟨10,120,true,[.v (.int .i64 0),.st [],.st [],.st [],.st [],.st [],.v (.int .i64 0),.v (.int .i64 0),.v (.int .i64 0),.v (.bool false)],(.struct [(0,1,false),(1,1,false),(2,1,false),(3,1,false),(4,1,false),(5,1,false),(6,1,false),(7,1,false),(8,1,false),(9,1,false)])⟩ (.n 158 ⟨2,32,true,[.v (.int .i64 0),.v (.slice none 0 0)],(.struct [(0,1,false),(1,1,false)])⟩ (.n 156 ⟨1,24,false,[.v (.slice none 0 0)],(.slice 160)⟩ (.l) (.l)) (.l)) (.n 170 ⟨4,72,true,[.st [],.st [],.v (.slice none 0 0),.st []],(.struct [(0,1,false),(1,1,false),(2,1,false),(3,1,false)])⟩ (.n 166 ⟨3,48,true,[.v (.int .i64 0),.v (.slice none 0 0),.st []],(.struct [(0,1,false),(1,1,false),(2,1,false)])⟩ (.l) (.l)) (.l)))) (.n 209 ⟨10,96,true,[.v (.int .i64 0),.v (.float .f64 0),.st [],.v (.bool false),.v (.bool false),.v (.bool false),.st [],.v (.slice none 0 0),.v (.pointer none),.v (.pointer none)],(.struct [(0,8,true),(8,1,false),(9,1,false)])⟩ (.n 200 ⟨24,24,true,Xc7 24 [.v (.int .u8 0)],(.arr 24 5)⟩ (.n 183 ⟨9,128,true,[.v (.pointer none),.v (.pointer none),.v (.slice none 0 0),.st [],.v (.int .i64 0),.v (.slice none 0 0),.st [],.st [],.v (.bool false)],(.struct [(0,1,false),(1,1,false),(2,1,false),(3,1,false),(4,3,true),(7,1,false),(8,1,false)])⟩ (.n 178 ⟨1,8,false,[.v .nilFunc],.func⟩ (.l) (.l)) (.l)) (.n 206 ⟨1,24,false,[.v (.slice none 0 0)],(.slice 36)⟩ (.n 205 ⟨1,24,false,[.v (.slice none 0 0)],(.slice 209)⟩ (.l) (.l)) (.l))) (.n 216 ⟨1,8,false,[.v (.map none)],(.map 9 77)⟩ (.n 214 ⟨1,24,false,[.v (.slice none 0 0)],(.slice 3)⟩ (.n 213 ⟨1,24,true,[.v (.slice none 0 0)],(.struct [(0,1,false)])⟩ (.l) (.l)) (.l)) (.n 226 ⟨1,24,true,[.v (.slice none 0 0)],(.struct [(0,1,false)])⟩ (.n 218 ⟨1,8,true,[.v (.map none)],(.struct [(0,1,false)])⟩ (.l) (.l)) (.l))))) (.n 372 ⟨4,80,true,[.st [],.v (.slice none 0 0),.st [],.v (.slice none 0 0)],(.struct [(0,1,false),(1,1,false),(2,1,false),(3,1,false)])⟩ (.n 296 ⟨1,4,false,[.v (.int .u32 0)],(.int .u32)⟩ (.n 256 ⟨1,16,true,[.st []],(.struct [(0,1,false)])⟩ (.n 238 ⟨3,40,true,[.st [],.st [],.v (.bool false)],(.struct [(0,1,false),(1,1,false),(2,1,false)])⟩ (.n 230 ⟨5,56,true,[.v (.pointer none),.v (.int .i64 0),.v (.int .i64 0),.v (.int .i64 0),.v (.slice none 0 0)],(.struct [(0,1,false),(1,3,true),(4,1,false)])⟩ (.l) (.l)) (.l)) (.n 295 ⟨33,40,true,[.v (.int .i64 0),.v (.int .u8 0),.v (.int .u8 0),.v (.int .u8 0),.v (.int .u8 0),.v (.int .u8 0),.v (.int .u8 0),.v (.int .u8 0),.v (.int .u8 0),.v (.int .u8 0),.v (.int .u8 0),.v (.int .u8 0),.v (.int .u8 0),.v (.int .u8 0),.v (.int .u8 0),.v (.int .u8 0),.v (.int .u8 0),.v (.int .u8 0),.v (.int .u8 0),.v (.int .u8 0),.v (.int .u8 0),.v (.int .u8 0),.v (.int .u8 0),.v (.int .u8 0),.v (.int .u8 0),.v (.int .u8 0),.v (.int .u8 0),.v (.int .u8 0),.v (.int .u8 0),.v (.int .u8 0),.v (.int .u8 0),.v (.int .u8 0),.v (.int .u8 0)],(.struct [(0,1,false),(1,32,true)])⟩ (.n 293 ⟨32,32,true,Xc7 32 [.v (.int .u8 0)],(.arr 32 5)⟩ (.l) (.l)) (.l))) (.n 334 ⟨6,40,true,[.st [],.st [],.v (.bool false),.v (.bool false),.v (.bool false),.v (.bool false)],(.struct [(0,1,false),(1,1,false),(2,1,false),(3,1,false),(4,1,false),(5,1,false)])⟩ (.n 324 ⟨1,8,false,[.v (.map none)],(.map 3 9)⟩ (.n 300 ⟨20,160,true,Xc7 20 [.v (.int .u64 0)],(.arr 20 40)⟩ (.l) (.l)) (.l)) (.n 370 ⟨1,24,false,[.v (.slice none 0 0)],(.slice 372)⟩ (.n 363 ⟨6,80,true,[.st [],.st [],.v (.int .i64 0),.st [],.st [],.v (.bool false)],(.struct [(0,1,false),(1,1,false),(2,1,false),(3,1,false),(4,1,false),(5,1,false)])⟩ (.l) (.l)) (.l)))) (.n 417 ⟨256,256,true,Xc7 256 [.v (.bool false)],(.arr 256 4)⟩ (.n 396 ⟨3,72,true,[.v (.slice none 0 0),.v (.slice none 0 0),.v (.slice none 0 0)],(.struct [(0,1,false),(1,1,false),(2,1,false)])⟩ (.n 394 ⟨1,24,false,[.v (.slice none 0 0)],(.slice 214)⟩ (.n 393 ⟨1,24,false,[.v (.slice none 0 0)],(.slice 457)⟩ (.l) (.l)) (.l)) (.n 407 ⟨1,8,false,[.v (.int .i64 0)],(.int .i64)⟩ (.n 399 ⟨2,32,true,[.v (.slice none 0 0),.v (.int .i64 0)],(.struct [(0,1,false),(1,1,false)])⟩ (.l) (.l)) (.l))) (.n 501 ⟨10,160,true,Xc7 10 [.st []],(.arr 5 98)⟩ (.n 457 ⟨3,32,true,[.v (.int .u8 0),.v (.int .u8 0),.v (.slice none 0 0)],(.struct [(0,1,false),(1,1,false),(2,1,false)])⟩ (.n 453 ⟨1,24,false,[.v (.slice none 0 0)],(.slice 121)⟩ (.l) (.l)) (.l)) (.n 504 ⟨16,64,true,Xc7 16 [.v (.int .u32 0)],(.arr 16 296)⟩ (.l) (.l))))))
theorem tyT_ok:tyT.All (TyOK Tryz.prog):=⟨(TyOK.one (i:=Tryz.t128) (by kernel_rfl) rfl rfl rfl rfl (fun _=>rfl) Xey Xf0),⟨(TyOK.struct (i:=Tryz.t68) (by kernel_rfl) rfl rfl rfl (fun _=>rfl) Tryz.isAgg68 Tryz.underlying68 ⟨rfl,Tryz.sizeOf38,Tryz.isAgg38,rfl,Tryz.sizeOf64,Tryz.isAgg64,rfl,Tryz.sizeOf66,Tryz.isAgg66,rfl,Tryz.sizeOf22,Tryz.isAgg22,rfl,Tryz.sizeOf41,Qg41,trivial⟩),⟨(TyOK.one (i:=Tryz.t36) (by kernel_rfl) rfl rfl rfl rfl (fun _=>rfl) Xgo trivial),⟨(TyOK.one (i:=Tryz.t22) (by kernel_rfl) rfl rfl rfl rfl (fun _=>rfl) Tryz.isAgg22 Xw),⟨(TyOK.one (i:=Tryz.t4) (by kernel_rfl) rfl rfl rfl rfl (fun _=>rfl) Qg4 Qu4),⟨(TyOK.one (i:=Tryz.t3) (by kernel_rfl) rfl rfl rfl rfl (fun _=>rfl) Qg3 Qu3),⟨(TyOK.one (i:=Tryz.t2) (by kernel_rfl) rfl rfl rfl rfl (fun _=>rfl) Tryz.isAgg2 Tryz.underlying2),trivial,trivial⟩,trivial⟩,⟨(TyOK.one (i:=Tryz.t9) (by kernel_rfl) rfl rfl rfl rfl (fun _=>rfl) Qg9 Qu9),⟨(TyOK.one (i:=Tryz.t5) (by kernel_rfl) rfl rfl rfl rfl (fun _=>rfl) Qg5 Qu5),trivial,trivial⟩,trivial⟩⟩,⟨(TyOK.one (i:=Tryz.t32) (by kernel_rfl) rfl rfl rfl rfl (fun _=>rfl) Tryz.isAgg32 Tryz.underlying32),⟨(TyOK.one (i:=Tryz.t31) (by kernel_rfl) rfl rfl rfl rfl (fun _=>rfl) Tryz.isAgg31 Tryz.underlying31),⟨(TyOK.one (i:=Tryz.t28) (by kernel_rfl) rfl rfl rfl rfl (fun _=>rfl) Tryz.isAgg28 Tryz.underlying28),trivial,trivial⟩,trivial⟩,⟨(TyOK.struct (i:=Tryz.t35) (by kernel_rfl) rfl rfl rfl (fun _=>rfl) Tryz.isAgg35 Tryz.underlying35 ⟨rfl,Tryz.sizeOf33,Qg33,rfl,Tryz.sizeOf33,Qg33,rfl,Tryz.sizeOf33,Qg33,trivial⟩),⟨(TyOK.aggr (i:=Tryz.t33) (by kernel_rfl) rfl rfl rfl (fun _=>rfl) Qg33 Tryz.underlying33),trivial,trivial⟩,trivial⟩⟩⟩,⟨(TyOK.struct (i:=Tryz.t45) (by kernel_rfl) rfl rfl rfl (fun _=>rfl) Tryz.isAgg45 Tryz.underlying45 ⟨rfl,Qs3,Qg3,rfl,Qs9,Qg9,rfl,Qs3,Qg3,rfl,Tryz.sizeOf41,Qg41,rfl,Tryz.sizeOf42,Tryz.isAgg42,rfl,X6h,Xaa,trivial⟩),⟨(TyOK.one (i:=Tryz.t41) (by kernel_rfl) rfl rfl rfl rfl (fun _=>rfl) Qg41 Tryz.underlying41),⟨(TyOK.one (i:=Tryz.t40) (by kernel_rfl) rfl rfl rfl rfl (fun _=>rfl) Tryz.isAgg40 Qu40),⟨(TyOK.struct (i:=Tryz.t38) (by kernel_rfl) rfl rfl rfl (fun _=>rfl) Tryz.isAgg38 Tryz.underlying38 ⟨rfl,Tryz.sizeOf31,Tryz.isAgg31,rfl,Tryz.sizeOf32,Tryz.isAgg32,rfl,Tryz.sizeOf35,Tryz.isAgg35,rfl,Qs3,Qg3,rfl,Xhj,Xgo,rfl,Xhj,Xgo,rfl,Xhj,Xgo,rfl,Qs3,Qg3,trivial⟩),trivial,trivial⟩,trivial⟩,⟨(TyOK.one (i:=Tryz.t43) (by kernel_rfl) rfl rfl rfl rfl (fun _=>rfl) Xaa Xab),⟨(TyOK.one (i:=Tryz.t42) (by kernel_rfl) rfl rfl rfl rfl (fun _=>rfl) Tryz.isAgg42 Tryz.underlying42),trivial,trivial⟩,trivial⟩⟩,⟨(TyOK.struct (i:=Tryz.t50) (by kernel_rfl) rfl rfl rfl (fun _=>rfl) Tryz.isAgg50 X7u ⟨rfl,Qs48,Qg48,rfl,X6h,Xaa,trivial⟩),⟨(TyOK.one (i:=Tryz.t48) (by kernel_rfl) rfl rfl rfl rfl (fun _=>rfl) Qg48 Qu48),⟨(TyOK.one (i:=Tryz.t46) (by kernel_rfl) rfl rfl rfl rfl (fun _=>rfl) Tryz.isAgg46 Tryz.underlying46),trivial,trivial⟩,trivial⟩,⟨(TyOK.one (i:=Tryz.t66) (by kernel_rfl) rfl rfl rfl rfl (fun _=>rfl) Tryz.isAgg66 Tryz.underlying66),⟨(TyOK.one (i:=Tryz.t64) (by kernel_rfl) rfl rfl rfl rfl (fun _=>rfl) Tryz.isAgg64 Tryz.underlying64),trivial,trivial⟩,trivial⟩⟩⟩⟩,⟨(TyOK.struct (i:=Tryz.t95) (by kernel_rfl) rfl rfl rfl (fun _=>rfl) Tryz.isAgg95 Tryz.underlying95 ⟨rfl,Tryz.sizeOf89,Tryz.isAgg89,rfl,Tryz.sizeOf86,Tryz.isAgg86,rfl,Tryz.sizeOf92,Tryz.isAgg92,trivial⟩),⟨(TyOK.one (i:=Tryz.t82) (by kernel_rfl) rfl rfl rfl rfl (fun _=>rfl) Tryz.isAgg82 Tryz.underlying82),⟨(TyOK.struct (i:=Tryz.t77) (by kernel_rfl) rfl rfl rfl (fun _=>rfl) Tryz.isAgg77 Tryz.underlying77 ⟨rfl,Qs9,Qg9,rfl,Qs9,Qg9,rfl,Qs75,Qg75,trivial⟩),⟨(TyOK.one (i:=Tryz.t75) (by kernel_rfl) rfl rfl rfl rfl (fun _=>rfl) Qg75 Tryz.underlying75),⟨(TyOK.struct (i:=Tryz.t74) (by kernel_rfl) rfl rfl rfl (fun _=>rfl) Tryz.isAgg74 Tryz.underlying74 ⟨rfl,Qs3,Qg3,rfl,Xhj,Xgo,rfl,Qs9,Qg9,rfl,Qs4,Qg4,rfl,Qs4,Qg4,rfl,Qs4,Qg4,rfl,Qs9,Qg9,rfl,Tryz.sizeOf22,Tryz.isAgg22,trivial⟩),trivial,trivial⟩,trivial⟩,⟨(TyOK.aggr (i:=Tryz.t79) (by kernel_rfl) rfl rfl rfl (fun _=>rfl) Tryz.isAgg79 Qu79),⟨(TyOK.one (i:=Tryz.t78) (by kernel_rfl) rfl rfl rfl rfl (fun _=>rfl) Tryz.isAgg78 Tryz.underlying78),trivial,trivial⟩,trivial⟩⟩,⟨(TyOK.one (i:=Tryz.t86) (by kernel_rfl) rfl rfl rfl rfl (fun _=>rfl) Tryz.isAgg86 Tryz.underlying86),⟨(TyOK.struct (i:=Tryz.t85) (by kernel_rfl) rfl rfl rfl (fun _=>rfl) Tryz.isAgg85 Tryz.underlying85 ⟨rfl,Tryz.sizeOf82,Tryz.isAgg82,rfl,Tryz.sizeOf83,Tryz.isAgg83,rfl,Tryz.sizeOf42,Tryz.isAgg42,rfl,Qs4,Qg4,rfl,Qs3,Qg3,trivial⟩),⟨(TyOK.one (i:=Tryz.t83) (by kernel_rfl) rfl rfl rfl rfl (fun _=>rfl) Tryz.isAgg83 Tryz.underlying83),trivial,trivial⟩,trivial⟩,⟨(TyOK.one (i:=Tryz.t92) (by kernel_rfl) rfl rfl rfl rfl (fun _=>rfl) Tryz.isAgg92 Tryz.underlying92),⟨(TyOK.one (i:=Tryz.t89) (by kernel_rfl) rfl rfl rfl rfl (fun _=>rfl) Tryz.isAgg89 Tryz.underlying89),trivial,trivial⟩,trivial⟩⟩⟩,⟨(TyOK.one (i:=Tryz.t111) (by kernel_rfl) rfl rfl rfl rfl (fun _=>rfl) Tryz.isAgg111 Tryz.underlying111),⟨(TyOK.one (i:=Tryz.t106) (by kernel_rfl) rfl rfl rfl rfl (fun _=>rfl) Tryz.isAgg106 Tryz.underlying106),⟨(TyOK.struct (i:=Tryz.t102) (by kernel_rfl) rfl rfl rfl (fun _=>rfl) Tryz.isAgg102 Tryz.underlying102 ⟨rfl,Qs9,Qg9,rfl,Qs9,Qg9,rfl,Qs3,Qg3,rfl,Qs3,Qg3,trivial⟩),⟨(TyOK.struct (i:=Tryz.t98) (by kernel_rfl) rfl rfl rfl (fun _=>rfl) Tryz.isAgg98 Tryz.underlying98 ⟨rfl,Qs9,Qg9,rfl,Qs9,Qg9,trivial⟩),trivial,trivial⟩,trivial⟩,⟨(TyOK.one (i:=Tryz.t110) (by kernel_rfl) rfl rfl rfl rfl (fun _=>rfl) Tryz.isAgg110 Tryz.underlying110),⟨(TyOK.one (i:=Tryz.t107) (by kernel_rfl) rfl rfl rfl rfl (fun _=>rfl) Tryz.isAgg107 Tryz.underlying107),trivial,trivial⟩,trivial⟩⟩,⟨(TyOK.one (i:=Tryz.t121) (by kernel_rfl) rfl rfl rfl rfl (fun _=>rfl) Tryz.isAgg121 ⟨_,_,_,Tryz.underlying121⟩),⟨(TyOK.struct (i:=Tryz.t117) (by kernel_rfl) rfl rfl rfl (fun _=>rfl) Tryz.isAgg117 Tryz.underlying117 ⟨rfl,Qs9,Qg9,rfl,Qs9,Qg9,trivial⟩),⟨(TyOK.struct (i:=Tryz.t114) (by kernel_rfl) rfl rfl rfl (fun _=>rfl) Tryz.isAgg114 Tryz.underlying114 ⟨rfl,Tryz.sizeOf107,Tryz.isAgg107,rfl,Tryz.sizeOf110,Tryz.isAgg110,rfl,Tryz.sizeOf111,Tryz.isAgg111,rfl,Tryz.sizeOf112,Tryz.isAgg112,rfl,Tryz.sizeOf35,Tryz.isAgg35,rfl,Qs3,Qg3,trivial⟩),trivial,trivial⟩,trivial⟩,⟨(TyOK.one (i:=Tryz.t124) (by kernel_rfl) rfl rfl rfl rfl (fun _=>rfl) Tryz.isAgg124 Xhk),trivial,trivial⟩⟩⟩⟩⟩,⟨(TyOK.struct (i:=Tryz.t228) (by kernel_rfl) rfl rfl rfl (fun _=>rfl) Tryz.isAgg228 Tryz.underlying228 ⟨rfl,Qs3,Qg3,rfl,Qs3,Qg3,rfl,Qs3,Qg3,trivial⟩),⟨(TyOK.one (i:=Tryz.t176) (by kernel_rfl) rfl rfl rfl rfl (fun _=>rfl) Tryz.isAgg176 Tryz.underlying176),⟨(TyOK.struct (i:=Tryz.t150) (by kernel_rfl) rfl rfl rfl (fun _=>rfl) Tryz.isAgg150 Tryz.underlying150 ⟨rfl,Qs3,Qg3,rfl,Xhj,Xgo,rfl,Xhj,Xgo,rfl,Xhj,Xgo,rfl,Tryz.sizeOf106,Tryz.isAgg106,trivial⟩),⟨(TyOK.struct (i:=Tryz.t142) (by kernel_rfl) rfl rfl rfl (fun _=>rfl) Tryz.isAgg142 Tryz.underlying142 ⟨rfl,Tryz.sizeOf137,Tryz.isAgg137,rfl,Tryz.sizeOf140,Tryz.isAgg140,trivial⟩),⟨(TyOK.one (i:=Tryz.t140) (by kernel_rfl) rfl rfl rfl rfl (fun _=>rfl) Tryz.isAgg140 Tryz.underlying140),⟨(TyOK.one (i:=Tryz.t137) (by kernel_rfl) rfl rfl rfl rfl (fun _=>rfl) Tryz.isAgg137 Tryz.underlying137),trivial,trivial⟩,trivial⟩,⟨(TyOK.one (i:=Tryz.t145) (by kernel_rfl) rfl rfl rfl rfl (fun _=>rfl) Tryz.isAgg145 Tryz.underlying145),⟨(TyOK.one (i:=Tryz.t143) (by kernel_rfl) rfl rfl rfl rfl (fun _=>rfl) Xcc Tryz.underlying143),trivial,trivial⟩,trivial⟩⟩,⟨(TyOK.struct (i:=Tryz.t160) (by kernel_rfl) rfl rfl rfl (fun _=>rfl) Tryz.isAgg160 Tryz.underlying160 ⟨rfl,Qs3,Qg3,rfl,Qs9,Qg9,rfl,Qs9,Qg9,rfl,Qs9,Qg9,rfl,Qs9,Qg9,rfl,Qs9,Qg9,rfl,Qs3,Qg3,rfl,Qs3,Qg3,rfl,Qs3,Qg3,rfl,Qs4,Qg4,trivial⟩),⟨(TyOK.struct (i:=Tryz.t158) (by kernel_rfl) rfl rfl rfl (fun _=>rfl) Tryz.isAgg158 Tryz.underlying158 ⟨rfl,Qs3,Qg3,rfl,Tryz.sizeOf156,Tryz.isAgg156,trivial⟩),⟨(TyOK.one (i:=Tryz.t156) (by kernel_rfl) rfl rfl rfl rfl (fun _=>rfl) Tryz.isAgg156 Tryz.underlying156),trivial,trivial⟩,trivial⟩,⟨(TyOK.struct (i:=Tryz.t170) (by kernel_rfl) rfl rfl rfl (fun _=>rfl) Tryz.isAgg170 Tryz.underlying170 ⟨rfl,Qs9,Qg9,rfl,Qs9,Qg9,rfl,Qs75,Qg75,rfl,Qs9,Qg9,trivial⟩),⟨(TyOK.struct (i:=Tryz.t166) (by kernel_rfl) rfl rfl rfl (fun _=>rfl) Tryz.isAgg166 Tryz.underlying166 ⟨rfl,Qs3,Qg3,rfl,Qs75,Qg75,rfl,Qs9,Qg9,trivial⟩),trivial,trivial⟩,trivial⟩⟩⟩,⟨(TyOK.struct (i:=Tryz.t209) (by kernel_rfl) rfl rfl rfl (fun _=>rfl) Tryz.isAgg209 Tryz.underlying209 ⟨rfl,Tryz.sizeOf74,Tryz.isAgg74,rfl,Tryz.sizeOf207,Tryz.isAgg207,rfl,Tryz.sizeOf207,Tryz.isAgg207,trivial⟩),⟨(TyOK.aggr (i:=Tryz.t200) (by kernel_rfl) rfl rfl rfl (fun _=>rfl) Tryz.isAgg200 Tryz.underlying200),⟨(TyOK.struct (i:=Tryz.t183) (by kernel_rfl) rfl rfl rfl (fun _=>rfl) Tryz.isAgg183 Tryz.underlying183 ⟨rfl,Tryz.sizeOf86,Tryz.isAgg86,rfl,Tryz.sizeOf92,Tryz.isAgg92,rfl,Qs75,Qg75,rfl,Qs9,Qg9,rfl,Tryz.sizeOf166,Tryz.isAgg166,rfl,Qs9,Qg9,rfl,Qs4,Qg4,trivial⟩),⟨(TyOK.one (i:=Tryz.t178) (by kernel_rfl) rfl rfl rfl rfl (fun _=>rfl) Tryz.isAgg178 ⟨_,_,_,Tryz.underlying178⟩),trivial,trivial⟩,trivial⟩,⟨(TyOK.one (i:=Tryz.t206) (by kernel_rfl) rfl rfl rfl rfl (fun _=>rfl) Tryz.isAgg206 Tryz.underlying206),⟨(TyOK.one (i:=Tryz.t205) (by kernel_rfl) rfl rfl rfl rfl (fun _=>rfl) Tryz.isAgg205 Tryz.underlying205),trivial,trivial⟩,trivial⟩⟩,⟨(TyOK.one (i:=Tryz.t216) (by kernel_rfl) rfl rfl rfl rfl (fun _=>rfl) Tryz.isAgg216 Tryz.underlying216),⟨(TyOK.one (i:=Tryz.t214) (by kernel_rfl) rfl rfl rfl rfl (fun _=>rfl) Tryz.isAgg214 Tryz.underlying214),⟨(TyOK.struct (i:=Tryz.t213) (by kernel_rfl) rfl rfl rfl (fun _=>rfl) Tryz.isAgg213 Tryz.underlying213 ⟨rfl,Tryz.sizeOf205,Tryz.isAgg205,trivial⟩),trivial,trivial⟩,trivial⟩,⟨(TyOK.struct (i:=Tryz.t226) (by kernel_rfl) rfl rfl rfl (fun _=>rfl) Tryz.isAgg226 Tryz.underlying226 ⟨rfl,Tryz.sizeOf41,Qg41,trivial⟩),⟨(TyOK.struct (i:=Tryz.t218) (by kernel_rfl) rfl rfl rfl (fun _=>rfl) Tryz.isAgg218 Tryz.underlying218 ⟨rfl,Tryz.sizeOf216,Tryz.isAgg216,trivial⟩),trivial,trivial⟩,trivial⟩⟩⟩⟩,⟨(TyOK.struct (i:=Tryz.t372) (by kernel_rfl) rfl rfl rfl (fun _=>rfl) Tryz.isAgg372 Tryz.underlying372 ⟨rfl,Qs9,Qg9,rfl,Qs75,Qg75,rfl,Qs9,Qg9,rfl,Tryz.sizeOf370,Tryz.isAgg370,trivial⟩),⟨(TyOK.one (i:=Tryz.t296) (by kernel_rfl) rfl rfl rfl rfl (fun _=>rfl) Xez Xcd),⟨(TyOK.struct (i:=Tryz.t256) (by kernel_rfl) rfl rfl rfl (fun _=>rfl) Tryz.isAgg256 Tryz.underlying256 ⟨rfl,Qs9,Qg9,trivial⟩),⟨(TyOK.struct (i:=Tryz.t238) (by kernel_rfl) rfl rfl rfl (fun _=>rfl) Tryz.isAgg238 Tryz.underlying238 ⟨rfl,Qs9,Qg9,rfl,Qs9,Qg9,rfl,Qs4,Qg4,trivial⟩),⟨(TyOK.struct (i:=Tryz.t230) (by kernel_rfl) rfl rfl rfl (fun _=>rfl) Tryz.isAgg230 Tryz.underlying230 ⟨rfl,Tryz.sizeOf64,Tryz.isAgg64,rfl,Tryz.sizeOf228,Tryz.isAgg228,rfl,X6h,Xaa,trivial⟩),trivial,trivial⟩,trivial⟩,⟨(TyOK.struct (i:=Tryz.t295) (by kernel_rfl) rfl rfl rfl (fun _=>rfl) Tryz.isAgg295 Tryz.underlying295 ⟨rfl,Qs3,Qg3,rfl,Tryz.sizeOf293,Tryz.isAgg293,trivial⟩),⟨(TyOK.aggr (i:=Tryz.t293) (by kernel_rfl) rfl rfl rfl (fun _=>rfl) Tryz.isAgg293 Tryz.underlying293),trivial,trivial⟩,trivial⟩⟩,⟨(TyOK.struct (i:=Tryz.t334) (by kernel_rfl) rfl rfl rfl (fun _=>rfl) Tryz.isAgg334 Tryz.underlying334 ⟨rfl,Qs9,Qg9,rfl,Qs9,Qg9,rfl,Qs4,Qg4,rfl,Qs4,Qg4,rfl,Qs4,Qg4,rfl,Qs4,Qg4,trivial⟩),⟨(TyOK.one (i:=Tryz.t324) (by kernel_rfl) rfl rfl rfl rfl (fun _=>rfl) Tryz.isAgg324 Tryz.underlying324),⟨(TyOK.aggr (i:=Tryz.t300) (by kernel_rfl) rfl rfl rfl (fun _=>rfl) Tryz.isAgg300 Xhl),trivial,trivial⟩,trivial⟩,⟨(TyOK.one (i:=Tryz.t370) (by kernel_rfl) rfl rfl rfl rfl (fun _=>rfl) Tryz.isAgg370 Tryz.underlying370),⟨(TyOK.struct (i:=Tryz.t363) (by kernel_rfl) rfl rfl rfl (fun _=>rfl) Tryz.isAgg363 Tryz.underlying363 ⟨rfl,Qs9,Qg9,rfl,Qs9,Qg9,rfl,Qs3,Qg3,rfl,Qs9,Qg9,rfl,Qs9,Qg9,rfl,Qs4,Qg4,trivial⟩),trivial,trivial⟩,trivial⟩⟩⟩,⟨(TyOK.aggr (i:=Tryz.t417) (by kernel_rfl) rfl rfl rfl (fun _=>rfl) Tryz.isAgg417 Tryz.underlying417),⟨(TyOK.struct (i:=Tryz.t396) (by kernel_rfl) rfl rfl rfl (fun _=>rfl) Tryz.isAgg396 Tryz.underlying396 ⟨rfl,Tryz.sizeOf393,Tryz.isAgg393,rfl,Tryz.sizeOf394,Tryz.isAgg394,rfl,Tryz.sizeOf214,Tryz.isAgg214,trivial⟩),⟨(TyOK.one (i:=Tryz.t394) (by kernel_rfl) rfl rfl rfl rfl (fun _=>rfl) Tryz.isAgg394 Tryz.underlying394),⟨(TyOK.one (i:=Tryz.t393) (by kernel_rfl) rfl rfl rfl rfl (fun _=>rfl) Tryz.isAgg393 Tryz.underlying393),trivial,trivial⟩,trivial⟩,⟨(TyOK.one (i:=Tryz.t407) (by kernel_rfl) rfl rfl rfl rfl (fun _=>rfl) Tryz.isAgg407 Tryz.underlying407),⟨(TyOK.struct (i:=Tryz.t399) (by kernel_rfl) rfl rfl rfl (fun _=>rfl) Tryz.isAgg399 Tryz.underlying399 ⟨rfl,Tryz.sizeOf393,Tryz.isAgg393,rfl,Qs3,Qg3,trivial⟩),trivial,trivial⟩,trivial⟩⟩,⟨(TyOK.aggr (i:=Tryz.t501) (by kernel_rfl) rfl rfl rfl (fun _=>rfl) Tryz.isAgg501 Tryz.underlying501),⟨(TyOK.struct (i:=Tryz.t457) (by kernel_rfl) rfl rfl rfl (fun _=>rfl) Tryz.isAgg457 Tryz.underlying457 ⟨rfl,Qs5,Qg5,rfl,Qs5,Qg5,rfl,Tryz.sizeOf214,Tryz.isAgg214,trivial⟩),⟨(TyOK.one (i:=Tryz.t453) (by kernel_rfl) rfl rfl rfl rfl (fun _=>rfl) Tryz.isAgg453 Tryz.underlying453),trivial,trivial⟩,trivial⟩,⟨(TyOK.aggr (i:=Tryz.t504) (by kernel_rfl) rfl rfl rfl (fun _=>rfl) Tryz.isAgg504 Tryz.underlying504),trivial,trivial⟩⟩⟩⟩⟩⟩
noncomputable def fnT:Tr Func:=.n 158 Tryz.f158 (.n 80 Tryz.f80 (.n 34 Tryz.f34 (.n 19 Tryz.f19 (.n 13 Tryz.f13 (.n 8 Tryz.f8 (.n 5 Tryz.f5 (.n 4 Tryz.f4 (.l) (.l)) (.l)) (.n 11 Tryz.f11 (.n 10 Tryz.f10 (.l) (.l)) (.l))) (.n 16 Tryz.f16 (.n 15 Tryz.f15 (.n 14 Tryz.f14 (.l) (.l)) (.l)) (.n 18 Tryz.f18 (.n 17 Tryz.f17 (.l) (.l)) (.l)))) (.n 28 Tryz.f28 (.n 25 Tryz.f25 (.n 21 Tryz.f21 (.n 20 Tryz.f20 (.l) (.l)) (.l)) (.n 27 Tryz.f27 (.n 26 Tryz.f26 (.l) (.l)) (.l))) (.n 31 Tryz.f31 (.n 30 Tryz.f30 (.n 29 Tryz.f29 (.l) (.l)) (.l)) (.n 33 Tryz.f33 (.n 32 Tryz.f32 (.l) (.l)) (.l))))) (.n 59 Tryz.f59 (.n 53 Tryz.f53 (.n 40 Tryz.f40 (.n 39 Tryz.f39 (.n 35 Tryz.f35 (.l) (.l)) (.l)) (.n 43 Tryz.f43 (.n 41 Tryz.f41 (.l) (.l)) (.l))) (.n 56 Tryz.f56 (.n 55 Tryz.f55 (.n 54 Tryz.f54 (.l) (.l)) (.l)) (.n 58 Tryz.f58 (.n 57 Tryz.f57 (.l) (.l)) (.l)))) (.n 72 Tryz.f72 (.n 63 Tryz.f63 (.n 61 Tryz.f61 (.n 60 Tryz.f60 (.l) (.l)) (.l)) (.n 69 Tryz.f69 (.n 64 Tryz.f64 (.l) (.l)) (.l))) (.n 77 Tryz.f77 (.n 76 Tryz.f76 (.n 74 Tryz.f74 (.l) (.l)) (.l)) (.n 79 Tryz.f79 (.n 78 Tryz.f78 (.l) (.l)) (.l)))))) (.n 121 Tryz.f121 (.n 107 Tryz.f107 (.n 97 Tryz.f97 (.n 84 Tryz.f84 (.n 82 Tryz.f82 (.n 81 Tryz.f81 (.l) (.l)) (.l)) (.n 89 Tryz.f89 (.n 85 Tryz.f85 (.l) (.l)) (.l))) (.n 103 Tryz.f103 (.n 102 Tryz.f102 (.n 101 Tryz.f101 (.l) (.l)) (.l)) (.n 106 Tryz.f106 (.n 105 Tryz.f105 (.l) (.l)) (.l)))) (.n 113 Tryz.f113 (.n 110 Tryz.f110 (.n 109 Tryz.f109 (.n 108 Tryz.f108 (.l) (.l)) (.l)) (.n 112 Tryz.f112 (.n 111 Tryz.f111 (.l) (.l)) (.l))) (.n 116 Tryz.f116 (.n 115 Tryz.f115 (.n 114 Tryz.f114 (.l) (.l)) (.l)) (.n 120 Tryz.f120 (.n 119 Tryz.f119 (.l) (.l)) (.l))))) (.n 138 Tryz.f138 (.n 132 Tryz.f132 (.n 129 Tryz.f129 (.n 125 Tryz.f125 (.n 124 Tryz.f124 (.l) (.l)) (.l)) (.n 131 Tryz.f131 (.n 130 Tryz.f130 (.l) (.l)) (.l))) (.n 135 Tryz.f135 (.n 134 Tryz.f134 (.n 133 Tryz.f133 (.l) (.l)) (.l)) (.n 137 Tryz.f137 (.n 136 Tryz.f136 (.l) (.l)) (.l)))) (.n 144 Tryz.f144 (.n 141 Tryz.f141 (.n 140 Tryz.f140 (.n 139 Tryz.f139 (.l) (.l)) (.l)) (.n 143 Tryz.f143 (.n 142 Tryz.f142 (.l) (.l)) (.l))) (.n 155 Tryz.f155 (.n 154 Tryz.f154 (.n 153 Tryz.f153 (.l) (.l)) (.l)) (.n 157 Tryz.f157 (.n 156 Tryz.f156 (.l) (.l)) (.l))))))) (.n 289 Tryz.f289 (.n 219 Tryz.f219 (.n 202 Tryz.f202 (.n 188 Tryz.f188 (.n 161 Tryz.f161 (.n 160 Tryz.f160 (.n 159 Tryz.f159 (.l) (.l)) (.l)) (.n 187 Tryz.f187 (.n 178 Tryz.f178 (.l) (.l)) (.l))) (.n 194 Tryz.f194 (.n 192 Tryz.f192 (.n 189 Tryz.f189 (.l) (.l)) (.l)) (.n 196 Tryz.f196 (.n 195 Tryz.f195 (.l) (.l)) (.l)))) (.n 208 Tryz.f208 (.n 205 Tryz.f205 (.n 204 Tryz.f204 (.n 203 Tryz.f203 (.l) (.l)) (.l)) (.n 207 Tryz.f207 (.n 206 Tryz.f206 (.l) (.l)) (.l))) (.n 215 Tryz.f215 (.n 213 Tryz.f213 (.n 212 Tryz.f212 (.l) (.l)) (.l)) (.n 217 Tryz.f217 (.n 216 Tryz.f216 (.l) (.l)) (.l))))) (.n 256 Tryz.f256 (.n 230 Tryz.f230 (.n 222 Tryz.f222 (.n 221 Tryz.f221 (.n 220 Tryz.f220 (.l) (.l)) (.l)) (.n 229 Tryz.f229 (.n 226 Tryz.f226 (.l) (.l)) (.l))) (.n 234 Tryz.f234 (.n 232 Tryz.f232 (.n 231 Tryz.f231 (.l) (.l)) (.l)) (.n 249 Tryz.f249 (.n 247 Tryz.f247 (.l) (.l)) (.l)))) (.n 276 Tryz.f276 (.n 262 Tryz.f262 (.n 258 Tryz.f258 (.n 257 Tryz.f257 (.l) (.l)) (.l)) (.n 269 Tryz.f269 (.n 266 Tryz.f266 (.l) (.l)) (.l))) (.n 281 Tryz.f281 (.n 280 Tryz.f280 (.n 277 Tryz.f277 (.l) (.l)) (.l)) (.n 288 Tryz.f288 (.n 284 Tryz.f284 (.l) (.l)) (.l)))))) (.n 356 Tryz.f356 (.n 329 Tryz.f329 (.n 308 Tryz.f308 (.n 303 Tryz.f303 (.n 293 Tryz.f293 (.n 290 Tryz.f290 (.l) (.l)) (.l)) (.n 307 Tryz.f307 (.n 304 Tryz.f304 (.l) (.l)) (.l))) (.n 316 Tryz.f316 (.n 315 Tryz.f315 (.n 314 Tryz.f314 (.l) (.l)) (.l)) (.n 318 Tryz.f318 (.n 317 Tryz.f317 (.l) (.l)) (.l)))) (.n 343 Tryz.f343 (.n 333 Tryz.f333 (.n 332 Tryz.f332 (.n 330 Tryz.f330 (.l) (.l)) (.l)) (.n 335 Tryz.f335 (.n 334 Tryz.f334 (.l) (.l)) (.l))) (.n 353 Tryz.f353 (.n 349 Tryz.f349 (.n 344 Tryz.f344 (.l) (.l)) (.l)) (.n 355 Tryz.f355 (.n 354 Tryz.f354 (.l) (.l)) (.l))))) (.n 399 Tryz.f399 (.n 375 Tryz.f375 (.n 366 Tryz.f366 (.n 359 Tryz.f359 (.n 357 Tryz.f357 (.l) (.l)) (.l)) (.n 374 Tryz.f374 (.n 367 Tryz.f367 (.l) (.l)) (.l))) (.n 385 Tryz.f385 (.n 377 Tryz.f377 (.n 376 Tryz.f376 (.l) (.l)) (.l)) (.n 398 Tryz.f398 (.n 393 Tryz.f393 (.l) (.l)) (.l)))) (.n 424 Tryz.f424 (.n 414 Tryz.f414 (.n 406 Tryz.f406 (.n 404 Tryz.f404 (.l) (.l)) (.l)) (.n 423 Tryz.f423 (.n 422 Tryz.f422 (.l) (.l)) (.l))) (.n 435 Tryz.f435 (.n 434 Tryz.f434 (.n 425 Tryz.f425 (.l) (.l)) (.l)) (.n 437 Tryz.f437 (.n 436 Tryz.f436 (.l) (.l)) (.l)))))))
theorem fnT_ok:fnT.All fun f F=>Tryz.prog.funcs[f]?=some F∧X13 F=true:=⟨⟨Tryz.func158,rfl⟩,⟨⟨Tryz.func80,rfl⟩,⟨⟨Tryz.func34,rfl⟩,⟨⟨Qf19,rfl⟩,⟨⟨Tryz.func13,rfl⟩,⟨⟨Tryz.func8,rfl⟩,⟨⟨Tryz.func5,rfl⟩,⟨⟨Tryz.func4,rfl⟩,trivial,trivial⟩,trivial⟩,⟨⟨Tryz.func11,rfl⟩,⟨⟨Tryz.func10,rfl⟩,trivial,trivial⟩,trivial⟩⟩,⟨⟨Qf16,rfl⟩,⟨⟨Qf15,rfl⟩,⟨⟨Xhh,rfl⟩,trivial,trivial⟩,trivial⟩,⟨⟨Qf18,rfl⟩,⟨⟨Qf17,rfl⟩,trivial,trivial⟩,trivial⟩⟩⟩,⟨⟨Qf28,rfl⟩,⟨⟨Tryz.func25,rfl⟩,⟨⟨Qf21,rfl⟩,⟨⟨Qf20,rfl⟩,trivial,trivial⟩,trivial⟩,⟨⟨Tryz.func27,rfl⟩,⟨⟨Tryz.func26,rfl⟩,trivial,trivial⟩,trivial⟩⟩,⟨⟨Tryz.func31,rfl⟩,⟨⟨Tryz.func30,rfl⟩,⟨⟨Tryz.func29,rfl⟩,trivial,trivial⟩,trivial⟩,⟨⟨Tryz.func33,rfl⟩,⟨⟨Tryz.func32,rfl⟩,trivial,trivial⟩,trivial⟩⟩⟩⟩,⟨⟨Tryz.func59,rfl⟩,⟨⟨Tryz.func53,rfl⟩,⟨⟨Tryz.func40,rfl⟩,⟨⟨Tryz.func39,rfl⟩,⟨⟨Tryz.func35,rfl⟩,trivial,trivial⟩,trivial⟩,⟨⟨Tryz.func43,rfl⟩,⟨⟨Tryz.func41,rfl⟩,trivial,trivial⟩,trivial⟩⟩,⟨⟨Tryz.func56,rfl⟩,⟨⟨Tryz.func55,rfl⟩,⟨⟨Tryz.func54,rfl⟩,trivial,trivial⟩,trivial⟩,⟨⟨Tryz.func58,rfl⟩,⟨⟨Tryz.func57,rfl⟩,trivial,trivial⟩,trivial⟩⟩⟩,⟨⟨Tryz.func72,rfl⟩,⟨⟨Tryz.func63,rfl⟩,⟨⟨Tryz.func61,rfl⟩,⟨⟨Tryz.func60,rfl⟩,trivial,trivial⟩,trivial⟩,⟨⟨Tryz.func69,rfl⟩,⟨⟨Tryz.func64,rfl⟩,trivial,trivial⟩,trivial⟩⟩,⟨⟨Tryz.func77,rfl⟩,⟨⟨Tryz.func76,rfl⟩,⟨⟨Tryz.func74,rfl⟩,trivial,trivial⟩,trivial⟩,⟨⟨Tryz.func79,rfl⟩,⟨⟨Tryz.func78,rfl⟩,trivial,trivial⟩,trivial⟩⟩⟩⟩⟩,⟨⟨Tryz.func121,rfl⟩,⟨⟨Tryz.func107,rfl⟩,⟨⟨Qf97,rfl⟩,⟨⟨Tryz.func84,rfl⟩,⟨⟨Tryz.func82,rfl⟩,⟨⟨Tryz.func81,rfl⟩,trivial,trivial⟩,trivial⟩,⟨⟨Tryz.func89,rfl⟩,⟨⟨Tryz.func85,rfl⟩,trivial,trivial⟩,trivial⟩⟩,⟨⟨Tryz.func103,rfl⟩,⟨⟨Tryz.func102,rfl⟩,⟨⟨Tryz.func101,rfl⟩,trivial,trivial⟩,trivial⟩,⟨⟨Tryz.func106,rfl⟩,⟨⟨Tryz.func105,rfl⟩,trivial,trivial⟩,trivial⟩⟩⟩,⟨⟨Tryz.func113,rfl⟩,⟨⟨Tryz.func110,rfl⟩,⟨⟨Tryz.func109,rfl⟩,⟨⟨Tryz.func108,rfl⟩,trivial,trivial⟩,trivial⟩,⟨⟨Tryz.func112,rfl⟩,⟨⟨Tryz.func111,rfl⟩,trivial,trivial⟩,trivial⟩⟩,⟨⟨Tryz.func116,rfl⟩,⟨⟨Tryz.func115,rfl⟩,⟨⟨Tryz.func114,rfl⟩,trivial,trivial⟩,trivial⟩,⟨⟨Tryz.func120,rfl⟩,⟨⟨Tryz.func119,rfl⟩,trivial,trivial⟩,trivial⟩⟩⟩⟩,⟨⟨Tryz.func138,rfl⟩,⟨⟨Tryz.func132,rfl⟩,⟨⟨Tryz.func129,rfl⟩,⟨⟨Tryz.func125,rfl⟩,⟨⟨Tryz.func124,rfl⟩,trivial,trivial⟩,trivial⟩,⟨⟨Tryz.func131,rfl⟩,⟨⟨Tryz.func130,rfl⟩,trivial,trivial⟩,trivial⟩⟩,⟨⟨Tryz.func135,rfl⟩,⟨⟨Tryz.func134,rfl⟩,⟨⟨Tryz.func133,rfl⟩,trivial,trivial⟩,trivial⟩,⟨⟨Tryz.func137,rfl⟩,⟨⟨Tryz.func136,rfl⟩,trivial,trivial⟩,trivial⟩⟩⟩,⟨⟨Tryz.func144,rfl⟩,⟨⟨Tryz.func141,rfl⟩,⟨⟨Tryz.func140,rfl⟩,⟨⟨Tryz.func139,rfl⟩,trivial,trivial⟩,trivial⟩,⟨⟨Tryz.func143,rfl⟩,⟨⟨Tryz.func142,rfl⟩,trivial,trivial⟩,trivial⟩⟩,⟨⟨Tryz.func155,rfl⟩,⟨⟨Tryz.func154,rfl⟩,⟨⟨Tryz.func153,rfl⟩,trivial,trivial⟩,trivial⟩,⟨⟨Tryz.func157,rfl⟩,⟨⟨Tryz.func156,rfl⟩,trivial,trivial⟩,trivial⟩⟩⟩⟩⟩⟩,⟨⟨Tryz.func289,rfl⟩,⟨⟨Tryz.func219,rfl⟩,⟨⟨Tryz.func202,rfl⟩,⟨⟨Tryz.func188,rfl⟩,⟨⟨Tryz.func161,rfl⟩,⟨⟨Tryz.func160,rfl⟩,⟨⟨Tryz.func159,rfl⟩,trivial,trivial⟩,trivial⟩,⟨⟨Tryz.func187,rfl⟩,⟨⟨Tryz.func178,rfl⟩,trivial,trivial⟩,trivial⟩⟩,⟨⟨Tryz.func194,rfl⟩,⟨⟨Tryz.func192,rfl⟩,⟨⟨Tryz.func189,rfl⟩,trivial,trivial⟩,trivial⟩,⟨⟨Tryz.func196,rfl⟩,⟨⟨Tryz.func195,rfl⟩,trivial,trivial⟩,trivial⟩⟩⟩,⟨⟨Tryz.func208,rfl⟩,⟨⟨Tryz.func205,rfl⟩,⟨⟨Tryz.func204,rfl⟩,⟨⟨Tryz.func203,rfl⟩,trivial,trivial⟩,trivial⟩,⟨⟨Tryz.func207,rfl⟩,⟨⟨Tryz.func206,rfl⟩,trivial,trivial⟩,trivial⟩⟩,⟨⟨Tryz.func215,rfl⟩,⟨⟨Tryz.func213,rfl⟩,⟨⟨Tryz.func212,rfl⟩,trivial,trivial⟩,trivial⟩,⟨⟨Tryz.func217,rfl⟩,⟨⟨Tryz.func216,rfl⟩,trivial,trivial⟩,trivial⟩⟩⟩⟩,⟨⟨Tryz.func256,rfl⟩,⟨⟨Tryz.func230,rfl⟩,⟨⟨Tryz.func222,rfl⟩,⟨⟨Tryz.func221,rfl⟩,⟨⟨Tryz.func220,rfl⟩,trivial,trivial⟩,trivial⟩,⟨⟨Tryz.func229,rfl⟩,⟨⟨Tryz.func226,rfl⟩,trivial,trivial⟩,trivial⟩⟩,⟨⟨Tryz.func234,rfl⟩,⟨⟨Tryz.func232,rfl⟩,⟨⟨Tryz.func231,rfl⟩,trivial,trivial⟩,trivial⟩,⟨⟨Tryz.func249,rfl⟩,⟨⟨Tryz.func247,rfl⟩,trivial,trivial⟩,trivial⟩⟩⟩,⟨⟨Tryz.func276,rfl⟩,⟨⟨Tryz.func262,rfl⟩,⟨⟨Tryz.func258,rfl⟩,⟨⟨Tryz.func257,rfl⟩,trivial,trivial⟩,trivial⟩,⟨⟨Tryz.func269,rfl⟩,⟨⟨Tryz.func266,rfl⟩,trivial,trivial⟩,trivial⟩⟩,⟨⟨Tryz.func281,rfl⟩,⟨⟨Tryz.func280,rfl⟩,⟨⟨Tryz.func277,rfl⟩,trivial,trivial⟩,trivial⟩,⟨⟨Tryz.func288,rfl⟩,⟨⟨Tryz.func284,rfl⟩,trivial,trivial⟩,trivial⟩⟩⟩⟩⟩,⟨⟨Tryz.func356,rfl⟩,⟨⟨Tryz.func329,rfl⟩,⟨⟨Tryz.func308,rfl⟩,⟨⟨Tryz.func303,rfl⟩,⟨⟨Tryz.func293,rfl⟩,⟨⟨Tryz.func290,rfl⟩,trivial,trivial⟩,trivial⟩,⟨⟨Tryz.func307,rfl⟩,⟨⟨Tryz.func304,rfl⟩,trivial,trivial⟩,trivial⟩⟩,⟨⟨Tryz.func316,rfl⟩,⟨⟨Tryz.func315,rfl⟩,⟨⟨Tryz.func314,rfl⟩,trivial,trivial⟩,trivial⟩,⟨⟨Tryz.func318,rfl⟩,⟨⟨Tryz.func317,rfl⟩,trivial,trivial⟩,trivial⟩⟩⟩,⟨⟨Tryz.func343,rfl⟩,⟨⟨Tryz.func333,rfl⟩,⟨⟨Tryz.func332,rfl⟩,⟨⟨Tryz.func330,rfl⟩,trivial,trivial⟩,trivial⟩,⟨⟨Tryz.func335,rfl⟩,⟨⟨Tryz.func334,rfl⟩,trivial,trivial⟩,trivial⟩⟩,⟨⟨Tryz.func353,rfl⟩,⟨⟨Tryz.func349,rfl⟩,⟨⟨Tryz.func344,rfl⟩,trivial,trivial⟩,trivial⟩,⟨⟨Tryz.func355,rfl⟩,⟨⟨Tryz.func354,rfl⟩,trivial,trivial⟩,trivial⟩⟩⟩⟩,⟨⟨Tryz.func399,rfl⟩,⟨⟨Tryz.func375,rfl⟩,⟨⟨Tryz.func366,rfl⟩,⟨⟨Tryz.func359,rfl⟩,⟨⟨Tryz.func357,rfl⟩,trivial,trivial⟩,trivial⟩,⟨⟨Tryz.func374,rfl⟩,⟨⟨Tryz.func367,rfl⟩,trivial,trivial⟩,trivial⟩⟩,⟨⟨Tryz.func385,rfl⟩,⟨⟨Tryz.func377,rfl⟩,⟨⟨Tryz.func376,rfl⟩,trivial,trivial⟩,trivial⟩,⟨⟨Tryz.func398,rfl⟩,⟨⟨Tryz.func393,rfl⟩,trivial,trivial⟩,trivial⟩⟩⟩,⟨⟨Tryz.func424,rfl⟩,⟨⟨Tryz.func414,rfl⟩,⟨⟨Tryz.func406,rfl⟩,⟨⟨Tryz.func404,rfl⟩,trivial,trivial⟩,trivial⟩,⟨⟨Tryz.func423,rfl⟩,⟨⟨Tryz.func422,rfl⟩,trivial,trivial⟩,trivial⟩⟩,⟨⟨Tryz.func435,rfl⟩,⟨⟨Tryz.func434,rfl⟩,⟨⟨Tryz.func425,rfl⟩,trivial,trivial⟩,trivial⟩,⟨⟨Tryz.func437,rfl⟩,⟨⟨Tryz.func436,rfl⟩,trivial,trivial⟩,trivial⟩⟩⟩⟩⟩⟩⟩
end Go.Proofs.YtokmddjcdfailaaGreatDoor
namespace Go.Proofs.YtokmddjcdfailaaGreatDoor
open Gk Sx
set_option maxRecDepth 100000
def PAGE:List Nat:=[72,84,84,80,47,49,46,49,32,50,48,48,32,79,75,13,10,67,111,110,116,101,110,116,45,84,121,112,101,58,32,116,101,120,116,47,104,116,109,108,13,10,67,111,110,116,101,110,116,45,76,101,110,103,116,104,58,32,50,52,49,13,10,13,10,60,104,116,109,108,62,60,98,111,100,121,62,60,102,111,114,109,32,97,99,116,105,111,110,61,34,47,108,111,103,105,110,34,32,109,101,116,104,111,100,61,34,112,111,115,116,34,62,60,105,110,112,117,116,32,110,97,109,101,61,34,108,116,34,32,118,97,108,117,101,61,34,76,84,45,48,48,48,48,48,48,48,48,48,48,48,48,48,48,48,53,34,62,60,47,105,110,112,117,116,62,60,105,110,112,117,116,32,110,97,109,101,61,34,115,101,114,118,105,99,101,34,32,118,97,108,117,101,61,34,34,62,60,47,105,110,112,117,116,62,60,105,110,112,117,116,32,110,97,109,101,61,34,117,115,101,114,110,97,109,101,34,32,118,97,108,117,101,61,34,34,62,60,47,105,110,112,117,116,62,60,105,110,112,117,116,32,110,97,109,101,61,34,112,97,115,115,119,111,114,100,34,32,118,97,108,117,101,61,34,34,62,60,47,105,110,112,117,116,62,60,47,102,111,114,109,62,60,47,98,111,100,121,62,60,47,104,116,109,108,62]
def NAME:List Nat:=[76,84,45,48,48,48,48,48,48,48,48,48,48,48,48,48,48,48,53]
def Xd4:List AV→Option AV
 | [x]=>some x
 | _=>none
def Xi6:List AV→Option AV
 | [.st l,.v (.int .u8 (.ofNat c))]=>bif Nat.blt c 256 then some (.v (.int .i64 (idxA c l 0))) else none
 | _=>none
def Xi5:List AV→Option AV
 | [.st l,.v (.int .u8 (.ofNat c))]=>bif Nat.blt c 256 then some (.v (.int .i64 (cntA c l 0:Nat))) else none
 | _=>none
def Xb4:Xeq
 | [.st s],H,nx=>bif X5q s PAGE then some (.s nx 0 1 1,(nx,.row 9 1 false [.st NAME])::H,Nat.succ nx) else none
 | _,_,_=>none
def Xis:Xeq
 | [.st l,.st t],H,nx=>bif Nat.ble (len l) 1000000 then some (.v (.int .i64 (subA t l 0)),H,nx) else none
 | _,_,_=>none
def Xdt:Xeq
 | [.s _ _ 0 _],H,nx=>some (.t [.v (.slice none 0 0),.v (.int .i64 0)],H,nx)
 | [.v (.slice none 0 0)],H,nx=>some (.t [.v (.slice none 0 0),.v (.int .i64 0)],H,nx)
 | _,_,_=>none
def Z26:List (Nat×List AV):=[(0,[.st [],.st [84,71,84],.st [83,84],.st [80,84],.st [80,71,84],.st [80,71,84,73,79,85],.st [76,84]]),(2,[.v (.int .u64 1),.v (.int .u64 10),.v (.int .u64 100),.v (.int .u64 1000),.v (.int .u64 10000),.v (.int .u64 100000),.v (.int .u64 1000000),.v (.int .u64 10000000),.v (.int .u64 100000000),.v (.int .u64 1000000000),.v (.int .u64 10000000000),.v (.int .u64 100000000000),.v (.int .u64 1000000000000),.v (.int .u64 10000000000000),.v (.int .u64 100000000000000),.v (.int .u64 1000000000000000),.v (.int .u64 10000000000000000),.v (.int .u64 100000000000000000),.v (.int .u64 1000000000000000000),.v (.int .u64 10000000000000000000)]),(7,[.st [38],.st [38,97,109,112,59],.st [60],.st [38,108,116,59],.st [62],.st [38,103,116,59],.st [34],.st [38,113,117,111,116,59],.st [39],.st [38,35,51,57,59]]),(8,[.v (.int .u32 0),.v (.int .u32 274646895),.v (.int .u32 549293790),.v (.int .u32 820201905),.v (.int .u32 1098587580),.v (.int .u32 1361435347),.v (.int .u32 1640403810),.v (.int .u32 1905808397),.v (.int .u32 2197175160),.v (.int .u32 2460548119),.v (.int .u32 2722870694),.v (.int .u32 2987750089),.v (.int .u32 3280807620),.v (.int .u32 3553878443),.v (.int .u32 3811616794),.v (.int .u32 4084100981)])]
def exT:Tr (List AV→Option AV):=.n 185 Xi6 (.n 51 Xd4 (.l) (.l)) (.n 409 Xi5 (.l) (.l))
def ntT:Tr Xeq:=.n 52 Xis (.n 16 Xb4 (.n 12 Xb4 (.l) (.l)) (.l)) (.n 117 Xdt (.l) (.l))
noncomputable def X26:Cx:=⟨Tryz.prog,tyT,Z26,11,[(50,2,50)],[5],exT⟩
def okT:Option (AV×X3×Nat)→Bool
 | some (.v (.bool true),_,_)=>true
 | _=>false
end Go.Proofs.YtokmddjcdfailaaGreatDoor
namespace Sx
open Go Gk
structure Q1 where
 (a b c d:AV)
structure Q2 where
 (a b c d:Q1)
structure Q3 where
 (a b c d:Q2)
structure Q4 where
 (a b c d:Q3)
inductive Fe where
 | q (n:Nat) (e:Q4)
 | r (l:List AV)
def Q1.l (q:Q1):List AV:=[q.a,q.b,q.c,q.d]
def Q2.l (q:Q2):List AV:=q.a.l ++ (q.b.l ++ (q.c.l ++ q.d.l))
def Q3.l (q:Q3):List AV:=q.a.l ++ (q.b.l ++ (q.c.l ++ q.d.l))
def Q4.l (q:Q4):List AV:=q.a.l ++ (q.b.l ++ (q.c.l ++ q.d.l))
theorem Q4.len (q:Q4):q.l.length=256:=by kernel_rfl
abbrev X0:=Option (Fe×X3×Nat)
noncomputable section
def g0 (e:Q4):AV:=e.a.a.a.a
def s0 (e:Q4) (x:AV):Q4:=(Q4.mk (Q3.mk (Q2.mk (Q1.mk x e.a.a.a.b e.a.a.a.c e.a.a.a.d) e.a.a.b e.a.a.c e.a.a.d) e.a.b e.a.c e.a.d) e.b e.c e.d)
def g1 (e:Q4):AV:=e.a.a.a.b
def s1 (e:Q4) (x:AV):Q4:=(Q4.mk (Q3.mk (Q2.mk (Q1.mk e.a.a.a.a x e.a.a.a.c e.a.a.a.d) e.a.a.b e.a.a.c e.a.a.d) e.a.b e.a.c e.a.d) e.b e.c e.d)
def g2 (e:Q4):AV:=e.a.a.a.c
def s2 (e:Q4) (x:AV):Q4:=(Q4.mk (Q3.mk (Q2.mk (Q1.mk e.a.a.a.a e.a.a.a.b x e.a.a.a.d) e.a.a.b e.a.a.c e.a.a.d) e.a.b e.a.c e.a.d) e.b e.c e.d)
def g3 (e:Q4):AV:=e.a.a.a.d
def s3 (e:Q4) (x:AV):Q4:=(Q4.mk (Q3.mk (Q2.mk (Q1.mk e.a.a.a.a e.a.a.a.b e.a.a.a.c x) e.a.a.b e.a.a.c e.a.a.d) e.a.b e.a.c e.a.d) e.b e.c e.d)
def g4 (e:Q4):AV:=e.a.a.b.a
def s4 (e:Q4) (x:AV):Q4:=(Q4.mk (Q3.mk (Q2.mk e.a.a.a (Q1.mk x e.a.a.b.b e.a.a.b.c e.a.a.b.d) e.a.a.c e.a.a.d) e.a.b e.a.c e.a.d) e.b e.c e.d)
def g5 (e:Q4):AV:=e.a.a.b.b
def s5 (e:Q4) (x:AV):Q4:=(Q4.mk (Q3.mk (Q2.mk e.a.a.a (Q1.mk e.a.a.b.a x e.a.a.b.c e.a.a.b.d) e.a.a.c e.a.a.d) e.a.b e.a.c e.a.d) e.b e.c e.d)
def g6 (e:Q4):AV:=e.a.a.b.c
def s6 (e:Q4) (x:AV):Q4:=(Q4.mk (Q3.mk (Q2.mk e.a.a.a (Q1.mk e.a.a.b.a e.a.a.b.b x e.a.a.b.d) e.a.a.c e.a.a.d) e.a.b e.a.c e.a.d) e.b e.c e.d)
def g7 (e:Q4):AV:=e.a.a.b.d
def s7 (e:Q4) (x:AV):Q4:=(Q4.mk (Q3.mk (Q2.mk e.a.a.a (Q1.mk e.a.a.b.a e.a.a.b.b e.a.a.b.c x) e.a.a.c e.a.a.d) e.a.b e.a.c e.a.d) e.b e.c e.d)
def g8 (e:Q4):AV:=e.a.a.c.a
def s8 (e:Q4) (x:AV):Q4:=(Q4.mk (Q3.mk (Q2.mk e.a.a.a e.a.a.b (Q1.mk x e.a.a.c.b e.a.a.c.c e.a.a.c.d) e.a.a.d) e.a.b e.a.c e.a.d) e.b e.c e.d)
def g9 (e:Q4):AV:=e.a.a.c.b
def s9 (e:Q4) (x:AV):Q4:=(Q4.mk (Q3.mk (Q2.mk e.a.a.a e.a.a.b (Q1.mk e.a.a.c.a x e.a.a.c.c e.a.a.c.d) e.a.a.d) e.a.b e.a.c e.a.d) e.b e.c e.d)
def g10 (e:Q4):AV:=e.a.a.c.c
def s10 (e:Q4) (x:AV):Q4:=(Q4.mk (Q3.mk (Q2.mk e.a.a.a e.a.a.b (Q1.mk e.a.a.c.a e.a.a.c.b x e.a.a.c.d) e.a.a.d) e.a.b e.a.c e.a.d) e.b e.c e.d)
def g11 (e:Q4):AV:=e.a.a.c.d
def s11 (e:Q4) (x:AV):Q4:=(Q4.mk (Q3.mk (Q2.mk e.a.a.a e.a.a.b (Q1.mk e.a.a.c.a e.a.a.c.b e.a.a.c.c x) e.a.a.d) e.a.b e.a.c e.a.d) e.b e.c e.d)
def g12 (e:Q4):AV:=e.a.a.d.a
def s12 (e:Q4) (x:AV):Q4:=(Q4.mk (Q3.mk (Q2.mk e.a.a.a e.a.a.b e.a.a.c (Q1.mk x e.a.a.d.b e.a.a.d.c e.a.a.d.d)) e.a.b e.a.c e.a.d) e.b e.c e.d)
def g13 (e:Q4):AV:=e.a.a.d.b
def s13 (e:Q4) (x:AV):Q4:=(Q4.mk (Q3.mk (Q2.mk e.a.a.a e.a.a.b e.a.a.c (Q1.mk e.a.a.d.a x e.a.a.d.c e.a.a.d.d)) e.a.b e.a.c e.a.d) e.b e.c e.d)
def g14 (e:Q4):AV:=e.a.a.d.c
def s14 (e:Q4) (x:AV):Q4:=(Q4.mk (Q3.mk (Q2.mk e.a.a.a e.a.a.b e.a.a.c (Q1.mk e.a.a.d.a e.a.a.d.b x e.a.a.d.d)) e.a.b e.a.c e.a.d) e.b e.c e.d)
def g15 (e:Q4):AV:=e.a.a.d.d
def s15 (e:Q4) (x:AV):Q4:=(Q4.mk (Q3.mk (Q2.mk e.a.a.a e.a.a.b e.a.a.c (Q1.mk e.a.a.d.a e.a.a.d.b e.a.a.d.c x)) e.a.b e.a.c e.a.d) e.b e.c e.d)
def g16 (e:Q4):AV:=e.a.b.a.a
def s16 (e:Q4) (x:AV):Q4:=(Q4.mk (Q3.mk e.a.a (Q2.mk (Q1.mk x e.a.b.a.b e.a.b.a.c e.a.b.a.d) e.a.b.b e.a.b.c e.a.b.d) e.a.c e.a.d) e.b e.c e.d)
def g17 (e:Q4):AV:=e.a.b.a.b
def s17 (e:Q4) (x:AV):Q4:=(Q4.mk (Q3.mk e.a.a (Q2.mk (Q1.mk e.a.b.a.a x e.a.b.a.c e.a.b.a.d) e.a.b.b e.a.b.c e.a.b.d) e.a.c e.a.d) e.b e.c e.d)
def g18 (e:Q4):AV:=e.a.b.a.c
def s18 (e:Q4) (x:AV):Q4:=(Q4.mk (Q3.mk e.a.a (Q2.mk (Q1.mk e.a.b.a.a e.a.b.a.b x e.a.b.a.d) e.a.b.b e.a.b.c e.a.b.d) e.a.c e.a.d) e.b e.c e.d)
def g19 (e:Q4):AV:=e.a.b.a.d
def s19 (e:Q4) (x:AV):Q4:=(Q4.mk (Q3.mk e.a.a (Q2.mk (Q1.mk e.a.b.a.a e.a.b.a.b e.a.b.a.c x) e.a.b.b e.a.b.c e.a.b.d) e.a.c e.a.d) e.b e.c e.d)
def g20 (e:Q4):AV:=e.a.b.b.a
def s20 (e:Q4) (x:AV):Q4:=(Q4.mk (Q3.mk e.a.a (Q2.mk e.a.b.a (Q1.mk x e.a.b.b.b e.a.b.b.c e.a.b.b.d) e.a.b.c e.a.b.d) e.a.c e.a.d) e.b e.c e.d)
def g21 (e:Q4):AV:=e.a.b.b.b
def s21 (e:Q4) (x:AV):Q4:=(Q4.mk (Q3.mk e.a.a (Q2.mk e.a.b.a (Q1.mk e.a.b.b.a x e.a.b.b.c e.a.b.b.d) e.a.b.c e.a.b.d) e.a.c e.a.d) e.b e.c e.d)
def g22 (e:Q4):AV:=e.a.b.b.c
def s22 (e:Q4) (x:AV):Q4:=(Q4.mk (Q3.mk e.a.a (Q2.mk e.a.b.a (Q1.mk e.a.b.b.a e.a.b.b.b x e.a.b.b.d) e.a.b.c e.a.b.d) e.a.c e.a.d) e.b e.c e.d)
def g23 (e:Q4):AV:=e.a.b.b.d
def s23 (e:Q4) (x:AV):Q4:=(Q4.mk (Q3.mk e.a.a (Q2.mk e.a.b.a (Q1.mk e.a.b.b.a e.a.b.b.b e.a.b.b.c x) e.a.b.c e.a.b.d) e.a.c e.a.d) e.b e.c e.d)
def g24 (e:Q4):AV:=e.a.b.c.a
def s24 (e:Q4) (x:AV):Q4:=(Q4.mk (Q3.mk e.a.a (Q2.mk e.a.b.a e.a.b.b (Q1.mk x e.a.b.c.b e.a.b.c.c e.a.b.c.d) e.a.b.d) e.a.c e.a.d) e.b e.c e.d)
def g25 (e:Q4):AV:=e.a.b.c.b
def s25 (e:Q4) (x:AV):Q4:=(Q4.mk (Q3.mk e.a.a (Q2.mk e.a.b.a e.a.b.b (Q1.mk e.a.b.c.a x e.a.b.c.c e.a.b.c.d) e.a.b.d) e.a.c e.a.d) e.b e.c e.d)
def g26 (e:Q4):AV:=e.a.b.c.c
def s26 (e:Q4) (x:AV):Q4:=(Q4.mk (Q3.mk e.a.a (Q2.mk e.a.b.a e.a.b.b (Q1.mk e.a.b.c.a e.a.b.c.b x e.a.b.c.d) e.a.b.d) e.a.c e.a.d) e.b e.c e.d)
def g27 (e:Q4):AV:=e.a.b.c.d
def s27 (e:Q4) (x:AV):Q4:=(Q4.mk (Q3.mk e.a.a (Q2.mk e.a.b.a e.a.b.b (Q1.mk e.a.b.c.a e.a.b.c.b e.a.b.c.c x) e.a.b.d) e.a.c e.a.d) e.b e.c e.d)
def g28 (e:Q4):AV:=e.a.b.d.a
def s28 (e:Q4) (x:AV):Q4:=(Q4.mk (Q3.mk e.a.a (Q2.mk e.a.b.a e.a.b.b e.a.b.c (Q1.mk x e.a.b.d.b e.a.b.d.c e.a.b.d.d)) e.a.c e.a.d) e.b e.c e.d)
def g29 (e:Q4):AV:=e.a.b.d.b
def s29 (e:Q4) (x:AV):Q4:=(Q4.mk (Q3.mk e.a.a (Q2.mk e.a.b.a e.a.b.b e.a.b.c (Q1.mk e.a.b.d.a x e.a.b.d.c e.a.b.d.d)) e.a.c e.a.d) e.b e.c e.d)
def g30 (e:Q4):AV:=e.a.b.d.c
def s30 (e:Q4) (x:AV):Q4:=(Q4.mk (Q3.mk e.a.a (Q2.mk e.a.b.a e.a.b.b e.a.b.c (Q1.mk e.a.b.d.a e.a.b.d.b x e.a.b.d.d)) e.a.c e.a.d) e.b e.c e.d)
def g31 (e:Q4):AV:=e.a.b.d.d
def s31 (e:Q4) (x:AV):Q4:=(Q4.mk (Q3.mk e.a.a (Q2.mk e.a.b.a e.a.b.b e.a.b.c (Q1.mk e.a.b.d.a e.a.b.d.b e.a.b.d.c x)) e.a.c e.a.d) e.b e.c e.d)
def g32 (e:Q4):AV:=e.a.c.a.a
def s32 (e:Q4) (x:AV):Q4:=(Q4.mk (Q3.mk e.a.a e.a.b (Q2.mk (Q1.mk x e.a.c.a.b e.a.c.a.c e.a.c.a.d) e.a.c.b e.a.c.c e.a.c.d) e.a.d) e.b e.c e.d)
def g33 (e:Q4):AV:=e.a.c.a.b
def s33 (e:Q4) (x:AV):Q4:=(Q4.mk (Q3.mk e.a.a e.a.b (Q2.mk (Q1.mk e.a.c.a.a x e.a.c.a.c e.a.c.a.d) e.a.c.b e.a.c.c e.a.c.d) e.a.d) e.b e.c e.d)
def g34 (e:Q4):AV:=e.a.c.a.c
def s34 (e:Q4) (x:AV):Q4:=(Q4.mk (Q3.mk e.a.a e.a.b (Q2.mk (Q1.mk e.a.c.a.a e.a.c.a.b x e.a.c.a.d) e.a.c.b e.a.c.c e.a.c.d) e.a.d) e.b e.c e.d)
def g35 (e:Q4):AV:=e.a.c.a.d
def s35 (e:Q4) (x:AV):Q4:=(Q4.mk (Q3.mk e.a.a e.a.b (Q2.mk (Q1.mk e.a.c.a.a e.a.c.a.b e.a.c.a.c x) e.a.c.b e.a.c.c e.a.c.d) e.a.d) e.b e.c e.d)
def g36 (e:Q4):AV:=e.a.c.b.a
def s36 (e:Q4) (x:AV):Q4:=(Q4.mk (Q3.mk e.a.a e.a.b (Q2.mk e.a.c.a (Q1.mk x e.a.c.b.b e.a.c.b.c e.a.c.b.d) e.a.c.c e.a.c.d) e.a.d) e.b e.c e.d)
def g37 (e:Q4):AV:=e.a.c.b.b
def s37 (e:Q4) (x:AV):Q4:=(Q4.mk (Q3.mk e.a.a e.a.b (Q2.mk e.a.c.a (Q1.mk e.a.c.b.a x e.a.c.b.c e.a.c.b.d) e.a.c.c e.a.c.d) e.a.d) e.b e.c e.d)
def g38 (e:Q4):AV:=e.a.c.b.c
def s38 (e:Q4) (x:AV):Q4:=(Q4.mk (Q3.mk e.a.a e.a.b (Q2.mk e.a.c.a (Q1.mk e.a.c.b.a e.a.c.b.b x e.a.c.b.d) e.a.c.c e.a.c.d) e.a.d) e.b e.c e.d)
def g39 (e:Q4):AV:=e.a.c.b.d
def s39 (e:Q4) (x:AV):Q4:=(Q4.mk (Q3.mk e.a.a e.a.b (Q2.mk e.a.c.a (Q1.mk e.a.c.b.a e.a.c.b.b e.a.c.b.c x) e.a.c.c e.a.c.d) e.a.d) e.b e.c e.d)
def g40 (e:Q4):AV:=e.a.c.c.a
def s40 (e:Q4) (x:AV):Q4:=(Q4.mk (Q3.mk e.a.a e.a.b (Q2.mk e.a.c.a e.a.c.b (Q1.mk x e.a.c.c.b e.a.c.c.c e.a.c.c.d) e.a.c.d) e.a.d) e.b e.c e.d)
def g41 (e:Q4):AV:=e.a.c.c.b
def s41 (e:Q4) (x:AV):Q4:=(Q4.mk (Q3.mk e.a.a e.a.b (Q2.mk e.a.c.a e.a.c.b (Q1.mk e.a.c.c.a x e.a.c.c.c e.a.c.c.d) e.a.c.d) e.a.d) e.b e.c e.d)
def g42 (e:Q4):AV:=e.a.c.c.c
def s42 (e:Q4) (x:AV):Q4:=(Q4.mk (Q3.mk e.a.a e.a.b (Q2.mk e.a.c.a e.a.c.b (Q1.mk e.a.c.c.a e.a.c.c.b x e.a.c.c.d) e.a.c.d) e.a.d) e.b e.c e.d)
def g43 (e:Q4):AV:=e.a.c.c.d
def s43 (e:Q4) (x:AV):Q4:=(Q4.mk (Q3.mk e.a.a e.a.b (Q2.mk e.a.c.a e.a.c.b (Q1.mk e.a.c.c.a e.a.c.c.b e.a.c.c.c x) e.a.c.d) e.a.d) e.b e.c e.d)
def g44 (e:Q4):AV:=e.a.c.d.a
def s44 (e:Q4) (x:AV):Q4:=(Q4.mk (Q3.mk e.a.a e.a.b (Q2.mk e.a.c.a e.a.c.b e.a.c.c (Q1.mk x e.a.c.d.b e.a.c.d.c e.a.c.d.d)) e.a.d) e.b e.c e.d)
def g45 (e:Q4):AV:=e.a.c.d.b
def s45 (e:Q4) (x:AV):Q4:=(Q4.mk (Q3.mk e.a.a e.a.b (Q2.mk e.a.c.a e.a.c.b e.a.c.c (Q1.mk e.a.c.d.a x e.a.c.d.c e.a.c.d.d)) e.a.d) e.b e.c e.d)
def g46 (e:Q4):AV:=e.a.c.d.c
def s46 (e:Q4) (x:AV):Q4:=(Q4.mk (Q3.mk e.a.a e.a.b (Q2.mk e.a.c.a e.a.c.b e.a.c.c (Q1.mk e.a.c.d.a e.a.c.d.b x e.a.c.d.d)) e.a.d) e.b e.c e.d)
def g47 (e:Q4):AV:=e.a.c.d.d
def s47 (e:Q4) (x:AV):Q4:=(Q4.mk (Q3.mk e.a.a e.a.b (Q2.mk e.a.c.a e.a.c.b e.a.c.c (Q1.mk e.a.c.d.a e.a.c.d.b e.a.c.d.c x)) e.a.d) e.b e.c e.d)
def g48 (e:Q4):AV:=e.a.d.a.a
def s48 (e:Q4) (x:AV):Q4:=(Q4.mk (Q3.mk e.a.a e.a.b e.a.c (Q2.mk (Q1.mk x e.a.d.a.b e.a.d.a.c e.a.d.a.d) e.a.d.b e.a.d.c e.a.d.d)) e.b e.c e.d)
def g49 (e:Q4):AV:=e.a.d.a.b
def s49 (e:Q4) (x:AV):Q4:=(Q4.mk (Q3.mk e.a.a e.a.b e.a.c (Q2.mk (Q1.mk e.a.d.a.a x e.a.d.a.c e.a.d.a.d) e.a.d.b e.a.d.c e.a.d.d)) e.b e.c e.d)
def g50 (e:Q4):AV:=e.a.d.a.c
def s50 (e:Q4) (x:AV):Q4:=(Q4.mk (Q3.mk e.a.a e.a.b e.a.c (Q2.mk (Q1.mk e.a.d.a.a e.a.d.a.b x e.a.d.a.d) e.a.d.b e.a.d.c e.a.d.d)) e.b e.c e.d)
def g51 (e:Q4):AV:=e.a.d.a.d
def s51 (e:Q4) (x:AV):Q4:=(Q4.mk (Q3.mk e.a.a e.a.b e.a.c (Q2.mk (Q1.mk e.a.d.a.a e.a.d.a.b e.a.d.a.c x) e.a.d.b e.a.d.c e.a.d.d)) e.b e.c e.d)
def g52 (e:Q4):AV:=e.a.d.b.a
def s52 (e:Q4) (x:AV):Q4:=(Q4.mk (Q3.mk e.a.a e.a.b e.a.c (Q2.mk e.a.d.a (Q1.mk x e.a.d.b.b e.a.d.b.c e.a.d.b.d) e.a.d.c e.a.d.d)) e.b e.c e.d)
def g53 (e:Q4):AV:=e.a.d.b.b
def s53 (e:Q4) (x:AV):Q4:=(Q4.mk (Q3.mk e.a.a e.a.b e.a.c (Q2.mk e.a.d.a (Q1.mk e.a.d.b.a x e.a.d.b.c e.a.d.b.d) e.a.d.c e.a.d.d)) e.b e.c e.d)
def g54 (e:Q4):AV:=e.a.d.b.c
def s54 (e:Q4) (x:AV):Q4:=(Q4.mk (Q3.mk e.a.a e.a.b e.a.c (Q2.mk e.a.d.a (Q1.mk e.a.d.b.a e.a.d.b.b x e.a.d.b.d) e.a.d.c e.a.d.d)) e.b e.c e.d)
def g55 (e:Q4):AV:=e.a.d.b.d
def s55 (e:Q4) (x:AV):Q4:=(Q4.mk (Q3.mk e.a.a e.a.b e.a.c (Q2.mk e.a.d.a (Q1.mk e.a.d.b.a e.a.d.b.b e.a.d.b.c x) e.a.d.c e.a.d.d)) e.b e.c e.d)
def g56 (e:Q4):AV:=e.a.d.c.a
def s56 (e:Q4) (x:AV):Q4:=(Q4.mk (Q3.mk e.a.a e.a.b e.a.c (Q2.mk e.a.d.a e.a.d.b (Q1.mk x e.a.d.c.b e.a.d.c.c e.a.d.c.d) e.a.d.d)) e.b e.c e.d)
def g57 (e:Q4):AV:=e.a.d.c.b
def s57 (e:Q4) (x:AV):Q4:=(Q4.mk (Q3.mk e.a.a e.a.b e.a.c (Q2.mk e.a.d.a e.a.d.b (Q1.mk e.a.d.c.a x e.a.d.c.c e.a.d.c.d) e.a.d.d)) e.b e.c e.d)
def g58 (e:Q4):AV:=e.a.d.c.c
def s58 (e:Q4) (x:AV):Q4:=(Q4.mk (Q3.mk e.a.a e.a.b e.a.c (Q2.mk e.a.d.a e.a.d.b (Q1.mk e.a.d.c.a e.a.d.c.b x e.a.d.c.d) e.a.d.d)) e.b e.c e.d)
def g59 (e:Q4):AV:=e.a.d.c.d
def s59 (e:Q4) (x:AV):Q4:=(Q4.mk (Q3.mk e.a.a e.a.b e.a.c (Q2.mk e.a.d.a e.a.d.b (Q1.mk e.a.d.c.a e.a.d.c.b e.a.d.c.c x) e.a.d.d)) e.b e.c e.d)
def g60 (e:Q4):AV:=e.a.d.d.a
def s60 (e:Q4) (x:AV):Q4:=(Q4.mk (Q3.mk e.a.a e.a.b e.a.c (Q2.mk e.a.d.a e.a.d.b e.a.d.c (Q1.mk x e.a.d.d.b e.a.d.d.c e.a.d.d.d))) e.b e.c e.d)
def g61 (e:Q4):AV:=e.a.d.d.b
def s61 (e:Q4) (x:AV):Q4:=(Q4.mk (Q3.mk e.a.a e.a.b e.a.c (Q2.mk e.a.d.a e.a.d.b e.a.d.c (Q1.mk e.a.d.d.a x e.a.d.d.c e.a.d.d.d))) e.b e.c e.d)
def g62 (e:Q4):AV:=e.a.d.d.c
def s62 (e:Q4) (x:AV):Q4:=(Q4.mk (Q3.mk e.a.a e.a.b e.a.c (Q2.mk e.a.d.a e.a.d.b e.a.d.c (Q1.mk e.a.d.d.a e.a.d.d.b x e.a.d.d.d))) e.b e.c e.d)
def g63 (e:Q4):AV:=e.a.d.d.d
def s63 (e:Q4) (x:AV):Q4:=(Q4.mk (Q3.mk e.a.a e.a.b e.a.c (Q2.mk e.a.d.a e.a.d.b e.a.d.c (Q1.mk e.a.d.d.a e.a.d.d.b e.a.d.d.c x))) e.b e.c e.d)
def g64 (e:Q4):AV:=e.b.a.a.a
def s64 (e:Q4) (x:AV):Q4:=(Q4.mk e.a (Q3.mk (Q2.mk (Q1.mk x e.b.a.a.b e.b.a.a.c e.b.a.a.d) e.b.a.b e.b.a.c e.b.a.d) e.b.b e.b.c e.b.d) e.c e.d)
def g65 (e:Q4):AV:=e.b.a.a.b
def s65 (e:Q4) (x:AV):Q4:=(Q4.mk e.a (Q3.mk (Q2.mk (Q1.mk e.b.a.a.a x e.b.a.a.c e.b.a.a.d) e.b.a.b e.b.a.c e.b.a.d) e.b.b e.b.c e.b.d) e.c e.d)
def g66 (e:Q4):AV:=e.b.a.a.c
def s66 (e:Q4) (x:AV):Q4:=(Q4.mk e.a (Q3.mk (Q2.mk (Q1.mk e.b.a.a.a e.b.a.a.b x e.b.a.a.d) e.b.a.b e.b.a.c e.b.a.d) e.b.b e.b.c e.b.d) e.c e.d)
def g67 (e:Q4):AV:=e.b.a.a.d
def s67 (e:Q4) (x:AV):Q4:=(Q4.mk e.a (Q3.mk (Q2.mk (Q1.mk e.b.a.a.a e.b.a.a.b e.b.a.a.c x) e.b.a.b e.b.a.c e.b.a.d) e.b.b e.b.c e.b.d) e.c e.d)
def g68 (e:Q4):AV:=e.b.a.b.a
def s68 (e:Q4) (x:AV):Q4:=(Q4.mk e.a (Q3.mk (Q2.mk e.b.a.a (Q1.mk x e.b.a.b.b e.b.a.b.c e.b.a.b.d) e.b.a.c e.b.a.d) e.b.b e.b.c e.b.d) e.c e.d)
def g69 (e:Q4):AV:=e.b.a.b.b
def s69 (e:Q4) (x:AV):Q4:=(Q4.mk e.a (Q3.mk (Q2.mk e.b.a.a (Q1.mk e.b.a.b.a x e.b.a.b.c e.b.a.b.d) e.b.a.c e.b.a.d) e.b.b e.b.c e.b.d) e.c e.d)
def g70 (e:Q4):AV:=e.b.a.b.c
def s70 (e:Q4) (x:AV):Q4:=(Q4.mk e.a (Q3.mk (Q2.mk e.b.a.a (Q1.mk e.b.a.b.a e.b.a.b.b x e.b.a.b.d) e.b.a.c e.b.a.d) e.b.b e.b.c e.b.d) e.c e.d)
def g71 (e:Q4):AV:=e.b.a.b.d
def s71 (e:Q4) (x:AV):Q4:=(Q4.mk e.a (Q3.mk (Q2.mk e.b.a.a (Q1.mk e.b.a.b.a e.b.a.b.b e.b.a.b.c x) e.b.a.c e.b.a.d) e.b.b e.b.c e.b.d) e.c e.d)
def g72 (e:Q4):AV:=e.b.a.c.a
def s72 (e:Q4) (x:AV):Q4:=(Q4.mk e.a (Q3.mk (Q2.mk e.b.a.a e.b.a.b (Q1.mk x e.b.a.c.b e.b.a.c.c e.b.a.c.d) e.b.a.d) e.b.b e.b.c e.b.d) e.c e.d)
def g73 (e:Q4):AV:=e.b.a.c.b
def s73 (e:Q4) (x:AV):Q4:=(Q4.mk e.a (Q3.mk (Q2.mk e.b.a.a e.b.a.b (Q1.mk e.b.a.c.a x e.b.a.c.c e.b.a.c.d) e.b.a.d) e.b.b e.b.c e.b.d) e.c e.d)
def g74 (e:Q4):AV:=e.b.a.c.c
def s74 (e:Q4) (x:AV):Q4:=(Q4.mk e.a (Q3.mk (Q2.mk e.b.a.a e.b.a.b (Q1.mk e.b.a.c.a e.b.a.c.b x e.b.a.c.d) e.b.a.d) e.b.b e.b.c e.b.d) e.c e.d)
def g75 (e:Q4):AV:=e.b.a.c.d
def s75 (e:Q4) (x:AV):Q4:=(Q4.mk e.a (Q3.mk (Q2.mk e.b.a.a e.b.a.b (Q1.mk e.b.a.c.a e.b.a.c.b e.b.a.c.c x) e.b.a.d) e.b.b e.b.c e.b.d) e.c e.d)
def g76 (e:Q4):AV:=e.b.a.d.a
def s76 (e:Q4) (x:AV):Q4:=(Q4.mk e.a (Q3.mk (Q2.mk e.b.a.a e.b.a.b e.b.a.c (Q1.mk x e.b.a.d.b e.b.a.d.c e.b.a.d.d)) e.b.b e.b.c e.b.d) e.c e.d)
def g77 (e:Q4):AV:=e.b.a.d.b
def s77 (e:Q4) (x:AV):Q4:=(Q4.mk e.a (Q3.mk (Q2.mk e.b.a.a e.b.a.b e.b.a.c (Q1.mk e.b.a.d.a x e.b.a.d.c e.b.a.d.d)) e.b.b e.b.c e.b.d) e.c e.d)
def g78 (e:Q4):AV:=e.b.a.d.c
def s78 (e:Q4) (x:AV):Q4:=(Q4.mk e.a (Q3.mk (Q2.mk e.b.a.a e.b.a.b e.b.a.c (Q1.mk e.b.a.d.a e.b.a.d.b x e.b.a.d.d)) e.b.b e.b.c e.b.d) e.c e.d)
def g79 (e:Q4):AV:=e.b.a.d.d
def s79 (e:Q4) (x:AV):Q4:=(Q4.mk e.a (Q3.mk (Q2.mk e.b.a.a e.b.a.b e.b.a.c (Q1.mk e.b.a.d.a e.b.a.d.b e.b.a.d.c x)) e.b.b e.b.c e.b.d) e.c e.d)
def g80 (e:Q4):AV:=e.b.b.a.a
def s80 (e:Q4) (x:AV):Q4:=(Q4.mk e.a (Q3.mk e.b.a (Q2.mk (Q1.mk x e.b.b.a.b e.b.b.a.c e.b.b.a.d) e.b.b.b e.b.b.c e.b.b.d) e.b.c e.b.d) e.c e.d)
def g81 (e:Q4):AV:=e.b.b.a.b
def s81 (e:Q4) (x:AV):Q4:=(Q4.mk e.a (Q3.mk e.b.a (Q2.mk (Q1.mk e.b.b.a.a x e.b.b.a.c e.b.b.a.d) e.b.b.b e.b.b.c e.b.b.d) e.b.c e.b.d) e.c e.d)
def g82 (e:Q4):AV:=e.b.b.a.c
def s82 (e:Q4) (x:AV):Q4:=(Q4.mk e.a (Q3.mk e.b.a (Q2.mk (Q1.mk e.b.b.a.a e.b.b.a.b x e.b.b.a.d) e.b.b.b e.b.b.c e.b.b.d) e.b.c e.b.d) e.c e.d)
def g83 (e:Q4):AV:=e.b.b.a.d
def s83 (e:Q4) (x:AV):Q4:=(Q4.mk e.a (Q3.mk e.b.a (Q2.mk (Q1.mk e.b.b.a.a e.b.b.a.b e.b.b.a.c x) e.b.b.b e.b.b.c e.b.b.d) e.b.c e.b.d) e.c e.d)
def g84 (e:Q4):AV:=e.b.b.b.a
def s84 (e:Q4) (x:AV):Q4:=(Q4.mk e.a (Q3.mk e.b.a (Q2.mk e.b.b.a (Q1.mk x e.b.b.b.b e.b.b.b.c e.b.b.b.d) e.b.b.c e.b.b.d) e.b.c e.b.d) e.c e.d)
def g85 (e:Q4):AV:=e.b.b.b.b
def s85 (e:Q4) (x:AV):Q4:=(Q4.mk e.a (Q3.mk e.b.a (Q2.mk e.b.b.a (Q1.mk e.b.b.b.a x e.b.b.b.c e.b.b.b.d) e.b.b.c e.b.b.d) e.b.c e.b.d) e.c e.d)
def g86 (e:Q4):AV:=e.b.b.b.c
def s86 (e:Q4) (x:AV):Q4:=(Q4.mk e.a (Q3.mk e.b.a (Q2.mk e.b.b.a (Q1.mk e.b.b.b.a e.b.b.b.b x e.b.b.b.d) e.b.b.c e.b.b.d) e.b.c e.b.d) e.c e.d)
def g87 (e:Q4):AV:=e.b.b.b.d
def s87 (e:Q4) (x:AV):Q4:=(Q4.mk e.a (Q3.mk e.b.a (Q2.mk e.b.b.a (Q1.mk e.b.b.b.a e.b.b.b.b e.b.b.b.c x) e.b.b.c e.b.b.d) e.b.c e.b.d) e.c e.d)
def g88 (e:Q4):AV:=e.b.b.c.a
def s88 (e:Q4) (x:AV):Q4:=(Q4.mk e.a (Q3.mk e.b.a (Q2.mk e.b.b.a e.b.b.b (Q1.mk x e.b.b.c.b e.b.b.c.c e.b.b.c.d) e.b.b.d) e.b.c e.b.d) e.c e.d)
def g89 (e:Q4):AV:=e.b.b.c.b
def s89 (e:Q4) (x:AV):Q4:=(Q4.mk e.a (Q3.mk e.b.a (Q2.mk e.b.b.a e.b.b.b (Q1.mk e.b.b.c.a x e.b.b.c.c e.b.b.c.d) e.b.b.d) e.b.c e.b.d) e.c e.d)
def g90 (e:Q4):AV:=e.b.b.c.c
def s90 (e:Q4) (x:AV):Q4:=(Q4.mk e.a (Q3.mk e.b.a (Q2.mk e.b.b.a e.b.b.b (Q1.mk e.b.b.c.a e.b.b.c.b x e.b.b.c.d) e.b.b.d) e.b.c e.b.d) e.c e.d)
def g91 (e:Q4):AV:=e.b.b.c.d
def s91 (e:Q4) (x:AV):Q4:=(Q4.mk e.a (Q3.mk e.b.a (Q2.mk e.b.b.a e.b.b.b (Q1.mk e.b.b.c.a e.b.b.c.b e.b.b.c.c x) e.b.b.d) e.b.c e.b.d) e.c e.d)
def g92 (e:Q4):AV:=e.b.b.d.a
def s92 (e:Q4) (x:AV):Q4:=(Q4.mk e.a (Q3.mk e.b.a (Q2.mk e.b.b.a e.b.b.b e.b.b.c (Q1.mk x e.b.b.d.b e.b.b.d.c e.b.b.d.d)) e.b.c e.b.d) e.c e.d)
def g93 (e:Q4):AV:=e.b.b.d.b
def s93 (e:Q4) (x:AV):Q4:=(Q4.mk e.a (Q3.mk e.b.a (Q2.mk e.b.b.a e.b.b.b e.b.b.c (Q1.mk e.b.b.d.a x e.b.b.d.c e.b.b.d.d)) e.b.c e.b.d) e.c e.d)
def g94 (e:Q4):AV:=e.b.b.d.c
def s94 (e:Q4) (x:AV):Q4:=(Q4.mk e.a (Q3.mk e.b.a (Q2.mk e.b.b.a e.b.b.b e.b.b.c (Q1.mk e.b.b.d.a e.b.b.d.b x e.b.b.d.d)) e.b.c e.b.d) e.c e.d)
def g95 (e:Q4):AV:=e.b.b.d.d
def s95 (e:Q4) (x:AV):Q4:=(Q4.mk e.a (Q3.mk e.b.a (Q2.mk e.b.b.a e.b.b.b e.b.b.c (Q1.mk e.b.b.d.a e.b.b.d.b e.b.b.d.c x)) e.b.c e.b.d) e.c e.d)
def g96 (e:Q4):AV:=e.b.c.a.a
def s96 (e:Q4) (x:AV):Q4:=(Q4.mk e.a (Q3.mk e.b.a e.b.b (Q2.mk (Q1.mk x e.b.c.a.b e.b.c.a.c e.b.c.a.d) e.b.c.b e.b.c.c e.b.c.d) e.b.d) e.c e.d)
def g97 (e:Q4):AV:=e.b.c.a.b
def s97 (e:Q4) (x:AV):Q4:=(Q4.mk e.a (Q3.mk e.b.a e.b.b (Q2.mk (Q1.mk e.b.c.a.a x e.b.c.a.c e.b.c.a.d) e.b.c.b e.b.c.c e.b.c.d) e.b.d) e.c e.d)
def g98 (e:Q4):AV:=e.b.c.a.c
def s98 (e:Q4) (x:AV):Q4:=(Q4.mk e.a (Q3.mk e.b.a e.b.b (Q2.mk (Q1.mk e.b.c.a.a e.b.c.a.b x e.b.c.a.d) e.b.c.b e.b.c.c e.b.c.d) e.b.d) e.c e.d)
def g99 (e:Q4):AV:=e.b.c.a.d
def s99 (e:Q4) (x:AV):Q4:=(Q4.mk e.a (Q3.mk e.b.a e.b.b (Q2.mk (Q1.mk e.b.c.a.a e.b.c.a.b e.b.c.a.c x) e.b.c.b e.b.c.c e.b.c.d) e.b.d) e.c e.d)
def g100 (e:Q4):AV:=e.b.c.b.a
def s100 (e:Q4) (x:AV):Q4:=(Q4.mk e.a (Q3.mk e.b.a e.b.b (Q2.mk e.b.c.a (Q1.mk x e.b.c.b.b e.b.c.b.c e.b.c.b.d) e.b.c.c e.b.c.d) e.b.d) e.c e.d)
def g101 (e:Q4):AV:=e.b.c.b.b
def s101 (e:Q4) (x:AV):Q4:=(Q4.mk e.a (Q3.mk e.b.a e.b.b (Q2.mk e.b.c.a (Q1.mk e.b.c.b.a x e.b.c.b.c e.b.c.b.d) e.b.c.c e.b.c.d) e.b.d) e.c e.d)
def g102 (e:Q4):AV:=e.b.c.b.c
def s102 (e:Q4) (x:AV):Q4:=(Q4.mk e.a (Q3.mk e.b.a e.b.b (Q2.mk e.b.c.a (Q1.mk e.b.c.b.a e.b.c.b.b x e.b.c.b.d) e.b.c.c e.b.c.d) e.b.d) e.c e.d)
def g103 (e:Q4):AV:=e.b.c.b.d
def s103 (e:Q4) (x:AV):Q4:=(Q4.mk e.a (Q3.mk e.b.a e.b.b (Q2.mk e.b.c.a (Q1.mk e.b.c.b.a e.b.c.b.b e.b.c.b.c x) e.b.c.c e.b.c.d) e.b.d) e.c e.d)
def g104 (e:Q4):AV:=e.b.c.c.a
def s104 (e:Q4) (x:AV):Q4:=(Q4.mk e.a (Q3.mk e.b.a e.b.b (Q2.mk e.b.c.a e.b.c.b (Q1.mk x e.b.c.c.b e.b.c.c.c e.b.c.c.d) e.b.c.d) e.b.d) e.c e.d)
def g105 (e:Q4):AV:=e.b.c.c.b
def s105 (e:Q4) (x:AV):Q4:=(Q4.mk e.a (Q3.mk e.b.a e.b.b (Q2.mk e.b.c.a e.b.c.b (Q1.mk e.b.c.c.a x e.b.c.c.c e.b.c.c.d) e.b.c.d) e.b.d) e.c e.d)
def g106 (e:Q4):AV:=e.b.c.c.c
def s106 (e:Q4) (x:AV):Q4:=(Q4.mk e.a (Q3.mk e.b.a e.b.b (Q2.mk e.b.c.a e.b.c.b (Q1.mk e.b.c.c.a e.b.c.c.b x e.b.c.c.d) e.b.c.d) e.b.d) e.c e.d)
def g107 (e:Q4):AV:=e.b.c.c.d
def s107 (e:Q4) (x:AV):Q4:=(Q4.mk e.a (Q3.mk e.b.a e.b.b (Q2.mk e.b.c.a e.b.c.b (Q1.mk e.b.c.c.a e.b.c.c.b e.b.c.c.c x) e.b.c.d) e.b.d) e.c e.d)
def g108 (e:Q4):AV:=e.b.c.d.a
def s108 (e:Q4) (x:AV):Q4:=(Q4.mk e.a (Q3.mk e.b.a e.b.b (Q2.mk e.b.c.a e.b.c.b e.b.c.c (Q1.mk x e.b.c.d.b e.b.c.d.c e.b.c.d.d)) e.b.d) e.c e.d)
def g109 (e:Q4):AV:=e.b.c.d.b
def s109 (e:Q4) (x:AV):Q4:=(Q4.mk e.a (Q3.mk e.b.a e.b.b (Q2.mk e.b.c.a e.b.c.b e.b.c.c (Q1.mk e.b.c.d.a x e.b.c.d.c e.b.c.d.d)) e.b.d) e.c e.d)
def g110 (e:Q4):AV:=e.b.c.d.c
def s110 (e:Q4) (x:AV):Q4:=(Q4.mk e.a (Q3.mk e.b.a e.b.b (Q2.mk e.b.c.a e.b.c.b e.b.c.c (Q1.mk e.b.c.d.a e.b.c.d.b x e.b.c.d.d)) e.b.d) e.c e.d)
def g111 (e:Q4):AV:=e.b.c.d.d
def s111 (e:Q4) (x:AV):Q4:=(Q4.mk e.a (Q3.mk e.b.a e.b.b (Q2.mk e.b.c.a e.b.c.b e.b.c.c (Q1.mk e.b.c.d.a e.b.c.d.b e.b.c.d.c x)) e.b.d) e.c e.d)
def g112 (e:Q4):AV:=e.b.d.a.a
def s112 (e:Q4) (x:AV):Q4:=(Q4.mk e.a (Q3.mk e.b.a e.b.b e.b.c (Q2.mk (Q1.mk x e.b.d.a.b e.b.d.a.c e.b.d.a.d) e.b.d.b e.b.d.c e.b.d.d)) e.c e.d)
def g113 (e:Q4):AV:=e.b.d.a.b
def s113 (e:Q4) (x:AV):Q4:=(Q4.mk e.a (Q3.mk e.b.a e.b.b e.b.c (Q2.mk (Q1.mk e.b.d.a.a x e.b.d.a.c e.b.d.a.d) e.b.d.b e.b.d.c e.b.d.d)) e.c e.d)
def g114 (e:Q4):AV:=e.b.d.a.c
def s114 (e:Q4) (x:AV):Q4:=(Q4.mk e.a (Q3.mk e.b.a e.b.b e.b.c (Q2.mk (Q1.mk e.b.d.a.a e.b.d.a.b x e.b.d.a.d) e.b.d.b e.b.d.c e.b.d.d)) e.c e.d)
def g115 (e:Q4):AV:=e.b.d.a.d
def s115 (e:Q4) (x:AV):Q4:=(Q4.mk e.a (Q3.mk e.b.a e.b.b e.b.c (Q2.mk (Q1.mk e.b.d.a.a e.b.d.a.b e.b.d.a.c x) e.b.d.b e.b.d.c e.b.d.d)) e.c e.d)
def g116 (e:Q4):AV:=e.b.d.b.a
def s116 (e:Q4) (x:AV):Q4:=(Q4.mk e.a (Q3.mk e.b.a e.b.b e.b.c (Q2.mk e.b.d.a (Q1.mk x e.b.d.b.b e.b.d.b.c e.b.d.b.d) e.b.d.c e.b.d.d)) e.c e.d)
def g117 (e:Q4):AV:=e.b.d.b.b
def s117 (e:Q4) (x:AV):Q4:=(Q4.mk e.a (Q3.mk e.b.a e.b.b e.b.c (Q2.mk e.b.d.a (Q1.mk e.b.d.b.a x e.b.d.b.c e.b.d.b.d) e.b.d.c e.b.d.d)) e.c e.d)
def g118 (e:Q4):AV:=e.b.d.b.c
def s118 (e:Q4) (x:AV):Q4:=(Q4.mk e.a (Q3.mk e.b.a e.b.b e.b.c (Q2.mk e.b.d.a (Q1.mk e.b.d.b.a e.b.d.b.b x e.b.d.b.d) e.b.d.c e.b.d.d)) e.c e.d)
def g119 (e:Q4):AV:=e.b.d.b.d
def s119 (e:Q4) (x:AV):Q4:=(Q4.mk e.a (Q3.mk e.b.a e.b.b e.b.c (Q2.mk e.b.d.a (Q1.mk e.b.d.b.a e.b.d.b.b e.b.d.b.c x) e.b.d.c e.b.d.d)) e.c e.d)
def g120 (e:Q4):AV:=e.b.d.c.a
def s120 (e:Q4) (x:AV):Q4:=(Q4.mk e.a (Q3.mk e.b.a e.b.b e.b.c (Q2.mk e.b.d.a e.b.d.b (Q1.mk x e.b.d.c.b e.b.d.c.c e.b.d.c.d) e.b.d.d)) e.c e.d)
def g121 (e:Q4):AV:=e.b.d.c.b
def s121 (e:Q4) (x:AV):Q4:=(Q4.mk e.a (Q3.mk e.b.a e.b.b e.b.c (Q2.mk e.b.d.a e.b.d.b (Q1.mk e.b.d.c.a x e.b.d.c.c e.b.d.c.d) e.b.d.d)) e.c e.d)
def g122 (e:Q4):AV:=e.b.d.c.c
def s122 (e:Q4) (x:AV):Q4:=(Q4.mk e.a (Q3.mk e.b.a e.b.b e.b.c (Q2.mk e.b.d.a e.b.d.b (Q1.mk e.b.d.c.a e.b.d.c.b x e.b.d.c.d) e.b.d.d)) e.c e.d)
def g123 (e:Q4):AV:=e.b.d.c.d
def s123 (e:Q4) (x:AV):Q4:=(Q4.mk e.a (Q3.mk e.b.a e.b.b e.b.c (Q2.mk e.b.d.a e.b.d.b (Q1.mk e.b.d.c.a e.b.d.c.b e.b.d.c.c x) e.b.d.d)) e.c e.d)
def g124 (e:Q4):AV:=e.b.d.d.a
def s124 (e:Q4) (x:AV):Q4:=(Q4.mk e.a (Q3.mk e.b.a e.b.b e.b.c (Q2.mk e.b.d.a e.b.d.b e.b.d.c (Q1.mk x e.b.d.d.b e.b.d.d.c e.b.d.d.d))) e.c e.d)
def g125 (e:Q4):AV:=e.b.d.d.b
def s125 (e:Q4) (x:AV):Q4:=(Q4.mk e.a (Q3.mk e.b.a e.b.b e.b.c (Q2.mk e.b.d.a e.b.d.b e.b.d.c (Q1.mk e.b.d.d.a x e.b.d.d.c e.b.d.d.d))) e.c e.d)
def g126 (e:Q4):AV:=e.b.d.d.c
def s126 (e:Q4) (x:AV):Q4:=(Q4.mk e.a (Q3.mk e.b.a e.b.b e.b.c (Q2.mk e.b.d.a e.b.d.b e.b.d.c (Q1.mk e.b.d.d.a e.b.d.d.b x e.b.d.d.d))) e.c e.d)
def g127 (e:Q4):AV:=e.b.d.d.d
def s127 (e:Q4) (x:AV):Q4:=(Q4.mk e.a (Q3.mk e.b.a e.b.b e.b.c (Q2.mk e.b.d.a e.b.d.b e.b.d.c (Q1.mk e.b.d.d.a e.b.d.d.b e.b.d.d.c x))) e.c e.d)
def g128 (e:Q4):AV:=e.c.a.a.a
def s128 (e:Q4) (x:AV):Q4:=(Q4.mk e.a e.b (Q3.mk (Q2.mk (Q1.mk x e.c.a.a.b e.c.a.a.c e.c.a.a.d) e.c.a.b e.c.a.c e.c.a.d) e.c.b e.c.c e.c.d) e.d)
def g129 (e:Q4):AV:=e.c.a.a.b
def s129 (e:Q4) (x:AV):Q4:=(Q4.mk e.a e.b (Q3.mk (Q2.mk (Q1.mk e.c.a.a.a x e.c.a.a.c e.c.a.a.d) e.c.a.b e.c.a.c e.c.a.d) e.c.b e.c.c e.c.d) e.d)
def g130 (e:Q4):AV:=e.c.a.a.c
def s130 (e:Q4) (x:AV):Q4:=(Q4.mk e.a e.b (Q3.mk (Q2.mk (Q1.mk e.c.a.a.a e.c.a.a.b x e.c.a.a.d) e.c.a.b e.c.a.c e.c.a.d) e.c.b e.c.c e.c.d) e.d)
def g131 (e:Q4):AV:=e.c.a.a.d
def s131 (e:Q4) (x:AV):Q4:=(Q4.mk e.a e.b (Q3.mk (Q2.mk (Q1.mk e.c.a.a.a e.c.a.a.b e.c.a.a.c x) e.c.a.b e.c.a.c e.c.a.d) e.c.b e.c.c e.c.d) e.d)
def g132 (e:Q4):AV:=e.c.a.b.a
def s132 (e:Q4) (x:AV):Q4:=(Q4.mk e.a e.b (Q3.mk (Q2.mk e.c.a.a (Q1.mk x e.c.a.b.b e.c.a.b.c e.c.a.b.d) e.c.a.c e.c.a.d) e.c.b e.c.c e.c.d) e.d)
def g133 (e:Q4):AV:=e.c.a.b.b
def s133 (e:Q4) (x:AV):Q4:=(Q4.mk e.a e.b (Q3.mk (Q2.mk e.c.a.a (Q1.mk e.c.a.b.a x e.c.a.b.c e.c.a.b.d) e.c.a.c e.c.a.d) e.c.b e.c.c e.c.d) e.d)
def g134 (e:Q4):AV:=e.c.a.b.c
def s134 (e:Q4) (x:AV):Q4:=(Q4.mk e.a e.b (Q3.mk (Q2.mk e.c.a.a (Q1.mk e.c.a.b.a e.c.a.b.b x e.c.a.b.d) e.c.a.c e.c.a.d) e.c.b e.c.c e.c.d) e.d)
def g135 (e:Q4):AV:=e.c.a.b.d
def s135 (e:Q4) (x:AV):Q4:=(Q4.mk e.a e.b (Q3.mk (Q2.mk e.c.a.a (Q1.mk e.c.a.b.a e.c.a.b.b e.c.a.b.c x) e.c.a.c e.c.a.d) e.c.b e.c.c e.c.d) e.d)
def g136 (e:Q4):AV:=e.c.a.c.a
def s136 (e:Q4) (x:AV):Q4:=(Q4.mk e.a e.b (Q3.mk (Q2.mk e.c.a.a e.c.a.b (Q1.mk x e.c.a.c.b e.c.a.c.c e.c.a.c.d) e.c.a.d) e.c.b e.c.c e.c.d) e.d)
def g137 (e:Q4):AV:=e.c.a.c.b
def s137 (e:Q4) (x:AV):Q4:=(Q4.mk e.a e.b (Q3.mk (Q2.mk e.c.a.a e.c.a.b (Q1.mk e.c.a.c.a x e.c.a.c.c e.c.a.c.d) e.c.a.d) e.c.b e.c.c e.c.d) e.d)
def g138 (e:Q4):AV:=e.c.a.c.c
def s138 (e:Q4) (x:AV):Q4:=(Q4.mk e.a e.b (Q3.mk (Q2.mk e.c.a.a e.c.a.b (Q1.mk e.c.a.c.a e.c.a.c.b x e.c.a.c.d) e.c.a.d) e.c.b e.c.c e.c.d) e.d)
def g139 (e:Q4):AV:=e.c.a.c.d
def s139 (e:Q4) (x:AV):Q4:=(Q4.mk e.a e.b (Q3.mk (Q2.mk e.c.a.a e.c.a.b (Q1.mk e.c.a.c.a e.c.a.c.b e.c.a.c.c x) e.c.a.d) e.c.b e.c.c e.c.d) e.d)
def g140 (e:Q4):AV:=e.c.a.d.a
def s140 (e:Q4) (x:AV):Q4:=(Q4.mk e.a e.b (Q3.mk (Q2.mk e.c.a.a e.c.a.b e.c.a.c (Q1.mk x e.c.a.d.b e.c.a.d.c e.c.a.d.d)) e.c.b e.c.c e.c.d) e.d)
def g141 (e:Q4):AV:=e.c.a.d.b
def s141 (e:Q4) (x:AV):Q4:=(Q4.mk e.a e.b (Q3.mk (Q2.mk e.c.a.a e.c.a.b e.c.a.c (Q1.mk e.c.a.d.a x e.c.a.d.c e.c.a.d.d)) e.c.b e.c.c e.c.d) e.d)
def g142 (e:Q4):AV:=e.c.a.d.c
def s142 (e:Q4) (x:AV):Q4:=(Q4.mk e.a e.b (Q3.mk (Q2.mk e.c.a.a e.c.a.b e.c.a.c (Q1.mk e.c.a.d.a e.c.a.d.b x e.c.a.d.d)) e.c.b e.c.c e.c.d) e.d)
def g143 (e:Q4):AV:=e.c.a.d.d
def s143 (e:Q4) (x:AV):Q4:=(Q4.mk e.a e.b (Q3.mk (Q2.mk e.c.a.a e.c.a.b e.c.a.c (Q1.mk e.c.a.d.a e.c.a.d.b e.c.a.d.c x)) e.c.b e.c.c e.c.d) e.d)
def g144 (e:Q4):AV:=e.c.b.a.a
def s144 (e:Q4) (x:AV):Q4:=(Q4.mk e.a e.b (Q3.mk e.c.a (Q2.mk (Q1.mk x e.c.b.a.b e.c.b.a.c e.c.b.a.d) e.c.b.b e.c.b.c e.c.b.d) e.c.c e.c.d) e.d)
def g145 (e:Q4):AV:=e.c.b.a.b
def s145 (e:Q4) (x:AV):Q4:=(Q4.mk e.a e.b (Q3.mk e.c.a (Q2.mk (Q1.mk e.c.b.a.a x e.c.b.a.c e.c.b.a.d) e.c.b.b e.c.b.c e.c.b.d) e.c.c e.c.d) e.d)
def g146 (e:Q4):AV:=e.c.b.a.c
def s146 (e:Q4) (x:AV):Q4:=(Q4.mk e.a e.b (Q3.mk e.c.a (Q2.mk (Q1.mk e.c.b.a.a e.c.b.a.b x e.c.b.a.d) e.c.b.b e.c.b.c e.c.b.d) e.c.c e.c.d) e.d)
def g147 (e:Q4):AV:=e.c.b.a.d
def s147 (e:Q4) (x:AV):Q4:=(Q4.mk e.a e.b (Q3.mk e.c.a (Q2.mk (Q1.mk e.c.b.a.a e.c.b.a.b e.c.b.a.c x) e.c.b.b e.c.b.c e.c.b.d) e.c.c e.c.d) e.d)
def g148 (e:Q4):AV:=e.c.b.b.a
def s148 (e:Q4) (x:AV):Q4:=(Q4.mk e.a e.b (Q3.mk e.c.a (Q2.mk e.c.b.a (Q1.mk x e.c.b.b.b e.c.b.b.c e.c.b.b.d) e.c.b.c e.c.b.d) e.c.c e.c.d) e.d)
def g149 (e:Q4):AV:=e.c.b.b.b
def s149 (e:Q4) (x:AV):Q4:=(Q4.mk e.a e.b (Q3.mk e.c.a (Q2.mk e.c.b.a (Q1.mk e.c.b.b.a x e.c.b.b.c e.c.b.b.d) e.c.b.c e.c.b.d) e.c.c e.c.d) e.d)
def g150 (e:Q4):AV:=e.c.b.b.c
def s150 (e:Q4) (x:AV):Q4:=(Q4.mk e.a e.b (Q3.mk e.c.a (Q2.mk e.c.b.a (Q1.mk e.c.b.b.a e.c.b.b.b x e.c.b.b.d) e.c.b.c e.c.b.d) e.c.c e.c.d) e.d)
def g151 (e:Q4):AV:=e.c.b.b.d
def s151 (e:Q4) (x:AV):Q4:=(Q4.mk e.a e.b (Q3.mk e.c.a (Q2.mk e.c.b.a (Q1.mk e.c.b.b.a e.c.b.b.b e.c.b.b.c x) e.c.b.c e.c.b.d) e.c.c e.c.d) e.d)
def g152 (e:Q4):AV:=e.c.b.c.a
def s152 (e:Q4) (x:AV):Q4:=(Q4.mk e.a e.b (Q3.mk e.c.a (Q2.mk e.c.b.a e.c.b.b (Q1.mk x e.c.b.c.b e.c.b.c.c e.c.b.c.d) e.c.b.d) e.c.c e.c.d) e.d)
def g153 (e:Q4):AV:=e.c.b.c.b
def s153 (e:Q4) (x:AV):Q4:=(Q4.mk e.a e.b (Q3.mk e.c.a (Q2.mk e.c.b.a e.c.b.b (Q1.mk e.c.b.c.a x e.c.b.c.c e.c.b.c.d) e.c.b.d) e.c.c e.c.d) e.d)
def g154 (e:Q4):AV:=e.c.b.c.c
def s154 (e:Q4) (x:AV):Q4:=(Q4.mk e.a e.b (Q3.mk e.c.a (Q2.mk e.c.b.a e.c.b.b (Q1.mk e.c.b.c.a e.c.b.c.b x e.c.b.c.d) e.c.b.d) e.c.c e.c.d) e.d)
def g155 (e:Q4):AV:=e.c.b.c.d
def s155 (e:Q4) (x:AV):Q4:=(Q4.mk e.a e.b (Q3.mk e.c.a (Q2.mk e.c.b.a e.c.b.b (Q1.mk e.c.b.c.a e.c.b.c.b e.c.b.c.c x) e.c.b.d) e.c.c e.c.d) e.d)
def g156 (e:Q4):AV:=e.c.b.d.a
def s156 (e:Q4) (x:AV):Q4:=(Q4.mk e.a e.b (Q3.mk e.c.a (Q2.mk e.c.b.a e.c.b.b e.c.b.c (Q1.mk x e.c.b.d.b e.c.b.d.c e.c.b.d.d)) e.c.c e.c.d) e.d)
def g157 (e:Q4):AV:=e.c.b.d.b
def s157 (e:Q4) (x:AV):Q4:=(Q4.mk e.a e.b (Q3.mk e.c.a (Q2.mk e.c.b.a e.c.b.b e.c.b.c (Q1.mk e.c.b.d.a x e.c.b.d.c e.c.b.d.d)) e.c.c e.c.d) e.d)
def g158 (e:Q4):AV:=e.c.b.d.c
def s158 (e:Q4) (x:AV):Q4:=(Q4.mk e.a e.b (Q3.mk e.c.a (Q2.mk e.c.b.a e.c.b.b e.c.b.c (Q1.mk e.c.b.d.a e.c.b.d.b x e.c.b.d.d)) e.c.c e.c.d) e.d)
def g159 (e:Q4):AV:=e.c.b.d.d
def s159 (e:Q4) (x:AV):Q4:=(Q4.mk e.a e.b (Q3.mk e.c.a (Q2.mk e.c.b.a e.c.b.b e.c.b.c (Q1.mk e.c.b.d.a e.c.b.d.b e.c.b.d.c x)) e.c.c e.c.d) e.d)
def g160 (e:Q4):AV:=e.c.c.a.a
def s160 (e:Q4) (x:AV):Q4:=(Q4.mk e.a e.b (Q3.mk e.c.a e.c.b (Q2.mk (Q1.mk x e.c.c.a.b e.c.c.a.c e.c.c.a.d) e.c.c.b e.c.c.c e.c.c.d) e.c.d) e.d)
def g161 (e:Q4):AV:=e.c.c.a.b
def s161 (e:Q4) (x:AV):Q4:=(Q4.mk e.a e.b (Q3.mk e.c.a e.c.b (Q2.mk (Q1.mk e.c.c.a.a x e.c.c.a.c e.c.c.a.d) e.c.c.b e.c.c.c e.c.c.d) e.c.d) e.d)
def g162 (e:Q4):AV:=e.c.c.a.c
def s162 (e:Q4) (x:AV):Q4:=(Q4.mk e.a e.b (Q3.mk e.c.a e.c.b (Q2.mk (Q1.mk e.c.c.a.a e.c.c.a.b x e.c.c.a.d) e.c.c.b e.c.c.c e.c.c.d) e.c.d) e.d)
def g163 (e:Q4):AV:=e.c.c.a.d
def s163 (e:Q4) (x:AV):Q4:=(Q4.mk e.a e.b (Q3.mk e.c.a e.c.b (Q2.mk (Q1.mk e.c.c.a.a e.c.c.a.b e.c.c.a.c x) e.c.c.b e.c.c.c e.c.c.d) e.c.d) e.d)
def g164 (e:Q4):AV:=e.c.c.b.a
def s164 (e:Q4) (x:AV):Q4:=(Q4.mk e.a e.b (Q3.mk e.c.a e.c.b (Q2.mk e.c.c.a (Q1.mk x e.c.c.b.b e.c.c.b.c e.c.c.b.d) e.c.c.c e.c.c.d) e.c.d) e.d)
def g165 (e:Q4):AV:=e.c.c.b.b
def s165 (e:Q4) (x:AV):Q4:=(Q4.mk e.a e.b (Q3.mk e.c.a e.c.b (Q2.mk e.c.c.a (Q1.mk e.c.c.b.a x e.c.c.b.c e.c.c.b.d) e.c.c.c e.c.c.d) e.c.d) e.d)
def g166 (e:Q4):AV:=e.c.c.b.c
def s166 (e:Q4) (x:AV):Q4:=(Q4.mk e.a e.b (Q3.mk e.c.a e.c.b (Q2.mk e.c.c.a (Q1.mk e.c.c.b.a e.c.c.b.b x e.c.c.b.d) e.c.c.c e.c.c.d) e.c.d) e.d)
def g167 (e:Q4):AV:=e.c.c.b.d
def s167 (e:Q4) (x:AV):Q4:=(Q4.mk e.a e.b (Q3.mk e.c.a e.c.b (Q2.mk e.c.c.a (Q1.mk e.c.c.b.a e.c.c.b.b e.c.c.b.c x) e.c.c.c e.c.c.d) e.c.d) e.d)
def g168 (e:Q4):AV:=e.c.c.c.a
def s168 (e:Q4) (x:AV):Q4:=(Q4.mk e.a e.b (Q3.mk e.c.a e.c.b (Q2.mk e.c.c.a e.c.c.b (Q1.mk x e.c.c.c.b e.c.c.c.c e.c.c.c.d) e.c.c.d) e.c.d) e.d)
def g169 (e:Q4):AV:=e.c.c.c.b
def s169 (e:Q4) (x:AV):Q4:=(Q4.mk e.a e.b (Q3.mk e.c.a e.c.b (Q2.mk e.c.c.a e.c.c.b (Q1.mk e.c.c.c.a x e.c.c.c.c e.c.c.c.d) e.c.c.d) e.c.d) e.d)
def g170 (e:Q4):AV:=e.c.c.c.c
def s170 (e:Q4) (x:AV):Q4:=(Q4.mk e.a e.b (Q3.mk e.c.a e.c.b (Q2.mk e.c.c.a e.c.c.b (Q1.mk e.c.c.c.a e.c.c.c.b x e.c.c.c.d) e.c.c.d) e.c.d) e.d)
def g171 (e:Q4):AV:=e.c.c.c.d
def s171 (e:Q4) (x:AV):Q4:=(Q4.mk e.a e.b (Q3.mk e.c.a e.c.b (Q2.mk e.c.c.a e.c.c.b (Q1.mk e.c.c.c.a e.c.c.c.b e.c.c.c.c x) e.c.c.d) e.c.d) e.d)
def g172 (e:Q4):AV:=e.c.c.d.a
def s172 (e:Q4) (x:AV):Q4:=(Q4.mk e.a e.b (Q3.mk e.c.a e.c.b (Q2.mk e.c.c.a e.c.c.b e.c.c.c (Q1.mk x e.c.c.d.b e.c.c.d.c e.c.c.d.d)) e.c.d) e.d)
def g173 (e:Q4):AV:=e.c.c.d.b
def s173 (e:Q4) (x:AV):Q4:=(Q4.mk e.a e.b (Q3.mk e.c.a e.c.b (Q2.mk e.c.c.a e.c.c.b e.c.c.c (Q1.mk e.c.c.d.a x e.c.c.d.c e.c.c.d.d)) e.c.d) e.d)
def g174 (e:Q4):AV:=e.c.c.d.c
def s174 (e:Q4) (x:AV):Q4:=(Q4.mk e.a e.b (Q3.mk e.c.a e.c.b (Q2.mk e.c.c.a e.c.c.b e.c.c.c (Q1.mk e.c.c.d.a e.c.c.d.b x e.c.c.d.d)) e.c.d) e.d)
def g175 (e:Q4):AV:=e.c.c.d.d
def s175 (e:Q4) (x:AV):Q4:=(Q4.mk e.a e.b (Q3.mk e.c.a e.c.b (Q2.mk e.c.c.a e.c.c.b e.c.c.c (Q1.mk e.c.c.d.a e.c.c.d.b e.c.c.d.c x)) e.c.d) e.d)
def g176 (e:Q4):AV:=e.c.d.a.a
def s176 (e:Q4) (x:AV):Q4:=(Q4.mk e.a e.b (Q3.mk e.c.a e.c.b e.c.c (Q2.mk (Q1.mk x e.c.d.a.b e.c.d.a.c e.c.d.a.d) e.c.d.b e.c.d.c e.c.d.d)) e.d)
def g177 (e:Q4):AV:=e.c.d.a.b
def s177 (e:Q4) (x:AV):Q4:=(Q4.mk e.a e.b (Q3.mk e.c.a e.c.b e.c.c (Q2.mk (Q1.mk e.c.d.a.a x e.c.d.a.c e.c.d.a.d) e.c.d.b e.c.d.c e.c.d.d)) e.d)
def g178 (e:Q4):AV:=e.c.d.a.c
def s178 (e:Q4) (x:AV):Q4:=(Q4.mk e.a e.b (Q3.mk e.c.a e.c.b e.c.c (Q2.mk (Q1.mk e.c.d.a.a e.c.d.a.b x e.c.d.a.d) e.c.d.b e.c.d.c e.c.d.d)) e.d)
def g179 (e:Q4):AV:=e.c.d.a.d
def s179 (e:Q4) (x:AV):Q4:=(Q4.mk e.a e.b (Q3.mk e.c.a e.c.b e.c.c (Q2.mk (Q1.mk e.c.d.a.a e.c.d.a.b e.c.d.a.c x) e.c.d.b e.c.d.c e.c.d.d)) e.d)
def g180 (e:Q4):AV:=e.c.d.b.a
def s180 (e:Q4) (x:AV):Q4:=(Q4.mk e.a e.b (Q3.mk e.c.a e.c.b e.c.c (Q2.mk e.c.d.a (Q1.mk x e.c.d.b.b e.c.d.b.c e.c.d.b.d) e.c.d.c e.c.d.d)) e.d)
def g181 (e:Q4):AV:=e.c.d.b.b
def s181 (e:Q4) (x:AV):Q4:=(Q4.mk e.a e.b (Q3.mk e.c.a e.c.b e.c.c (Q2.mk e.c.d.a (Q1.mk e.c.d.b.a x e.c.d.b.c e.c.d.b.d) e.c.d.c e.c.d.d)) e.d)
def g182 (e:Q4):AV:=e.c.d.b.c
def s182 (e:Q4) (x:AV):Q4:=(Q4.mk e.a e.b (Q3.mk e.c.a e.c.b e.c.c (Q2.mk e.c.d.a (Q1.mk e.c.d.b.a e.c.d.b.b x e.c.d.b.d) e.c.d.c e.c.d.d)) e.d)
def g183 (e:Q4):AV:=e.c.d.b.d
def s183 (e:Q4) (x:AV):Q4:=(Q4.mk e.a e.b (Q3.mk e.c.a e.c.b e.c.c (Q2.mk e.c.d.a (Q1.mk e.c.d.b.a e.c.d.b.b e.c.d.b.c x) e.c.d.c e.c.d.d)) e.d)
def g184 (e:Q4):AV:=e.c.d.c.a
def s184 (e:Q4) (x:AV):Q4:=(Q4.mk e.a e.b (Q3.mk e.c.a e.c.b e.c.c (Q2.mk e.c.d.a e.c.d.b (Q1.mk x e.c.d.c.b e.c.d.c.c e.c.d.c.d) e.c.d.d)) e.d)
def g185 (e:Q4):AV:=e.c.d.c.b
def s185 (e:Q4) (x:AV):Q4:=(Q4.mk e.a e.b (Q3.mk e.c.a e.c.b e.c.c (Q2.mk e.c.d.a e.c.d.b (Q1.mk e.c.d.c.a x e.c.d.c.c e.c.d.c.d) e.c.d.d)) e.d)
def g186 (e:Q4):AV:=e.c.d.c.c
def s186 (e:Q4) (x:AV):Q4:=(Q4.mk e.a e.b (Q3.mk e.c.a e.c.b e.c.c (Q2.mk e.c.d.a e.c.d.b (Q1.mk e.c.d.c.a e.c.d.c.b x e.c.d.c.d) e.c.d.d)) e.d)
def g187 (e:Q4):AV:=e.c.d.c.d
def s187 (e:Q4) (x:AV):Q4:=(Q4.mk e.a e.b (Q3.mk e.c.a e.c.b e.c.c (Q2.mk e.c.d.a e.c.d.b (Q1.mk e.c.d.c.a e.c.d.c.b e.c.d.c.c x) e.c.d.d)) e.d)
def g188 (e:Q4):AV:=e.c.d.d.a
def s188 (e:Q4) (x:AV):Q4:=(Q4.mk e.a e.b (Q3.mk e.c.a e.c.b e.c.c (Q2.mk e.c.d.a e.c.d.b e.c.d.c (Q1.mk x e.c.d.d.b e.c.d.d.c e.c.d.d.d))) e.d)
def g189 (e:Q4):AV:=e.c.d.d.b
def s189 (e:Q4) (x:AV):Q4:=(Q4.mk e.a e.b (Q3.mk e.c.a e.c.b e.c.c (Q2.mk e.c.d.a e.c.d.b e.c.d.c (Q1.mk e.c.d.d.a x e.c.d.d.c e.c.d.d.d))) e.d)
def g190 (e:Q4):AV:=e.c.d.d.c
def s190 (e:Q4) (x:AV):Q4:=(Q4.mk e.a e.b (Q3.mk e.c.a e.c.b e.c.c (Q2.mk e.c.d.a e.c.d.b e.c.d.c (Q1.mk e.c.d.d.a e.c.d.d.b x e.c.d.d.d))) e.d)
def g191 (e:Q4):AV:=e.c.d.d.d
def s191 (e:Q4) (x:AV):Q4:=(Q4.mk e.a e.b (Q3.mk e.c.a e.c.b e.c.c (Q2.mk e.c.d.a e.c.d.b e.c.d.c (Q1.mk e.c.d.d.a e.c.d.d.b e.c.d.d.c x))) e.d)
def g192 (e:Q4):AV:=e.d.a.a.a
def s192 (e:Q4) (x:AV):Q4:=(Q4.mk e.a e.b e.c (Q3.mk (Q2.mk (Q1.mk x e.d.a.a.b e.d.a.a.c e.d.a.a.d) e.d.a.b e.d.a.c e.d.a.d) e.d.b e.d.c e.d.d))
def g193 (e:Q4):AV:=e.d.a.a.b
def s193 (e:Q4) (x:AV):Q4:=(Q4.mk e.a e.b e.c (Q3.mk (Q2.mk (Q1.mk e.d.a.a.a x e.d.a.a.c e.d.a.a.d) e.d.a.b e.d.a.c e.d.a.d) e.d.b e.d.c e.d.d))
def g194 (e:Q4):AV:=e.d.a.a.c
def s194 (e:Q4) (x:AV):Q4:=(Q4.mk e.a e.b e.c (Q3.mk (Q2.mk (Q1.mk e.d.a.a.a e.d.a.a.b x e.d.a.a.d) e.d.a.b e.d.a.c e.d.a.d) e.d.b e.d.c e.d.d))
def g195 (e:Q4):AV:=e.d.a.a.d
def s195 (e:Q4) (x:AV):Q4:=(Q4.mk e.a e.b e.c (Q3.mk (Q2.mk (Q1.mk e.d.a.a.a e.d.a.a.b e.d.a.a.c x) e.d.a.b e.d.a.c e.d.a.d) e.d.b e.d.c e.d.d))
def g196 (e:Q4):AV:=e.d.a.b.a
def s196 (e:Q4) (x:AV):Q4:=(Q4.mk e.a e.b e.c (Q3.mk (Q2.mk e.d.a.a (Q1.mk x e.d.a.b.b e.d.a.b.c e.d.a.b.d) e.d.a.c e.d.a.d) e.d.b e.d.c e.d.d))
def g197 (e:Q4):AV:=e.d.a.b.b
def s197 (e:Q4) (x:AV):Q4:=(Q4.mk e.a e.b e.c (Q3.mk (Q2.mk e.d.a.a (Q1.mk e.d.a.b.a x e.d.a.b.c e.d.a.b.d) e.d.a.c e.d.a.d) e.d.b e.d.c e.d.d))
def g198 (e:Q4):AV:=e.d.a.b.c
def s198 (e:Q4) (x:AV):Q4:=(Q4.mk e.a e.b e.c (Q3.mk (Q2.mk e.d.a.a (Q1.mk e.d.a.b.a e.d.a.b.b x e.d.a.b.d) e.d.a.c e.d.a.d) e.d.b e.d.c e.d.d))
def g199 (e:Q4):AV:=e.d.a.b.d
def s199 (e:Q4) (x:AV):Q4:=(Q4.mk e.a e.b e.c (Q3.mk (Q2.mk e.d.a.a (Q1.mk e.d.a.b.a e.d.a.b.b e.d.a.b.c x) e.d.a.c e.d.a.d) e.d.b e.d.c e.d.d))
def g200 (e:Q4):AV:=e.d.a.c.a
def s200 (e:Q4) (x:AV):Q4:=(Q4.mk e.a e.b e.c (Q3.mk (Q2.mk e.d.a.a e.d.a.b (Q1.mk x e.d.a.c.b e.d.a.c.c e.d.a.c.d) e.d.a.d) e.d.b e.d.c e.d.d))
def g201 (e:Q4):AV:=e.d.a.c.b
def s201 (e:Q4) (x:AV):Q4:=(Q4.mk e.a e.b e.c (Q3.mk (Q2.mk e.d.a.a e.d.a.b (Q1.mk e.d.a.c.a x e.d.a.c.c e.d.a.c.d) e.d.a.d) e.d.b e.d.c e.d.d))
def g202 (e:Q4):AV:=e.d.a.c.c
def s202 (e:Q4) (x:AV):Q4:=(Q4.mk e.a e.b e.c (Q3.mk (Q2.mk e.d.a.a e.d.a.b (Q1.mk e.d.a.c.a e.d.a.c.b x e.d.a.c.d) e.d.a.d) e.d.b e.d.c e.d.d))
def g203 (e:Q4):AV:=e.d.a.c.d
def s203 (e:Q4) (x:AV):Q4:=(Q4.mk e.a e.b e.c (Q3.mk (Q2.mk e.d.a.a e.d.a.b (Q1.mk e.d.a.c.a e.d.a.c.b e.d.a.c.c x) e.d.a.d) e.d.b e.d.c e.d.d))
def g204 (e:Q4):AV:=e.d.a.d.a
def s204 (e:Q4) (x:AV):Q4:=(Q4.mk e.a e.b e.c (Q3.mk (Q2.mk e.d.a.a e.d.a.b e.d.a.c (Q1.mk x e.d.a.d.b e.d.a.d.c e.d.a.d.d)) e.d.b e.d.c e.d.d))
def g205 (e:Q4):AV:=e.d.a.d.b
def s205 (e:Q4) (x:AV):Q4:=(Q4.mk e.a e.b e.c (Q3.mk (Q2.mk e.d.a.a e.d.a.b e.d.a.c (Q1.mk e.d.a.d.a x e.d.a.d.c e.d.a.d.d)) e.d.b e.d.c e.d.d))
def g206 (e:Q4):AV:=e.d.a.d.c
def s206 (e:Q4) (x:AV):Q4:=(Q4.mk e.a e.b e.c (Q3.mk (Q2.mk e.d.a.a e.d.a.b e.d.a.c (Q1.mk e.d.a.d.a e.d.a.d.b x e.d.a.d.d)) e.d.b e.d.c e.d.d))
def g207 (e:Q4):AV:=e.d.a.d.d
def s207 (e:Q4) (x:AV):Q4:=(Q4.mk e.a e.b e.c (Q3.mk (Q2.mk e.d.a.a e.d.a.b e.d.a.c (Q1.mk e.d.a.d.a e.d.a.d.b e.d.a.d.c x)) e.d.b e.d.c e.d.d))
def g208 (e:Q4):AV:=e.d.b.a.a
def s208 (e:Q4) (x:AV):Q4:=(Q4.mk e.a e.b e.c (Q3.mk e.d.a (Q2.mk (Q1.mk x e.d.b.a.b e.d.b.a.c e.d.b.a.d) e.d.b.b e.d.b.c e.d.b.d) e.d.c e.d.d))
def g209 (e:Q4):AV:=e.d.b.a.b
def s209 (e:Q4) (x:AV):Q4:=(Q4.mk e.a e.b e.c (Q3.mk e.d.a (Q2.mk (Q1.mk e.d.b.a.a x e.d.b.a.c e.d.b.a.d) e.d.b.b e.d.b.c e.d.b.d) e.d.c e.d.d))
def g210 (e:Q4):AV:=e.d.b.a.c
def s210 (e:Q4) (x:AV):Q4:=(Q4.mk e.a e.b e.c (Q3.mk e.d.a (Q2.mk (Q1.mk e.d.b.a.a e.d.b.a.b x e.d.b.a.d) e.d.b.b e.d.b.c e.d.b.d) e.d.c e.d.d))
def g211 (e:Q4):AV:=e.d.b.a.d
def s211 (e:Q4) (x:AV):Q4:=(Q4.mk e.a e.b e.c (Q3.mk e.d.a (Q2.mk (Q1.mk e.d.b.a.a e.d.b.a.b e.d.b.a.c x) e.d.b.b e.d.b.c e.d.b.d) e.d.c e.d.d))
def g212 (e:Q4):AV:=e.d.b.b.a
def s212 (e:Q4) (x:AV):Q4:=(Q4.mk e.a e.b e.c (Q3.mk e.d.a (Q2.mk e.d.b.a (Q1.mk x e.d.b.b.b e.d.b.b.c e.d.b.b.d) e.d.b.c e.d.b.d) e.d.c e.d.d))
def g213 (e:Q4):AV:=e.d.b.b.b
def s213 (e:Q4) (x:AV):Q4:=(Q4.mk e.a e.b e.c (Q3.mk e.d.a (Q2.mk e.d.b.a (Q1.mk e.d.b.b.a x e.d.b.b.c e.d.b.b.d) e.d.b.c e.d.b.d) e.d.c e.d.d))
def g214 (e:Q4):AV:=e.d.b.b.c
def s214 (e:Q4) (x:AV):Q4:=(Q4.mk e.a e.b e.c (Q3.mk e.d.a (Q2.mk e.d.b.a (Q1.mk e.d.b.b.a e.d.b.b.b x e.d.b.b.d) e.d.b.c e.d.b.d) e.d.c e.d.d))
def g215 (e:Q4):AV:=e.d.b.b.d
def s215 (e:Q4) (x:AV):Q4:=(Q4.mk e.a e.b e.c (Q3.mk e.d.a (Q2.mk e.d.b.a (Q1.mk e.d.b.b.a e.d.b.b.b e.d.b.b.c x) e.d.b.c e.d.b.d) e.d.c e.d.d))
def g216 (e:Q4):AV:=e.d.b.c.a
def s216 (e:Q4) (x:AV):Q4:=(Q4.mk e.a e.b e.c (Q3.mk e.d.a (Q2.mk e.d.b.a e.d.b.b (Q1.mk x e.d.b.c.b e.d.b.c.c e.d.b.c.d) e.d.b.d) e.d.c e.d.d))
def g217 (e:Q4):AV:=e.d.b.c.b
def s217 (e:Q4) (x:AV):Q4:=(Q4.mk e.a e.b e.c (Q3.mk e.d.a (Q2.mk e.d.b.a e.d.b.b (Q1.mk e.d.b.c.a x e.d.b.c.c e.d.b.c.d) e.d.b.d) e.d.c e.d.d))
def g218 (e:Q4):AV:=e.d.b.c.c
def s218 (e:Q4) (x:AV):Q4:=(Q4.mk e.a e.b e.c (Q3.mk e.d.a (Q2.mk e.d.b.a e.d.b.b (Q1.mk e.d.b.c.a e.d.b.c.b x e.d.b.c.d) e.d.b.d) e.d.c e.d.d))
def g219 (e:Q4):AV:=e.d.b.c.d
def s219 (e:Q4) (x:AV):Q4:=(Q4.mk e.a e.b e.c (Q3.mk e.d.a (Q2.mk e.d.b.a e.d.b.b (Q1.mk e.d.b.c.a e.d.b.c.b e.d.b.c.c x) e.d.b.d) e.d.c e.d.d))
def g220 (e:Q4):AV:=e.d.b.d.a
def s220 (e:Q4) (x:AV):Q4:=(Q4.mk e.a e.b e.c (Q3.mk e.d.a (Q2.mk e.d.b.a e.d.b.b e.d.b.c (Q1.mk x e.d.b.d.b e.d.b.d.c e.d.b.d.d)) e.d.c e.d.d))
def g221 (e:Q4):AV:=e.d.b.d.b
def s221 (e:Q4) (x:AV):Q4:=(Q4.mk e.a e.b e.c (Q3.mk e.d.a (Q2.mk e.d.b.a e.d.b.b e.d.b.c (Q1.mk e.d.b.d.a x e.d.b.d.c e.d.b.d.d)) e.d.c e.d.d))
def g222 (e:Q4):AV:=e.d.b.d.c
def s222 (e:Q4) (x:AV):Q4:=(Q4.mk e.a e.b e.c (Q3.mk e.d.a (Q2.mk e.d.b.a e.d.b.b e.d.b.c (Q1.mk e.d.b.d.a e.d.b.d.b x e.d.b.d.d)) e.d.c e.d.d))
def g223 (e:Q4):AV:=e.d.b.d.d
def s223 (e:Q4) (x:AV):Q4:=(Q4.mk e.a e.b e.c (Q3.mk e.d.a (Q2.mk e.d.b.a e.d.b.b e.d.b.c (Q1.mk e.d.b.d.a e.d.b.d.b e.d.b.d.c x)) e.d.c e.d.d))
def g224 (e:Q4):AV:=e.d.c.a.a
def s224 (e:Q4) (x:AV):Q4:=(Q4.mk e.a e.b e.c (Q3.mk e.d.a e.d.b (Q2.mk (Q1.mk x e.d.c.a.b e.d.c.a.c e.d.c.a.d) e.d.c.b e.d.c.c e.d.c.d) e.d.d))
def g225 (e:Q4):AV:=e.d.c.a.b
def s225 (e:Q4) (x:AV):Q4:=(Q4.mk e.a e.b e.c (Q3.mk e.d.a e.d.b (Q2.mk (Q1.mk e.d.c.a.a x e.d.c.a.c e.d.c.a.d) e.d.c.b e.d.c.c e.d.c.d) e.d.d))
def g226 (e:Q4):AV:=e.d.c.a.c
def s226 (e:Q4) (x:AV):Q4:=(Q4.mk e.a e.b e.c (Q3.mk e.d.a e.d.b (Q2.mk (Q1.mk e.d.c.a.a e.d.c.a.b x e.d.c.a.d) e.d.c.b e.d.c.c e.d.c.d) e.d.d))
def g227 (e:Q4):AV:=e.d.c.a.d
def s227 (e:Q4) (x:AV):Q4:=(Q4.mk e.a e.b e.c (Q3.mk e.d.a e.d.b (Q2.mk (Q1.mk e.d.c.a.a e.d.c.a.b e.d.c.a.c x) e.d.c.b e.d.c.c e.d.c.d) e.d.d))
def g228 (e:Q4):AV:=e.d.c.b.a
def s228 (e:Q4) (x:AV):Q4:=(Q4.mk e.a e.b e.c (Q3.mk e.d.a e.d.b (Q2.mk e.d.c.a (Q1.mk x e.d.c.b.b e.d.c.b.c e.d.c.b.d) e.d.c.c e.d.c.d) e.d.d))
def g229 (e:Q4):AV:=e.d.c.b.b
def s229 (e:Q4) (x:AV):Q4:=(Q4.mk e.a e.b e.c (Q3.mk e.d.a e.d.b (Q2.mk e.d.c.a (Q1.mk e.d.c.b.a x e.d.c.b.c e.d.c.b.d) e.d.c.c e.d.c.d) e.d.d))
def g230 (e:Q4):AV:=e.d.c.b.c
def s230 (e:Q4) (x:AV):Q4:=(Q4.mk e.a e.b e.c (Q3.mk e.d.a e.d.b (Q2.mk e.d.c.a (Q1.mk e.d.c.b.a e.d.c.b.b x e.d.c.b.d) e.d.c.c e.d.c.d) e.d.d))
def g231 (e:Q4):AV:=e.d.c.b.d
def s231 (e:Q4) (x:AV):Q4:=(Q4.mk e.a e.b e.c (Q3.mk e.d.a e.d.b (Q2.mk e.d.c.a (Q1.mk e.d.c.b.a e.d.c.b.b e.d.c.b.c x) e.d.c.c e.d.c.d) e.d.d))
def g232 (e:Q4):AV:=e.d.c.c.a
def s232 (e:Q4) (x:AV):Q4:=(Q4.mk e.a e.b e.c (Q3.mk e.d.a e.d.b (Q2.mk e.d.c.a e.d.c.b (Q1.mk x e.d.c.c.b e.d.c.c.c e.d.c.c.d) e.d.c.d) e.d.d))
def g233 (e:Q4):AV:=e.d.c.c.b
def s233 (e:Q4) (x:AV):Q4:=(Q4.mk e.a e.b e.c (Q3.mk e.d.a e.d.b (Q2.mk e.d.c.a e.d.c.b (Q1.mk e.d.c.c.a x e.d.c.c.c e.d.c.c.d) e.d.c.d) e.d.d))
def g234 (e:Q4):AV:=e.d.c.c.c
def s234 (e:Q4) (x:AV):Q4:=(Q4.mk e.a e.b e.c (Q3.mk e.d.a e.d.b (Q2.mk e.d.c.a e.d.c.b (Q1.mk e.d.c.c.a e.d.c.c.b x e.d.c.c.d) e.d.c.d) e.d.d))
def g235 (e:Q4):AV:=e.d.c.c.d
def s235 (e:Q4) (x:AV):Q4:=(Q4.mk e.a e.b e.c (Q3.mk e.d.a e.d.b (Q2.mk e.d.c.a e.d.c.b (Q1.mk e.d.c.c.a e.d.c.c.b e.d.c.c.c x) e.d.c.d) e.d.d))
def g236 (e:Q4):AV:=e.d.c.d.a
def s236 (e:Q4) (x:AV):Q4:=(Q4.mk e.a e.b e.c (Q3.mk e.d.a e.d.b (Q2.mk e.d.c.a e.d.c.b e.d.c.c (Q1.mk x e.d.c.d.b e.d.c.d.c e.d.c.d.d)) e.d.d))
def g237 (e:Q4):AV:=e.d.c.d.b
def s237 (e:Q4) (x:AV):Q4:=(Q4.mk e.a e.b e.c (Q3.mk e.d.a e.d.b (Q2.mk e.d.c.a e.d.c.b e.d.c.c (Q1.mk e.d.c.d.a x e.d.c.d.c e.d.c.d.d)) e.d.d))
def g238 (e:Q4):AV:=e.d.c.d.c
def s238 (e:Q4) (x:AV):Q4:=(Q4.mk e.a e.b e.c (Q3.mk e.d.a e.d.b (Q2.mk e.d.c.a e.d.c.b e.d.c.c (Q1.mk e.d.c.d.a e.d.c.d.b x e.d.c.d.d)) e.d.d))
def g239 (e:Q4):AV:=e.d.c.d.d
def s239 (e:Q4) (x:AV):Q4:=(Q4.mk e.a e.b e.c (Q3.mk e.d.a e.d.b (Q2.mk e.d.c.a e.d.c.b e.d.c.c (Q1.mk e.d.c.d.a e.d.c.d.b e.d.c.d.c x)) e.d.d))
def g240 (e:Q4):AV:=e.d.d.a.a
def s240 (e:Q4) (x:AV):Q4:=(Q4.mk e.a e.b e.c (Q3.mk e.d.a e.d.b e.d.c (Q2.mk (Q1.mk x e.d.d.a.b e.d.d.a.c e.d.d.a.d) e.d.d.b e.d.d.c e.d.d.d)))
def g241 (e:Q4):AV:=e.d.d.a.b
def s241 (e:Q4) (x:AV):Q4:=(Q4.mk e.a e.b e.c (Q3.mk e.d.a e.d.b e.d.c (Q2.mk (Q1.mk e.d.d.a.a x e.d.d.a.c e.d.d.a.d) e.d.d.b e.d.d.c e.d.d.d)))
def g242 (e:Q4):AV:=e.d.d.a.c
def s242 (e:Q4) (x:AV):Q4:=(Q4.mk e.a e.b e.c (Q3.mk e.d.a e.d.b e.d.c (Q2.mk (Q1.mk e.d.d.a.a e.d.d.a.b x e.d.d.a.d) e.d.d.b e.d.d.c e.d.d.d)))
def g243 (e:Q4):AV:=e.d.d.a.d
def s243 (e:Q4) (x:AV):Q4:=(Q4.mk e.a e.b e.c (Q3.mk e.d.a e.d.b e.d.c (Q2.mk (Q1.mk e.d.d.a.a e.d.d.a.b e.d.d.a.c x) e.d.d.b e.d.d.c e.d.d.d)))
def g244 (e:Q4):AV:=e.d.d.b.a
def s244 (e:Q4) (x:AV):Q4:=(Q4.mk e.a e.b e.c (Q3.mk e.d.a e.d.b e.d.c (Q2.mk e.d.d.a (Q1.mk x e.d.d.b.b e.d.d.b.c e.d.d.b.d) e.d.d.c e.d.d.d)))
def g245 (e:Q4):AV:=e.d.d.b.b
def s245 (e:Q4) (x:AV):Q4:=(Q4.mk e.a e.b e.c (Q3.mk e.d.a e.d.b e.d.c (Q2.mk e.d.d.a (Q1.mk e.d.d.b.a x e.d.d.b.c e.d.d.b.d) e.d.d.c e.d.d.d)))
def g246 (e:Q4):AV:=e.d.d.b.c
def s246 (e:Q4) (x:AV):Q4:=(Q4.mk e.a e.b e.c (Q3.mk e.d.a e.d.b e.d.c (Q2.mk e.d.d.a (Q1.mk e.d.d.b.a e.d.d.b.b x e.d.d.b.d) e.d.d.c e.d.d.d)))
def g247 (e:Q4):AV:=e.d.d.b.d
def s247 (e:Q4) (x:AV):Q4:=(Q4.mk e.a e.b e.c (Q3.mk e.d.a e.d.b e.d.c (Q2.mk e.d.d.a (Q1.mk e.d.d.b.a e.d.d.b.b e.d.d.b.c x) e.d.d.c e.d.d.d)))
def g248 (e:Q4):AV:=e.d.d.c.a
def s248 (e:Q4) (x:AV):Q4:=(Q4.mk e.a e.b e.c (Q3.mk e.d.a e.d.b e.d.c (Q2.mk e.d.d.a e.d.d.b (Q1.mk x e.d.d.c.b e.d.d.c.c e.d.d.c.d) e.d.d.d)))
def g249 (e:Q4):AV:=e.d.d.c.b
def s249 (e:Q4) (x:AV):Q4:=(Q4.mk e.a e.b e.c (Q3.mk e.d.a e.d.b e.d.c (Q2.mk e.d.d.a e.d.d.b (Q1.mk e.d.d.c.a x e.d.d.c.c e.d.d.c.d) e.d.d.d)))
def g250 (e:Q4):AV:=e.d.d.c.c
def s250 (e:Q4) (x:AV):Q4:=(Q4.mk e.a e.b e.c (Q3.mk e.d.a e.d.b e.d.c (Q2.mk e.d.d.a e.d.d.b (Q1.mk e.d.d.c.a e.d.d.c.b x e.d.d.c.d) e.d.d.d)))
def g251 (e:Q4):AV:=e.d.d.c.d
def s251 (e:Q4) (x:AV):Q4:=(Q4.mk e.a e.b e.c (Q3.mk e.d.a e.d.b e.d.c (Q2.mk e.d.d.a e.d.d.b (Q1.mk e.d.d.c.a e.d.d.c.b e.d.d.c.c x) e.d.d.d)))
def g252 (e:Q4):AV:=e.d.d.d.a
def s252 (e:Q4) (x:AV):Q4:=(Q4.mk e.a e.b e.c (Q3.mk e.d.a e.d.b e.d.c (Q2.mk e.d.d.a e.d.d.b e.d.d.c (Q1.mk x e.d.d.d.b e.d.d.d.c e.d.d.d.d))))
def g253 (e:Q4):AV:=e.d.d.d.b
def s253 (e:Q4) (x:AV):Q4:=(Q4.mk e.a e.b e.c (Q3.mk e.d.a e.d.b e.d.c (Q2.mk e.d.d.a e.d.d.b e.d.d.c (Q1.mk e.d.d.d.a x e.d.d.d.c e.d.d.d.d))))
def g254 (e:Q4):AV:=e.d.d.d.c
def s254 (e:Q4) (x:AV):Q4:=(Q4.mk e.a e.b e.c (Q3.mk e.d.a e.d.b e.d.c (Q2.mk e.d.d.a e.d.d.b e.d.d.c (Q1.mk e.d.d.d.a e.d.d.d.b x e.d.d.d.d))))
def g255 (e:Q4):AV:=e.d.d.d.d
def s255 (e:Q4) (x:AV):Q4:=(Q4.mk e.a e.b e.c (Q3.mk e.d.a e.d.b e.d.c (Q2.mk e.d.d.a e.d.d.b e.d.d.c (Q1.mk e.d.d.d.a e.d.d.d.b e.d.d.d.c x))))
def w1a (e:Q1) (x:AV) (k:Q1→X0):X0:=Q1.rec (motive:=fun _=>X0) (fun a b c d=>k (.mk x b c d)) e
def w1b (e:Q1) (x:AV) (k:Q1→X0):X0:=Q1.rec (motive:=fun _=>X0) (fun a b c d=>k (.mk a x c d)) e
def w1c (e:Q1) (x:AV) (k:Q1→X0):X0:=Q1.rec (motive:=fun _=>X0) (fun a b c d=>k (.mk a b x d)) e
def w1d (e:Q1) (x:AV) (k:Q1→X0):X0:=Q1.rec (motive:=fun _=>X0) (fun a b c d=>k (.mk a b c x)) e
def w2a (g:Q1→AV→(Q1→X0)→X0) (e:Q2) (x:AV) (k:Q2→X0):X0:=Q2.rec (motive:=fun _=>X0) (fun a b c d=>g a x (fun z=>k (.mk z b c d))) e
def w2b (g:Q1→AV→(Q1→X0)→X0) (e:Q2) (x:AV) (k:Q2→X0):X0:=Q2.rec (motive:=fun _=>X0) (fun a b c d=>g b x (fun z=>k (.mk a z c d))) e
def w2c (g:Q1→AV→(Q1→X0)→X0) (e:Q2) (x:AV) (k:Q2→X0):X0:=Q2.rec (motive:=fun _=>X0) (fun a b c d=>g c x (fun z=>k (.mk a b z d))) e
def w2d (g:Q1→AV→(Q1→X0)→X0) (e:Q2) (x:AV) (k:Q2→X0):X0:=Q2.rec (motive:=fun _=>X0) (fun a b c d=>g d x (fun z=>k (.mk a b c z))) e
def w3a (g:Q2→AV→(Q2→X0)→X0) (e:Q3) (x:AV) (k:Q3→X0):X0:=Q3.rec (motive:=fun _=>X0) (fun a b c d=>g a x (fun z=>k (.mk z b c d))) e
def w3b (g:Q2→AV→(Q2→X0)→X0) (e:Q3) (x:AV) (k:Q3→X0):X0:=Q3.rec (motive:=fun _=>X0) (fun a b c d=>g b x (fun z=>k (.mk a z c d))) e
def w3c (g:Q2→AV→(Q2→X0)→X0) (e:Q3) (x:AV) (k:Q3→X0):X0:=Q3.rec (motive:=fun _=>X0) (fun a b c d=>g c x (fun z=>k (.mk a b z d))) e
def w3d (g:Q2→AV→(Q2→X0)→X0) (e:Q3) (x:AV) (k:Q3→X0):X0:=Q3.rec (motive:=fun _=>X0) (fun a b c d=>g d x (fun z=>k (.mk a b c z))) e
def w4a (g:Q3→AV→(Q3→X0)→X0) (e:Q4) (x:AV) (k:Q4→X0):X0:=Q4.rec (motive:=fun _=>X0) (fun a b c d=>g a x (fun z=>k (.mk z b c d))) e
def w4b (g:Q3→AV→(Q3→X0)→X0) (e:Q4) (x:AV) (k:Q4→X0):X0:=Q4.rec (motive:=fun _=>X0) (fun a b c d=>g b x (fun z=>k (.mk a z c d))) e
def w4c (g:Q3→AV→(Q3→X0)→X0) (e:Q4) (x:AV) (k:Q4→X0):X0:=Q4.rec (motive:=fun _=>X0) (fun a b c d=>g c x (fun z=>k (.mk a b z d))) e
def w4d (g:Q3→AV→(Q3→X0)→X0) (e:Q4) (x:AV) (k:Q4→X0):X0:=Q4.rec (motive:=fun _=>X0) (fun a b c d=>g d x (fun z=>k (.mk a b c z))) e
def c0:Q4→AV→(Q4→X0)→X0:=w4a (w3a (w2a w1a))
def c1:Q4→AV→(Q4→X0)→X0:=w4a (w3a (w2a w1b))
def c2:Q4→AV→(Q4→X0)→X0:=w4a (w3a (w2a w1c))
def c3:Q4→AV→(Q4→X0)→X0:=w4a (w3a (w2a w1d))
def c4:Q4→AV→(Q4→X0)→X0:=w4a (w3a (w2b w1a))
def c5:Q4→AV→(Q4→X0)→X0:=w4a (w3a (w2b w1b))
def c6:Q4→AV→(Q4→X0)→X0:=w4a (w3a (w2b w1c))
def c7:Q4→AV→(Q4→X0)→X0:=w4a (w3a (w2b w1d))
def c8:Q4→AV→(Q4→X0)→X0:=w4a (w3a (w2c w1a))
def c9:Q4→AV→(Q4→X0)→X0:=w4a (w3a (w2c w1b))
def c10:Q4→AV→(Q4→X0)→X0:=w4a (w3a (w2c w1c))
def c11:Q4→AV→(Q4→X0)→X0:=w4a (w3a (w2c w1d))
def c12:Q4→AV→(Q4→X0)→X0:=w4a (w3a (w2d w1a))
def c13:Q4→AV→(Q4→X0)→X0:=w4a (w3a (w2d w1b))
def c14:Q4→AV→(Q4→X0)→X0:=w4a (w3a (w2d w1c))
def c15:Q4→AV→(Q4→X0)→X0:=w4a (w3a (w2d w1d))
def c16:Q4→AV→(Q4→X0)→X0:=w4a (w3b (w2a w1a))
def c17:Q4→AV→(Q4→X0)→X0:=w4a (w3b (w2a w1b))
def c18:Q4→AV→(Q4→X0)→X0:=w4a (w3b (w2a w1c))
def c19:Q4→AV→(Q4→X0)→X0:=w4a (w3b (w2a w1d))
def c20:Q4→AV→(Q4→X0)→X0:=w4a (w3b (w2b w1a))
def c21:Q4→AV→(Q4→X0)→X0:=w4a (w3b (w2b w1b))
def c22:Q4→AV→(Q4→X0)→X0:=w4a (w3b (w2b w1c))
def c23:Q4→AV→(Q4→X0)→X0:=w4a (w3b (w2b w1d))
def c24:Q4→AV→(Q4→X0)→X0:=w4a (w3b (w2c w1a))
def c25:Q4→AV→(Q4→X0)→X0:=w4a (w3b (w2c w1b))
def c26:Q4→AV→(Q4→X0)→X0:=w4a (w3b (w2c w1c))
def c27:Q4→AV→(Q4→X0)→X0:=w4a (w3b (w2c w1d))
def c28:Q4→AV→(Q4→X0)→X0:=w4a (w3b (w2d w1a))
def c29:Q4→AV→(Q4→X0)→X0:=w4a (w3b (w2d w1b))
def c30:Q4→AV→(Q4→X0)→X0:=w4a (w3b (w2d w1c))
def c31:Q4→AV→(Q4→X0)→X0:=w4a (w3b (w2d w1d))
def c32:Q4→AV→(Q4→X0)→X0:=w4a (w3c (w2a w1a))
def c33:Q4→AV→(Q4→X0)→X0:=w4a (w3c (w2a w1b))
def c34:Q4→AV→(Q4→X0)→X0:=w4a (w3c (w2a w1c))
def c35:Q4→AV→(Q4→X0)→X0:=w4a (w3c (w2a w1d))
def c36:Q4→AV→(Q4→X0)→X0:=w4a (w3c (w2b w1a))
def c37:Q4→AV→(Q4→X0)→X0:=w4a (w3c (w2b w1b))
def c38:Q4→AV→(Q4→X0)→X0:=w4a (w3c (w2b w1c))
def c39:Q4→AV→(Q4→X0)→X0:=w4a (w3c (w2b w1d))
def c40:Q4→AV→(Q4→X0)→X0:=w4a (w3c (w2c w1a))
def c41:Q4→AV→(Q4→X0)→X0:=w4a (w3c (w2c w1b))
def c42:Q4→AV→(Q4→X0)→X0:=w4a (w3c (w2c w1c))
def c43:Q4→AV→(Q4→X0)→X0:=w4a (w3c (w2c w1d))
def c44:Q4→AV→(Q4→X0)→X0:=w4a (w3c (w2d w1a))
def c45:Q4→AV→(Q4→X0)→X0:=w4a (w3c (w2d w1b))
def c46:Q4→AV→(Q4→X0)→X0:=w4a (w3c (w2d w1c))
def c47:Q4→AV→(Q4→X0)→X0:=w4a (w3c (w2d w1d))
def c48:Q4→AV→(Q4→X0)→X0:=w4a (w3d (w2a w1a))
def c49:Q4→AV→(Q4→X0)→X0:=w4a (w3d (w2a w1b))
def c50:Q4→AV→(Q4→X0)→X0:=w4a (w3d (w2a w1c))
def c51:Q4→AV→(Q4→X0)→X0:=w4a (w3d (w2a w1d))
def c52:Q4→AV→(Q4→X0)→X0:=w4a (w3d (w2b w1a))
def c53:Q4→AV→(Q4→X0)→X0:=w4a (w3d (w2b w1b))
def c54:Q4→AV→(Q4→X0)→X0:=w4a (w3d (w2b w1c))
def c55:Q4→AV→(Q4→X0)→X0:=w4a (w3d (w2b w1d))
def c56:Q4→AV→(Q4→X0)→X0:=w4a (w3d (w2c w1a))
def c57:Q4→AV→(Q4→X0)→X0:=w4a (w3d (w2c w1b))
def c58:Q4→AV→(Q4→X0)→X0:=w4a (w3d (w2c w1c))
def c59:Q4→AV→(Q4→X0)→X0:=w4a (w3d (w2c w1d))
def c60:Q4→AV→(Q4→X0)→X0:=w4a (w3d (w2d w1a))
def c61:Q4→AV→(Q4→X0)→X0:=w4a (w3d (w2d w1b))
def c62:Q4→AV→(Q4→X0)→X0:=w4a (w3d (w2d w1c))
def c63:Q4→AV→(Q4→X0)→X0:=w4a (w3d (w2d w1d))
def c64:Q4→AV→(Q4→X0)→X0:=w4b (w3a (w2a w1a))
def c65:Q4→AV→(Q4→X0)→X0:=w4b (w3a (w2a w1b))
def c66:Q4→AV→(Q4→X0)→X0:=w4b (w3a (w2a w1c))
def c67:Q4→AV→(Q4→X0)→X0:=w4b (w3a (w2a w1d))
def c68:Q4→AV→(Q4→X0)→X0:=w4b (w3a (w2b w1a))
def c69:Q4→AV→(Q4→X0)→X0:=w4b (w3a (w2b w1b))
def c70:Q4→AV→(Q4→X0)→X0:=w4b (w3a (w2b w1c))
def c71:Q4→AV→(Q4→X0)→X0:=w4b (w3a (w2b w1d))
def c72:Q4→AV→(Q4→X0)→X0:=w4b (w3a (w2c w1a))
def c73:Q4→AV→(Q4→X0)→X0:=w4b (w3a (w2c w1b))
def c74:Q4→AV→(Q4→X0)→X0:=w4b (w3a (w2c w1c))
def c75:Q4→AV→(Q4→X0)→X0:=w4b (w3a (w2c w1d))
def c76:Q4→AV→(Q4→X0)→X0:=w4b (w3a (w2d w1a))
def c77:Q4→AV→(Q4→X0)→X0:=w4b (w3a (w2d w1b))
def c78:Q4→AV→(Q4→X0)→X0:=w4b (w3a (w2d w1c))
def c79:Q4→AV→(Q4→X0)→X0:=w4b (w3a (w2d w1d))
def c80:Q4→AV→(Q4→X0)→X0:=w4b (w3b (w2a w1a))
def c81:Q4→AV→(Q4→X0)→X0:=w4b (w3b (w2a w1b))
def c82:Q4→AV→(Q4→X0)→X0:=w4b (w3b (w2a w1c))
def c83:Q4→AV→(Q4→X0)→X0:=w4b (w3b (w2a w1d))
def c84:Q4→AV→(Q4→X0)→X0:=w4b (w3b (w2b w1a))
def c85:Q4→AV→(Q4→X0)→X0:=w4b (w3b (w2b w1b))
def c86:Q4→AV→(Q4→X0)→X0:=w4b (w3b (w2b w1c))
def c87:Q4→AV→(Q4→X0)→X0:=w4b (w3b (w2b w1d))
def c88:Q4→AV→(Q4→X0)→X0:=w4b (w3b (w2c w1a))
def c89:Q4→AV→(Q4→X0)→X0:=w4b (w3b (w2c w1b))
def c90:Q4→AV→(Q4→X0)→X0:=w4b (w3b (w2c w1c))
def c91:Q4→AV→(Q4→X0)→X0:=w4b (w3b (w2c w1d))
def c92:Q4→AV→(Q4→X0)→X0:=w4b (w3b (w2d w1a))
def c93:Q4→AV→(Q4→X0)→X0:=w4b (w3b (w2d w1b))
def c94:Q4→AV→(Q4→X0)→X0:=w4b (w3b (w2d w1c))
def c95:Q4→AV→(Q4→X0)→X0:=w4b (w3b (w2d w1d))
def c96:Q4→AV→(Q4→X0)→X0:=w4b (w3c (w2a w1a))
def c97:Q4→AV→(Q4→X0)→X0:=w4b (w3c (w2a w1b))
def c98:Q4→AV→(Q4→X0)→X0:=w4b (w3c (w2a w1c))
def c99:Q4→AV→(Q4→X0)→X0:=w4b (w3c (w2a w1d))
def c100:Q4→AV→(Q4→X0)→X0:=w4b (w3c (w2b w1a))
def c101:Q4→AV→(Q4→X0)→X0:=w4b (w3c (w2b w1b))
def c102:Q4→AV→(Q4→X0)→X0:=w4b (w3c (w2b w1c))
def c103:Q4→AV→(Q4→X0)→X0:=w4b (w3c (w2b w1d))
def c104:Q4→AV→(Q4→X0)→X0:=w4b (w3c (w2c w1a))
def c105:Q4→AV→(Q4→X0)→X0:=w4b (w3c (w2c w1b))
def c106:Q4→AV→(Q4→X0)→X0:=w4b (w3c (w2c w1c))
def c107:Q4→AV→(Q4→X0)→X0:=w4b (w3c (w2c w1d))
def c108:Q4→AV→(Q4→X0)→X0:=w4b (w3c (w2d w1a))
def c109:Q4→AV→(Q4→X0)→X0:=w4b (w3c (w2d w1b))
def c110:Q4→AV→(Q4→X0)→X0:=w4b (w3c (w2d w1c))
def c111:Q4→AV→(Q4→X0)→X0:=w4b (w3c (w2d w1d))
def Xf7:Q4→AV→(Q4→X0)→X0:=w4b (w3d (w2a w1a))
def c113:Q4→AV→(Q4→X0)→X0:=w4b (w3d (w2a w1b))
def c114:Q4→AV→(Q4→X0)→X0:=w4b (w3d (w2a w1c))
def c115:Q4→AV→(Q4→X0)→X0:=w4b (w3d (w2a w1d))
def c116:Q4→AV→(Q4→X0)→X0:=w4b (w3d (w2b w1a))
def c117:Q4→AV→(Q4→X0)→X0:=w4b (w3d (w2b w1b))
def c118:Q4→AV→(Q4→X0)→X0:=w4b (w3d (w2b w1c))
def c119:Q4→AV→(Q4→X0)→X0:=w4b (w3d (w2b w1d))
def c120:Q4→AV→(Q4→X0)→X0:=w4b (w3d (w2c w1a))
def c121:Q4→AV→(Q4→X0)→X0:=w4b (w3d (w2c w1b))
def c122:Q4→AV→(Q4→X0)→X0:=w4b (w3d (w2c w1c))
def c123:Q4→AV→(Q4→X0)→X0:=w4b (w3d (w2c w1d))
def c124:Q4→AV→(Q4→X0)→X0:=w4b (w3d (w2d w1a))
def c125:Q4→AV→(Q4→X0)→X0:=w4b (w3d (w2d w1b))
def c126:Q4→AV→(Q4→X0)→X0:=w4b (w3d (w2d w1c))
def c127:Q4→AV→(Q4→X0)→X0:=w4b (w3d (w2d w1d))
def c128:Q4→AV→(Q4→X0)→X0:=w4c (w3a (w2a w1a))
def c129:Q4→AV→(Q4→X0)→X0:=w4c (w3a (w2a w1b))
def c130:Q4→AV→(Q4→X0)→X0:=w4c (w3a (w2a w1c))
def c131:Q4→AV→(Q4→X0)→X0:=w4c (w3a (w2a w1d))
def c132:Q4→AV→(Q4→X0)→X0:=w4c (w3a (w2b w1a))
def c133:Q4→AV→(Q4→X0)→X0:=w4c (w3a (w2b w1b))
def c134:Q4→AV→(Q4→X0)→X0:=w4c (w3a (w2b w1c))
def c135:Q4→AV→(Q4→X0)→X0:=w4c (w3a (w2b w1d))
def c136:Q4→AV→(Q4→X0)→X0:=w4c (w3a (w2c w1a))
def c137:Q4→AV→(Q4→X0)→X0:=w4c (w3a (w2c w1b))
def c138:Q4→AV→(Q4→X0)→X0:=w4c (w3a (w2c w1c))
def c139:Q4→AV→(Q4→X0)→X0:=w4c (w3a (w2c w1d))
def c140:Q4→AV→(Q4→X0)→X0:=w4c (w3a (w2d w1a))
def c141:Q4→AV→(Q4→X0)→X0:=w4c (w3a (w2d w1b))
def c142:Q4→AV→(Q4→X0)→X0:=w4c (w3a (w2d w1c))
def c143:Q4→AV→(Q4→X0)→X0:=w4c (w3a (w2d w1d))
def c144:Q4→AV→(Q4→X0)→X0:=w4c (w3b (w2a w1a))
def c145:Q4→AV→(Q4→X0)→X0:=w4c (w3b (w2a w1b))
def c146:Q4→AV→(Q4→X0)→X0:=w4c (w3b (w2a w1c))
def c147:Q4→AV→(Q4→X0)→X0:=w4c (w3b (w2a w1d))
def c148:Q4→AV→(Q4→X0)→X0:=w4c (w3b (w2b w1a))
def c149:Q4→AV→(Q4→X0)→X0:=w4c (w3b (w2b w1b))
def c150:Q4→AV→(Q4→X0)→X0:=w4c (w3b (w2b w1c))
def c151:Q4→AV→(Q4→X0)→X0:=w4c (w3b (w2b w1d))
def c152:Q4→AV→(Q4→X0)→X0:=w4c (w3b (w2c w1a))
def c153:Q4→AV→(Q4→X0)→X0:=w4c (w3b (w2c w1b))
def c154:Q4→AV→(Q4→X0)→X0:=w4c (w3b (w2c w1c))
def c155:Q4→AV→(Q4→X0)→X0:=w4c (w3b (w2c w1d))
def c156:Q4→AV→(Q4→X0)→X0:=w4c (w3b (w2d w1a))
def c157:Q4→AV→(Q4→X0)→X0:=w4c (w3b (w2d w1b))
def c158:Q4→AV→(Q4→X0)→X0:=w4c (w3b (w2d w1c))
def c159:Q4→AV→(Q4→X0)→X0:=w4c (w3b (w2d w1d))
def c160:Q4→AV→(Q4→X0)→X0:=w4c (w3c (w2a w1a))
def c161:Q4→AV→(Q4→X0)→X0:=w4c (w3c (w2a w1b))
def c162:Q4→AV→(Q4→X0)→X0:=w4c (w3c (w2a w1c))
def c163:Q4→AV→(Q4→X0)→X0:=w4c (w3c (w2a w1d))
def c164:Q4→AV→(Q4→X0)→X0:=w4c (w3c (w2b w1a))
def c165:Q4→AV→(Q4→X0)→X0:=w4c (w3c (w2b w1b))
def c166:Q4→AV→(Q4→X0)→X0:=w4c (w3c (w2b w1c))
def c167:Q4→AV→(Q4→X0)→X0:=w4c (w3c (w2b w1d))
def c168:Q4→AV→(Q4→X0)→X0:=w4c (w3c (w2c w1a))
def c169:Q4→AV→(Q4→X0)→X0:=w4c (w3c (w2c w1b))
def c170:Q4→AV→(Q4→X0)→X0:=w4c (w3c (w2c w1c))
def c171:Q4→AV→(Q4→X0)→X0:=w4c (w3c (w2c w1d))
def c172:Q4→AV→(Q4→X0)→X0:=w4c (w3c (w2d w1a))
def c173:Q4→AV→(Q4→X0)→X0:=w4c (w3c (w2d w1b))
def c174:Q4→AV→(Q4→X0)→X0:=w4c (w3c (w2d w1c))
def c175:Q4→AV→(Q4→X0)→X0:=w4c (w3c (w2d w1d))
def c176:Q4→AV→(Q4→X0)→X0:=w4c (w3d (w2a w1a))
def c177:Q4→AV→(Q4→X0)→X0:=w4c (w3d (w2a w1b))
def c178:Q4→AV→(Q4→X0)→X0:=w4c (w3d (w2a w1c))
def c179:Q4→AV→(Q4→X0)→X0:=w4c (w3d (w2a w1d))
def c180:Q4→AV→(Q4→X0)→X0:=w4c (w3d (w2b w1a))
def c181:Q4→AV→(Q4→X0)→X0:=w4c (w3d (w2b w1b))
def c182:Q4→AV→(Q4→X0)→X0:=w4c (w3d (w2b w1c))
def c183:Q4→AV→(Q4→X0)→X0:=w4c (w3d (w2b w1d))
def c184:Q4→AV→(Q4→X0)→X0:=w4c (w3d (w2c w1a))
def c185:Q4→AV→(Q4→X0)→X0:=w4c (w3d (w2c w1b))
def c186:Q4→AV→(Q4→X0)→X0:=w4c (w3d (w2c w1c))
def c187:Q4→AV→(Q4→X0)→X0:=w4c (w3d (w2c w1d))
def c188:Q4→AV→(Q4→X0)→X0:=w4c (w3d (w2d w1a))
def c189:Q4→AV→(Q4→X0)→X0:=w4c (w3d (w2d w1b))
def c190:Q4→AV→(Q4→X0)→X0:=w4c (w3d (w2d w1c))
def c191:Q4→AV→(Q4→X0)→X0:=w4c (w3d (w2d w1d))
def c192:Q4→AV→(Q4→X0)→X0:=w4d (w3a (w2a w1a))
def c193:Q4→AV→(Q4→X0)→X0:=w4d (w3a (w2a w1b))
def c194:Q4→AV→(Q4→X0)→X0:=w4d (w3a (w2a w1c))
def c195:Q4→AV→(Q4→X0)→X0:=w4d (w3a (w2a w1d))
def c196:Q4→AV→(Q4→X0)→X0:=w4d (w3a (w2b w1a))
def c197:Q4→AV→(Q4→X0)→X0:=w4d (w3a (w2b w1b))
def c198:Q4→AV→(Q4→X0)→X0:=w4d (w3a (w2b w1c))
def c199:Q4→AV→(Q4→X0)→X0:=w4d (w3a (w2b w1d))
def c200:Q4→AV→(Q4→X0)→X0:=w4d (w3a (w2c w1a))
def c201:Q4→AV→(Q4→X0)→X0:=w4d (w3a (w2c w1b))
def c202:Q4→AV→(Q4→X0)→X0:=w4d (w3a (w2c w1c))
def c203:Q4→AV→(Q4→X0)→X0:=w4d (w3a (w2c w1d))
def c204:Q4→AV→(Q4→X0)→X0:=w4d (w3a (w2d w1a))
def c205:Q4→AV→(Q4→X0)→X0:=w4d (w3a (w2d w1b))
def c206:Q4→AV→(Q4→X0)→X0:=w4d (w3a (w2d w1c))
def c207:Q4→AV→(Q4→X0)→X0:=w4d (w3a (w2d w1d))
def c208:Q4→AV→(Q4→X0)→X0:=w4d (w3b (w2a w1a))
def c209:Q4→AV→(Q4→X0)→X0:=w4d (w3b (w2a w1b))
def c210:Q4→AV→(Q4→X0)→X0:=w4d (w3b (w2a w1c))
def c211:Q4→AV→(Q4→X0)→X0:=w4d (w3b (w2a w1d))
def c212:Q4→AV→(Q4→X0)→X0:=w4d (w3b (w2b w1a))
def c213:Q4→AV→(Q4→X0)→X0:=w4d (w3b (w2b w1b))
def c214:Q4→AV→(Q4→X0)→X0:=w4d (w3b (w2b w1c))
def c215:Q4→AV→(Q4→X0)→X0:=w4d (w3b (w2b w1d))
def c216:Q4→AV→(Q4→X0)→X0:=w4d (w3b (w2c w1a))
def c217:Q4→AV→(Q4→X0)→X0:=w4d (w3b (w2c w1b))
def c218:Q4→AV→(Q4→X0)→X0:=w4d (w3b (w2c w1c))
def c219:Q4→AV→(Q4→X0)→X0:=w4d (w3b (w2c w1d))
def c220:Q4→AV→(Q4→X0)→X0:=w4d (w3b (w2d w1a))
def c221:Q4→AV→(Q4→X0)→X0:=w4d (w3b (w2d w1b))
def c222:Q4→AV→(Q4→X0)→X0:=w4d (w3b (w2d w1c))
def c223:Q4→AV→(Q4→X0)→X0:=w4d (w3b (w2d w1d))
def c224:Q4→AV→(Q4→X0)→X0:=w4d (w3c (w2a w1a))
def c225:Q4→AV→(Q4→X0)→X0:=w4d (w3c (w2a w1b))
def c226:Q4→AV→(Q4→X0)→X0:=w4d (w3c (w2a w1c))
def c227:Q4→AV→(Q4→X0)→X0:=w4d (w3c (w2a w1d))
def c228:Q4→AV→(Q4→X0)→X0:=w4d (w3c (w2b w1a))
def c229:Q4→AV→(Q4→X0)→X0:=w4d (w3c (w2b w1b))
def c230:Q4→AV→(Q4→X0)→X0:=w4d (w3c (w2b w1c))
def c231:Q4→AV→(Q4→X0)→X0:=w4d (w3c (w2b w1d))
def c232:Q4→AV→(Q4→X0)→X0:=w4d (w3c (w2c w1a))
def c233:Q4→AV→(Q4→X0)→X0:=w4d (w3c (w2c w1b))
def c234:Q4→AV→(Q4→X0)→X0:=w4d (w3c (w2c w1c))
def c235:Q4→AV→(Q4→X0)→X0:=w4d (w3c (w2c w1d))
def c236:Q4→AV→(Q4→X0)→X0:=w4d (w3c (w2d w1a))
def c237:Q4→AV→(Q4→X0)→X0:=w4d (w3c (w2d w1b))
def c238:Q4→AV→(Q4→X0)→X0:=w4d (w3c (w2d w1c))
def c239:Q4→AV→(Q4→X0)→X0:=w4d (w3c (w2d w1d))
def c240:Q4→AV→(Q4→X0)→X0:=w4d (w3d (w2a w1a))
def c241:Q4→AV→(Q4→X0)→X0:=w4d (w3d (w2a w1b))
def c242:Q4→AV→(Q4→X0)→X0:=w4d (w3d (w2a w1c))
def c243:Q4→AV→(Q4→X0)→X0:=w4d (w3d (w2a w1d))
def c244:Q4→AV→(Q4→X0)→X0:=w4d (w3d (w2b w1a))
def c245:Q4→AV→(Q4→X0)→X0:=w4d (w3d (w2b w1b))
def c246:Q4→AV→(Q4→X0)→X0:=w4d (w3d (w2b w1c))
def c247:Q4→AV→(Q4→X0)→X0:=w4d (w3d (w2b w1d))
def c248:Q4→AV→(Q4→X0)→X0:=w4d (w3d (w2c w1a))
def c249:Q4→AV→(Q4→X0)→X0:=w4d (w3d (w2c w1b))
def c250:Q4→AV→(Q4→X0)→X0:=w4d (w3d (w2c w1c))
def c251:Q4→AV→(Q4→X0)→X0:=w4d (w3d (w2c w1d))
def c252:Q4→AV→(Q4→X0)→X0:=w4d (w3d (w2d w1a))
def c253:Q4→AV→(Q4→X0)→X0:=w4d (w3d (w2d w1b))
def c254:Q4→AV→(Q4→X0)→X0:=w4d (w3d (w2d w1c))
def c255:Q4→AV→(Q4→X0)→X0:=w4d (w3d (w2d w1d))
def gT:Tr (Q4→AV):=(.n 128 g128 (.n 64 g64 (.n 32 g32 (.n 16 g16 (.n 8 g8 (.n 4 g4 (.n 2 g2 (.n 1 g1 (.n 0 g0 .l .l) .l) (.n 3 g3 .l .l)) (.n 6 g6 (.n 5 g5 .l .l) (.n 7 g7 .l .l))) (.n 12 g12 (.n 10 g10 (.n 9 g9 .l .l) (.n 11 g11 .l .l)) (.n 14 g14 (.n 13 g13 .l .l) (.n 15 g15 .l .l)))) (.n 24 g24 (.n 20 g20 (.n 18 g18 (.n 17 g17 .l .l) (.n 19 g19 .l .l)) (.n 22 g22 (.n 21 g21 .l .l) (.n 23 g23 .l .l))) (.n 28 g28 (.n 26 g26 (.n 25 g25 .l .l) (.n 27 g27 .l .l)) (.n 30 g30 (.n 29 g29 .l .l) (.n 31 g31 .l .l))))) (.n 48 g48 (.n 40 g40 (.n 36 g36 (.n 34 g34 (.n 33 g33 .l .l) (.n 35 g35 .l .l)) (.n 38 g38 (.n 37 g37 .l .l) (.n 39 g39 .l .l))) (.n 44 g44 (.n 42 g42 (.n 41 g41 .l .l) (.n 43 g43 .l .l)) (.n 46 g46 (.n 45 g45 .l .l) (.n 47 g47 .l .l)))) (.n 56 g56 (.n 52 g52 (.n 50 g50 (.n 49 g49 .l .l) (.n 51 g51 .l .l)) (.n 54 g54 (.n 53 g53 .l .l) (.n 55 g55 .l .l))) (.n 60 g60 (.n 58 g58 (.n 57 g57 .l .l) (.n 59 g59 .l .l)) (.n 62 g62 (.n 61 g61 .l .l) (.n 63 g63 .l .l)))))) (.n 96 g96 (.n 80 g80 (.n 72 g72 (.n 68 g68 (.n 66 g66 (.n 65 g65 .l .l) (.n 67 g67 .l .l)) (.n 70 g70 (.n 69 g69 .l .l) (.n 71 g71 .l .l))) (.n 76 g76 (.n 74 g74 (.n 73 g73 .l .l) (.n 75 g75 .l .l)) (.n 78 g78 (.n 77 g77 .l .l) (.n 79 g79 .l .l)))) (.n 88 g88 (.n 84 g84 (.n 82 g82 (.n 81 g81 .l .l) (.n 83 g83 .l .l)) (.n 86 g86 (.n 85 g85 .l .l) (.n 87 g87 .l .l))) (.n 92 g92 (.n 90 g90 (.n 89 g89 .l .l) (.n 91 g91 .l .l)) (.n 94 g94 (.n 93 g93 .l .l) (.n 95 g95 .l .l))))) (.n 112 g112 (.n 104 g104 (.n 100 g100 (.n 98 g98 (.n 97 g97 .l .l) (.n 99 g99 .l .l)) (.n 102 g102 (.n 101 g101 .l .l) (.n 103 g103 .l .l))) (.n 108 g108 (.n 106 g106 (.n 105 g105 .l .l) (.n 107 g107 .l .l)) (.n 110 g110 (.n 109 g109 .l .l) (.n 111 g111 .l .l)))) (.n 120 g120 (.n 116 g116 (.n 114 g114 (.n 113 g113 .l .l) (.n 115 g115 .l .l)) (.n 118 g118 (.n 117 g117 .l .l) (.n 119 g119 .l .l))) (.n 124 g124 (.n 122 g122 (.n 121 g121 .l .l) (.n 123 g123 .l .l)) (.n 126 g126 (.n 125 g125 .l .l) (.n 127 g127 .l .l))))))) (.n 192 g192 (.n 160 g160 (.n 144 g144 (.n 136 g136 (.n 132 g132 (.n 130 g130 (.n 129 g129 .l .l) (.n 131 g131 .l .l)) (.n 134 g134 (.n 133 g133 .l .l) (.n 135 g135 .l .l))) (.n 140 g140 (.n 138 g138 (.n 137 g137 .l .l) (.n 139 g139 .l .l)) (.n 142 g142 (.n 141 g141 .l .l) (.n 143 g143 .l .l)))) (.n 152 g152 (.n 148 g148 (.n 146 g146 (.n 145 g145 .l .l) (.n 147 g147 .l .l)) (.n 150 g150 (.n 149 g149 .l .l) (.n 151 g151 .l .l))) (.n 156 g156 (.n 154 g154 (.n 153 g153 .l .l) (.n 155 g155 .l .l)) (.n 158 g158 (.n 157 g157 .l .l) (.n 159 g159 .l .l))))) (.n 176 g176 (.n 168 g168 (.n 164 g164 (.n 162 g162 (.n 161 g161 .l .l) (.n 163 g163 .l .l)) (.n 166 g166 (.n 165 g165 .l .l) (.n 167 g167 .l .l))) (.n 172 g172 (.n 170 g170 (.n 169 g169 .l .l) (.n 171 g171 .l .l)) (.n 174 g174 (.n 173 g173 .l .l) (.n 175 g175 .l .l)))) (.n 184 g184 (.n 180 g180 (.n 178 g178 (.n 177 g177 .l .l) (.n 179 g179 .l .l)) (.n 182 g182 (.n 181 g181 .l .l) (.n 183 g183 .l .l))) (.n 188 g188 (.n 186 g186 (.n 185 g185 .l .l) (.n 187 g187 .l .l)) (.n 190 g190 (.n 189 g189 .l .l) (.n 191 g191 .l .l)))))) (.n 224 g224 (.n 208 g208 (.n 200 g200 (.n 196 g196 (.n 194 g194 (.n 193 g193 .l .l) (.n 195 g195 .l .l)) (.n 198 g198 (.n 197 g197 .l .l) (.n 199 g199 .l .l))) (.n 204 g204 (.n 202 g202 (.n 201 g201 .l .l) (.n 203 g203 .l .l)) (.n 206 g206 (.n 205 g205 .l .l) (.n 207 g207 .l .l)))) (.n 216 g216 (.n 212 g212 (.n 210 g210 (.n 209 g209 .l .l) (.n 211 g211 .l .l)) (.n 214 g214 (.n 213 g213 .l .l) (.n 215 g215 .l .l))) (.n 220 g220 (.n 218 g218 (.n 217 g217 .l .l) (.n 219 g219 .l .l)) (.n 222 g222 (.n 221 g221 .l .l) (.n 223 g223 .l .l))))) (.n 240 g240 (.n 232 g232 (.n 228 g228 (.n 226 g226 (.n 225 g225 .l .l) (.n 227 g227 .l .l)) (.n 230 g230 (.n 229 g229 .l .l) (.n 231 g231 .l .l))) (.n 236 g236 (.n 234 g234 (.n 233 g233 .l .l) (.n 235 g235 .l .l)) (.n 238 g238 (.n 237 g237 .l .l) (.n 239 g239 .l .l)))) (.n 248 g248 (.n 244 g244 (.n 242 g242 (.n 241 g241 .l .l) (.n 243 g243 .l .l)) (.n 246 g246 (.n 245 g245 .l .l) (.n 247 g247 .l .l))) (.n 252 g252 (.n 250 g250 (.n 249 g249 .l .l) (.n 251 g251 .l .l)) (.n 254 g254 (.n 253 g253 .l .l) (.n 255 g255 .l .l))))))))
def sT:Tr (Q4→AV→Q4):=(.n 128 s128 (.n 64 s64 (.n 32 s32 (.n 16 s16 (.n 8 s8 (.n 4 s4 (.n 2 s2 (.n 1 s1 (.n 0 s0 .l .l) .l) (.n 3 s3 .l .l)) (.n 6 s6 (.n 5 s5 .l .l) (.n 7 s7 .l .l))) (.n 12 s12 (.n 10 s10 (.n 9 s9 .l .l) (.n 11 s11 .l .l)) (.n 14 s14 (.n 13 s13 .l .l) (.n 15 s15 .l .l)))) (.n 24 s24 (.n 20 s20 (.n 18 s18 (.n 17 s17 .l .l) (.n 19 s19 .l .l)) (.n 22 s22 (.n 21 s21 .l .l) (.n 23 s23 .l .l))) (.n 28 s28 (.n 26 s26 (.n 25 s25 .l .l) (.n 27 s27 .l .l)) (.n 30 s30 (.n 29 s29 .l .l) (.n 31 s31 .l .l))))) (.n 48 s48 (.n 40 s40 (.n 36 s36 (.n 34 s34 (.n 33 s33 .l .l) (.n 35 s35 .l .l)) (.n 38 s38 (.n 37 s37 .l .l) (.n 39 s39 .l .l))) (.n 44 s44 (.n 42 s42 (.n 41 s41 .l .l) (.n 43 s43 .l .l)) (.n 46 s46 (.n 45 s45 .l .l) (.n 47 s47 .l .l)))) (.n 56 s56 (.n 52 s52 (.n 50 s50 (.n 49 s49 .l .l) (.n 51 s51 .l .l)) (.n 54 s54 (.n 53 s53 .l .l) (.n 55 s55 .l .l))) (.n 60 s60 (.n 58 s58 (.n 57 s57 .l .l) (.n 59 s59 .l .l)) (.n 62 s62 (.n 61 s61 .l .l) (.n 63 s63 .l .l)))))) (.n 96 s96 (.n 80 s80 (.n 72 s72 (.n 68 s68 (.n 66 s66 (.n 65 s65 .l .l) (.n 67 s67 .l .l)) (.n 70 s70 (.n 69 s69 .l .l) (.n 71 s71 .l .l))) (.n 76 s76 (.n 74 s74 (.n 73 s73 .l .l) (.n 75 s75 .l .l)) (.n 78 s78 (.n 77 s77 .l .l) (.n 79 s79 .l .l)))) (.n 88 s88 (.n 84 s84 (.n 82 s82 (.n 81 s81 .l .l) (.n 83 s83 .l .l)) (.n 86 s86 (.n 85 s85 .l .l) (.n 87 s87 .l .l))) (.n 92 s92 (.n 90 s90 (.n 89 s89 .l .l) (.n 91 s91 .l .l)) (.n 94 s94 (.n 93 s93 .l .l) (.n 95 s95 .l .l))))) (.n 112 s112 (.n 104 s104 (.n 100 s100 (.n 98 s98 (.n 97 s97 .l .l) (.n 99 s99 .l .l)) (.n 102 s102 (.n 101 s101 .l .l) (.n 103 s103 .l .l))) (.n 108 s108 (.n 106 s106 (.n 105 s105 .l .l) (.n 107 s107 .l .l)) (.n 110 s110 (.n 109 s109 .l .l) (.n 111 s111 .l .l)))) (.n 120 s120 (.n 116 s116 (.n 114 s114 (.n 113 s113 .l .l) (.n 115 s115 .l .l)) (.n 118 s118 (.n 117 s117 .l .l) (.n 119 s119 .l .l))) (.n 124 s124 (.n 122 s122 (.n 121 s121 .l .l) (.n 123 s123 .l .l)) (.n 126 s126 (.n 125 s125 .l .l) (.n 127 s127 .l .l))))))) (.n 192 s192 (.n 160 s160 (.n 144 s144 (.n 136 s136 (.n 132 s132 (.n 130 s130 (.n 129 s129 .l .l) (.n 131 s131 .l .l)) (.n 134 s134 (.n 133 s133 .l .l) (.n 135 s135 .l .l))) (.n 140 s140 (.n 138 s138 (.n 137 s137 .l .l) (.n 139 s139 .l .l)) (.n 142 s142 (.n 141 s141 .l .l) (.n 143 s143 .l .l)))) (.n 152 s152 (.n 148 s148 (.n 146 s146 (.n 145 s145 .l .l) (.n 147 s147 .l .l)) (.n 150 s150 (.n 149 s149 .l .l) (.n 151 s151 .l .l))) (.n 156 s156 (.n 154 s154 (.n 153 s153 .l .l) (.n 155 s155 .l .l)) (.n 158 s158 (.n 157 s157 .l .l) (.n 159 s159 .l .l))))) (.n 176 s176 (.n 168 s168 (.n 164 s164 (.n 162 s162 (.n 161 s161 .l .l) (.n 163 s163 .l .l)) (.n 166 s166 (.n 165 s165 .l .l) (.n 167 s167 .l .l))) (.n 172 s172 (.n 170 s170 (.n 169 s169 .l .l) (.n 171 s171 .l .l)) (.n 174 s174 (.n 173 s173 .l .l) (.n 175 s175 .l .l)))) (.n 184 s184 (.n 180 s180 (.n 178 s178 (.n 177 s177 .l .l) (.n 179 s179 .l .l)) (.n 182 s182 (.n 181 s181 .l .l) (.n 183 s183 .l .l))) (.n 188 s188 (.n 186 s186 (.n 185 s185 .l .l) (.n 187 s187 .l .l)) (.n 190 s190 (.n 189 s189 .l .l) (.n 191 s191 .l .l)))))) (.n 224 s224 (.n 208 s208 (.n 200 s200 (.n 196 s196 (.n 194 s194 (.n 193 s193 .l .l) (.n 195 s195 .l .l)) (.n 198 s198 (.n 197 s197 .l .l) (.n 199 s199 .l .l))) (.n 204 s204 (.n 202 s202 (.n 201 s201 .l .l) (.n 203 s203 .l .l)) (.n 206 s206 (.n 205 s205 .l .l) (.n 207 s207 .l .l)))) (.n 216 s216 (.n 212 s212 (.n 210 s210 (.n 209 s209 .l .l) (.n 211 s211 .l .l)) (.n 214 s214 (.n 213 s213 .l .l) (.n 215 s215 .l .l))) (.n 220 s220 (.n 218 s218 (.n 217 s217 .l .l) (.n 219 s219 .l .l)) (.n 222 s222 (.n 221 s221 .l .l) (.n 223 s223 .l .l))))) (.n 240 s240 (.n 232 s232 (.n 228 s228 (.n 226 s226 (.n 225 s225 .l .l) (.n 227 s227 .l .l)) (.n 230 s230 (.n 229 s229 .l .l) (.n 231 s231 .l .l))) (.n 236 s236 (.n 234 s234 (.n 233 s233 .l .l) (.n 235 s235 .l .l)) (.n 238 s238 (.n 237 s237 .l .l) (.n 239 s239 .l .l)))) (.n 248 s248 (.n 244 s244 (.n 242 s242 (.n 241 s241 .l .l) (.n 243 s243 .l .l)) (.n 246 s246 (.n 245 s245 .l .l) (.n 247 s247 .l .l))) (.n 252 s252 (.n 250 s250 (.n 249 s249 .l .l) (.n 251 s251 .l .l)) (.n 254 s254 (.n 253 s253 .l .l) (.n 255 s255 .l .l))))))))
def cT:Tr (Q4→AV→(Q4→X0)→X0):=(.n 128 c128 (.n 64 c64 (.n 32 c32 (.n 16 c16 (.n 8 c8 (.n 4 c4 (.n 2 c2 (.n 1 c1 (.n 0 c0 .l .l) .l) (.n 3 c3 .l .l)) (.n 6 c6 (.n 5 c5 .l .l) (.n 7 c7 .l .l))) (.n 12 c12 (.n 10 c10 (.n 9 c9 .l .l) (.n 11 c11 .l .l)) (.n 14 c14 (.n 13 c13 .l .l) (.n 15 c15 .l .l)))) (.n 24 c24 (.n 20 c20 (.n 18 c18 (.n 17 c17 .l .l) (.n 19 c19 .l .l)) (.n 22 c22 (.n 21 c21 .l .l) (.n 23 c23 .l .l))) (.n 28 c28 (.n 26 c26 (.n 25 c25 .l .l) (.n 27 c27 .l .l)) (.n 30 c30 (.n 29 c29 .l .l) (.n 31 c31 .l .l))))) (.n 48 c48 (.n 40 c40 (.n 36 c36 (.n 34 c34 (.n 33 c33 .l .l) (.n 35 c35 .l .l)) (.n 38 c38 (.n 37 c37 .l .l) (.n 39 c39 .l .l))) (.n 44 c44 (.n 42 c42 (.n 41 c41 .l .l) (.n 43 c43 .l .l)) (.n 46 c46 (.n 45 c45 .l .l) (.n 47 c47 .l .l)))) (.n 56 c56 (.n 52 c52 (.n 50 c50 (.n 49 c49 .l .l) (.n 51 c51 .l .l)) (.n 54 c54 (.n 53 c53 .l .l) (.n 55 c55 .l .l))) (.n 60 c60 (.n 58 c58 (.n 57 c57 .l .l) (.n 59 c59 .l .l)) (.n 62 c62 (.n 61 c61 .l .l) (.n 63 c63 .l .l)))))) (.n 96 c96 (.n 80 c80 (.n 72 c72 (.n 68 c68 (.n 66 c66 (.n 65 c65 .l .l) (.n 67 c67 .l .l)) (.n 70 c70 (.n 69 c69 .l .l) (.n 71 c71 .l .l))) (.n 76 c76 (.n 74 c74 (.n 73 c73 .l .l) (.n 75 c75 .l .l)) (.n 78 c78 (.n 77 c77 .l .l) (.n 79 c79 .l .l)))) (.n 88 c88 (.n 84 c84 (.n 82 c82 (.n 81 c81 .l .l) (.n 83 c83 .l .l)) (.n 86 c86 (.n 85 c85 .l .l) (.n 87 c87 .l .l))) (.n 92 c92 (.n 90 c90 (.n 89 c89 .l .l) (.n 91 c91 .l .l)) (.n 94 c94 (.n 93 c93 .l .l) (.n 95 c95 .l .l))))) (.n 112 Xf7 (.n 104 c104 (.n 100 c100 (.n 98 c98 (.n 97 c97 .l .l) (.n 99 c99 .l .l)) (.n 102 c102 (.n 101 c101 .l .l) (.n 103 c103 .l .l))) (.n 108 c108 (.n 106 c106 (.n 105 c105 .l .l) (.n 107 c107 .l .l)) (.n 110 c110 (.n 109 c109 .l .l) (.n 111 c111 .l .l)))) (.n 120 c120 (.n 116 c116 (.n 114 c114 (.n 113 c113 .l .l) (.n 115 c115 .l .l)) (.n 118 c118 (.n 117 c117 .l .l) (.n 119 c119 .l .l))) (.n 124 c124 (.n 122 c122 (.n 121 c121 .l .l) (.n 123 c123 .l .l)) (.n 126 c126 (.n 125 c125 .l .l) (.n 127 c127 .l .l))))))) (.n 192 c192 (.n 160 c160 (.n 144 c144 (.n 136 c136 (.n 132 c132 (.n 130 c130 (.n 129 c129 .l .l) (.n 131 c131 .l .l)) (.n 134 c134 (.n 133 c133 .l .l) (.n 135 c135 .l .l))) (.n 140 c140 (.n 138 c138 (.n 137 c137 .l .l) (.n 139 c139 .l .l)) (.n 142 c142 (.n 141 c141 .l .l) (.n 143 c143 .l .l)))) (.n 152 c152 (.n 148 c148 (.n 146 c146 (.n 145 c145 .l .l) (.n 147 c147 .l .l)) (.n 150 c150 (.n 149 c149 .l .l) (.n 151 c151 .l .l))) (.n 156 c156 (.n 154 c154 (.n 153 c153 .l .l) (.n 155 c155 .l .l)) (.n 158 c158 (.n 157 c157 .l .l) (.n 159 c159 .l .l))))) (.n 176 c176 (.n 168 c168 (.n 164 c164 (.n 162 c162 (.n 161 c161 .l .l) (.n 163 c163 .l .l)) (.n 166 c166 (.n 165 c165 .l .l) (.n 167 c167 .l .l))) (.n 172 c172 (.n 170 c170 (.n 169 c169 .l .l) (.n 171 c171 .l .l)) (.n 174 c174 (.n 173 c173 .l .l) (.n 175 c175 .l .l)))) (.n 184 c184 (.n 180 c180 (.n 178 c178 (.n 177 c177 .l .l) (.n 179 c179 .l .l)) (.n 182 c182 (.n 181 c181 .l .l) (.n 183 c183 .l .l))) (.n 188 c188 (.n 186 c186 (.n 185 c185 .l .l) (.n 187 c187 .l .l)) (.n 190 c190 (.n 189 c189 .l .l) (.n 191 c191 .l .l)))))) (.n 224 c224 (.n 208 c208 (.n 200 c200 (.n 196 c196 (.n 194 c194 (.n 193 c193 .l .l) (.n 195 c195 .l .l)) (.n 198 c198 (.n 197 c197 .l .l) (.n 199 c199 .l .l))) (.n 204 c204 (.n 202 c202 (.n 201 c201 .l .l) (.n 203 c203 .l .l)) (.n 206 c206 (.n 205 c205 .l .l) (.n 207 c207 .l .l)))) (.n 216 c216 (.n 212 c212 (.n 210 c210 (.n 209 c209 .l .l) (.n 211 c211 .l .l)) (.n 214 c214 (.n 213 c213 .l .l) (.n 215 c215 .l .l))) (.n 220 c220 (.n 218 c218 (.n 217 c217 .l .l) (.n 219 c219 .l .l)) (.n 222 c222 (.n 221 c221 .l .l) (.n 223 c223 .l .l))))) (.n 240 c240 (.n 232 c232 (.n 228 c228 (.n 226 c226 (.n 225 c225 .l .l) (.n 227 c227 .l .l)) (.n 230 c230 (.n 229 c229 .l .l) (.n 231 c231 .l .l))) (.n 236 c236 (.n 234 c234 (.n 233 c233 .l .l) (.n 235 c235 .l .l)) (.n 238 c238 (.n 237 c237 .l .l) (.n 239 c239 .l .l)))) (.n 248 c248 (.n 244 c244 (.n 242 c242 (.n 241 c241 .l .l) (.n 243 c243 .l .l)) (.n 246 c246 (.n 245 c245 .l .l) (.n 247 c247 .l .l))) (.n 252 c252 (.n 250 c250 (.n 249 c249 .l .l) (.n 251 c251 .l .l)) (.n 254 c254 (.n 253 c253 .l .l) (.n 255 c255 .l .l))))))))
def cP (t:Nat) (c:Q4→AV→(Q4→X0)→X0):Prop:=t<256∧∃ s,sT.get t=some s∧∀ q x k,c q x k=k (s q x)
def gP (t:Nat) (g:Q4→AV):Prop:=∀ q,nth q.l t=some (g q)
def sP (t:Nat) (s:Q4→AV→Q4):Prop:=t<256∧∀ q x,(s q x).l=upd q.l t x
theorem h0:gP 0 g0:=fun q=>by kernel_rfl
theorem k0:sP 0 s0:=⟨by omega,fun q x=>by kernel_rfl⟩
theorem j0:cP 0 c0:=⟨by omega,s0,by kernel_rfl,fun q x k=>by kernel_rfl⟩
theorem h1:gP 1 g1:=fun q=>by kernel_rfl
theorem k1:sP 1 s1:=⟨by omega,fun q x=>by kernel_rfl⟩
theorem j1:cP 1 c1:=⟨by omega,s1,by kernel_rfl,fun q x k=>by kernel_rfl⟩
theorem h2:gP 2 g2:=fun q=>by kernel_rfl
theorem k2:sP 2 s2:=⟨by omega,fun q x=>by kernel_rfl⟩
theorem j2:cP 2 c2:=⟨by omega,s2,by kernel_rfl,fun q x k=>by kernel_rfl⟩
theorem h3:gP 3 g3:=fun q=>by kernel_rfl
theorem k3:sP 3 s3:=⟨by omega,fun q x=>by kernel_rfl⟩
theorem j3:cP 3 c3:=⟨by omega,s3,by kernel_rfl,fun q x k=>by kernel_rfl⟩
theorem h4:gP 4 g4:=fun q=>by kernel_rfl
theorem k4:sP 4 s4:=⟨by omega,fun q x=>by kernel_rfl⟩
theorem j4:cP 4 c4:=⟨by omega,s4,by kernel_rfl,fun q x k=>by kernel_rfl⟩
theorem h5:gP 5 g5:=fun q=>by kernel_rfl
theorem k5:sP 5 s5:=⟨by omega,fun q x=>by kernel_rfl⟩
theorem j5:cP 5 c5:=⟨by omega,s5,by kernel_rfl,fun q x k=>by kernel_rfl⟩
theorem h6:gP 6 g6:=fun q=>by kernel_rfl
theorem k6:sP 6 s6:=⟨by omega,fun q x=>by kernel_rfl⟩
theorem j6:cP 6 c6:=⟨by omega,s6,by kernel_rfl,fun q x k=>by kernel_rfl⟩
theorem h7:gP 7 g7:=fun q=>by kernel_rfl
theorem k7:sP 7 s7:=⟨by omega,fun q x=>by kernel_rfl⟩
theorem j7:cP 7 c7:=⟨by omega,s7,by kernel_rfl,fun q x k=>by kernel_rfl⟩
theorem h8:gP 8 g8:=fun q=>by kernel_rfl
theorem k8:sP 8 s8:=⟨by omega,fun q x=>by kernel_rfl⟩
theorem j8:cP 8 c8:=⟨by omega,s8,by kernel_rfl,fun q x k=>by kernel_rfl⟩
theorem h9:gP 9 g9:=fun q=>by kernel_rfl
theorem k9:sP 9 s9:=⟨by omega,fun q x=>by kernel_rfl⟩
theorem j9:cP 9 c9:=⟨by omega,s9,by kernel_rfl,fun q x k=>by kernel_rfl⟩
theorem h10:gP 10 g10:=fun q=>by kernel_rfl
theorem k10:sP 10 s10:=⟨by omega,fun q x=>by kernel_rfl⟩
theorem j10:cP 10 c10:=⟨by omega,s10,by kernel_rfl,fun q x k=>by kernel_rfl⟩
theorem h11:gP 11 g11:=fun q=>by kernel_rfl
theorem k11:sP 11 s11:=⟨by omega,fun q x=>by kernel_rfl⟩
theorem j11:cP 11 c11:=⟨by omega,s11,by kernel_rfl,fun q x k=>by kernel_rfl⟩
theorem h12:gP 12 g12:=fun q=>by kernel_rfl
theorem k12:sP 12 s12:=⟨by omega,fun q x=>by kernel_rfl⟩
theorem j12:cP 12 c12:=⟨by omega,s12,by kernel_rfl,fun q x k=>by kernel_rfl⟩
theorem h13:gP 13 g13:=fun q=>by kernel_rfl
theorem k13:sP 13 s13:=⟨by omega,fun q x=>by kernel_rfl⟩
theorem j13:cP 13 c13:=⟨by omega,s13,by kernel_rfl,fun q x k=>by kernel_rfl⟩
theorem h14:gP 14 g14:=fun q=>by kernel_rfl
theorem k14:sP 14 s14:=⟨by omega,fun q x=>by kernel_rfl⟩
theorem j14:cP 14 c14:=⟨by omega,s14,by kernel_rfl,fun q x k=>by kernel_rfl⟩
theorem h15:gP 15 g15:=fun q=>by kernel_rfl
theorem k15:sP 15 s15:=⟨by omega,fun q x=>by kernel_rfl⟩
theorem j15:cP 15 c15:=⟨by omega,s15,by kernel_rfl,fun q x k=>by kernel_rfl⟩
theorem h16:gP 16 g16:=fun q=>by kernel_rfl
theorem k16:sP 16 s16:=⟨by omega,fun q x=>by kernel_rfl⟩
theorem j16:cP 16 c16:=⟨by omega,s16,by kernel_rfl,fun q x k=>by kernel_rfl⟩
theorem h17:gP 17 g17:=fun q=>by kernel_rfl
theorem k17:sP 17 s17:=⟨by omega,fun q x=>by kernel_rfl⟩
theorem j17:cP 17 c17:=⟨by omega,s17,by kernel_rfl,fun q x k=>by kernel_rfl⟩
theorem h18:gP 18 g18:=fun q=>by kernel_rfl
theorem k18:sP 18 s18:=⟨by omega,fun q x=>by kernel_rfl⟩
theorem j18:cP 18 c18:=⟨by omega,s18,by kernel_rfl,fun q x k=>by kernel_rfl⟩
theorem h19:gP 19 g19:=fun q=>by kernel_rfl
theorem k19:sP 19 s19:=⟨by omega,fun q x=>by kernel_rfl⟩
theorem j19:cP 19 c19:=⟨by omega,s19,by kernel_rfl,fun q x k=>by kernel_rfl⟩
theorem h20:gP 20 g20:=fun q=>by kernel_rfl
theorem k20:sP 20 s20:=⟨by omega,fun q x=>by kernel_rfl⟩
theorem j20:cP 20 c20:=⟨by omega,s20,by kernel_rfl,fun q x k=>by kernel_rfl⟩
theorem h21:gP 21 g21:=fun q=>by kernel_rfl
theorem k21:sP 21 s21:=⟨by omega,fun q x=>by kernel_rfl⟩
theorem j21:cP 21 c21:=⟨by omega,s21,by kernel_rfl,fun q x k=>by kernel_rfl⟩
theorem h22:gP 22 g22:=fun q=>by kernel_rfl
theorem k22:sP 22 s22:=⟨by omega,fun q x=>by kernel_rfl⟩
theorem j22:cP 22 c22:=⟨by omega,s22,by kernel_rfl,fun q x k=>by kernel_rfl⟩
theorem h23:gP 23 g23:=fun q=>by kernel_rfl
theorem k23:sP 23 s23:=⟨by omega,fun q x=>by kernel_rfl⟩
theorem j23:cP 23 c23:=⟨by omega,s23,by kernel_rfl,fun q x k=>by kernel_rfl⟩
theorem h24:gP 24 g24:=fun q=>by kernel_rfl
theorem k24:sP 24 s24:=⟨by omega,fun q x=>by kernel_rfl⟩
theorem j24:cP 24 c24:=⟨by omega,s24,by kernel_rfl,fun q x k=>by kernel_rfl⟩
theorem h25:gP 25 g25:=fun q=>by kernel_rfl
theorem k25:sP 25 s25:=⟨by omega,fun q x=>by kernel_rfl⟩
theorem j25:cP 25 c25:=⟨by omega,s25,by kernel_rfl,fun q x k=>by kernel_rfl⟩
theorem h26:gP 26 g26:=fun q=>by kernel_rfl
theorem k26:sP 26 s26:=⟨by omega,fun q x=>by kernel_rfl⟩
theorem j26:cP 26 c26:=⟨by omega,s26,by kernel_rfl,fun q x k=>by kernel_rfl⟩
theorem h27:gP 27 g27:=fun q=>by kernel_rfl
theorem k27:sP 27 s27:=⟨by omega,fun q x=>by kernel_rfl⟩
theorem j27:cP 27 c27:=⟨by omega,s27,by kernel_rfl,fun q x k=>by kernel_rfl⟩
theorem h28:gP 28 g28:=fun q=>by kernel_rfl
theorem k28:sP 28 s28:=⟨by omega,fun q x=>by kernel_rfl⟩
theorem j28:cP 28 c28:=⟨by omega,s28,by kernel_rfl,fun q x k=>by kernel_rfl⟩
theorem h29:gP 29 g29:=fun q=>by kernel_rfl
theorem k29:sP 29 s29:=⟨by omega,fun q x=>by kernel_rfl⟩
theorem j29:cP 29 c29:=⟨by omega,s29,by kernel_rfl,fun q x k=>by kernel_rfl⟩
theorem h30:gP 30 g30:=fun q=>by kernel_rfl
theorem k30:sP 30 s30:=⟨by omega,fun q x=>by kernel_rfl⟩
theorem j30:cP 30 c30:=⟨by omega,s30,by kernel_rfl,fun q x k=>by kernel_rfl⟩
theorem h31:gP 31 g31:=fun q=>by kernel_rfl
theorem k31:sP 31 s31:=⟨by omega,fun q x=>by kernel_rfl⟩
theorem j31:cP 31 c31:=⟨by omega,s31,by kernel_rfl,fun q x k=>by kernel_rfl⟩
theorem h32:gP 32 g32:=fun q=>by kernel_rfl
theorem k32:sP 32 s32:=⟨by omega,fun q x=>by kernel_rfl⟩
theorem j32:cP 32 c32:=⟨by omega,s32,by kernel_rfl,fun q x k=>by kernel_rfl⟩
theorem h33:gP 33 g33:=fun q=>by kernel_rfl
theorem k33:sP 33 s33:=⟨by omega,fun q x=>by kernel_rfl⟩
theorem j33:cP 33 c33:=⟨by omega,s33,by kernel_rfl,fun q x k=>by kernel_rfl⟩
theorem h34:gP 34 g34:=fun q=>by kernel_rfl
theorem k34:sP 34 s34:=⟨by omega,fun q x=>by kernel_rfl⟩
theorem j34:cP 34 c34:=⟨by omega,s34,by kernel_rfl,fun q x k=>by kernel_rfl⟩
theorem h35:gP 35 g35:=fun q=>by kernel_rfl
theorem k35:sP 35 s35:=⟨by omega,fun q x=>by kernel_rfl⟩
theorem j35:cP 35 c35:=⟨by omega,s35,by kernel_rfl,fun q x k=>by kernel_rfl⟩
theorem h36:gP 36 g36:=fun q=>by kernel_rfl
theorem k36:sP 36 s36:=⟨by omega,fun q x=>by kernel_rfl⟩
theorem j36:cP 36 c36:=⟨by omega,s36,by kernel_rfl,fun q x k=>by kernel_rfl⟩
theorem h37:gP 37 g37:=fun q=>by kernel_rfl
theorem k37:sP 37 s37:=⟨by omega,fun q x=>by kernel_rfl⟩
theorem j37:cP 37 c37:=⟨by omega,s37,by kernel_rfl,fun q x k=>by kernel_rfl⟩
theorem h38:gP 38 g38:=fun q=>by kernel_rfl
theorem k38:sP 38 s38:=⟨by omega,fun q x=>by kernel_rfl⟩
theorem j38:cP 38 c38:=⟨by omega,s38,by kernel_rfl,fun q x k=>by kernel_rfl⟩
theorem h39:gP 39 g39:=fun q=>by kernel_rfl
theorem k39:sP 39 s39:=⟨by omega,fun q x=>by kernel_rfl⟩
theorem j39:cP 39 c39:=⟨by omega,s39,by kernel_rfl,fun q x k=>by kernel_rfl⟩
theorem h40:gP 40 g40:=fun q=>by kernel_rfl
theorem k40:sP 40 s40:=⟨by omega,fun q x=>by kernel_rfl⟩
theorem j40:cP 40 c40:=⟨by omega,s40,by kernel_rfl,fun q x k=>by kernel_rfl⟩
theorem h41:gP 41 g41:=fun q=>by kernel_rfl
theorem k41:sP 41 s41:=⟨by omega,fun q x=>by kernel_rfl⟩
theorem j41:cP 41 c41:=⟨by omega,s41,by kernel_rfl,fun q x k=>by kernel_rfl⟩
theorem h42:gP 42 g42:=fun q=>by kernel_rfl
theorem k42:sP 42 s42:=⟨by omega,fun q x=>by kernel_rfl⟩
theorem j42:cP 42 c42:=⟨by omega,s42,by kernel_rfl,fun q x k=>by kernel_rfl⟩
theorem h43:gP 43 g43:=fun q=>by kernel_rfl
theorem k43:sP 43 s43:=⟨by omega,fun q x=>by kernel_rfl⟩
theorem j43:cP 43 c43:=⟨by omega,s43,by kernel_rfl,fun q x k=>by kernel_rfl⟩
theorem h44:gP 44 g44:=fun q=>by kernel_rfl
theorem k44:sP 44 s44:=⟨by omega,fun q x=>by kernel_rfl⟩
theorem j44:cP 44 c44:=⟨by omega,s44,by kernel_rfl,fun q x k=>by kernel_rfl⟩
theorem h45:gP 45 g45:=fun q=>by kernel_rfl
theorem k45:sP 45 s45:=⟨by omega,fun q x=>by kernel_rfl⟩
theorem j45:cP 45 c45:=⟨by omega,s45,by kernel_rfl,fun q x k=>by kernel_rfl⟩
theorem h46:gP 46 g46:=fun q=>by kernel_rfl
theorem k46:sP 46 s46:=⟨by omega,fun q x=>by kernel_rfl⟩
theorem j46:cP 46 c46:=⟨by omega,s46,by kernel_rfl,fun q x k=>by kernel_rfl⟩
theorem h47:gP 47 g47:=fun q=>by kernel_rfl
theorem k47:sP 47 s47:=⟨by omega,fun q x=>by kernel_rfl⟩
theorem j47:cP 47 c47:=⟨by omega,s47,by kernel_rfl,fun q x k=>by kernel_rfl⟩
theorem h48:gP 48 g48:=fun q=>by kernel_rfl
theorem k48:sP 48 s48:=⟨by omega,fun q x=>by kernel_rfl⟩
theorem j48:cP 48 c48:=⟨by omega,s48,by kernel_rfl,fun q x k=>by kernel_rfl⟩
theorem h49:gP 49 g49:=fun q=>by kernel_rfl
theorem k49:sP 49 s49:=⟨by omega,fun q x=>by kernel_rfl⟩
theorem j49:cP 49 c49:=⟨by omega,s49,by kernel_rfl,fun q x k=>by kernel_rfl⟩
theorem h50:gP 50 g50:=fun q=>by kernel_rfl
theorem k50:sP 50 s50:=⟨by omega,fun q x=>by kernel_rfl⟩
theorem j50:cP 50 c50:=⟨by omega,s50,by kernel_rfl,fun q x k=>by kernel_rfl⟩
theorem h51:gP 51 g51:=fun q=>by kernel_rfl
theorem k51:sP 51 s51:=⟨by omega,fun q x=>by kernel_rfl⟩
theorem j51:cP 51 c51:=⟨by omega,s51,by kernel_rfl,fun q x k=>by kernel_rfl⟩
theorem h52:gP 52 g52:=fun q=>by kernel_rfl
theorem k52:sP 52 s52:=⟨by omega,fun q x=>by kernel_rfl⟩
theorem j52:cP 52 c52:=⟨by omega,s52,by kernel_rfl,fun q x k=>by kernel_rfl⟩
theorem h53:gP 53 g53:=fun q=>by kernel_rfl
theorem k53:sP 53 s53:=⟨by omega,fun q x=>by kernel_rfl⟩
theorem j53:cP 53 c53:=⟨by omega,s53,by kernel_rfl,fun q x k=>by kernel_rfl⟩
theorem h54:gP 54 g54:=fun q=>by kernel_rfl
theorem k54:sP 54 s54:=⟨by omega,fun q x=>by kernel_rfl⟩
theorem j54:cP 54 c54:=⟨by omega,s54,by kernel_rfl,fun q x k=>by kernel_rfl⟩
theorem h55:gP 55 g55:=fun q=>by kernel_rfl
theorem k55:sP 55 s55:=⟨by omega,fun q x=>by kernel_rfl⟩
theorem j55:cP 55 c55:=⟨by omega,s55,by kernel_rfl,fun q x k=>by kernel_rfl⟩
theorem h56:gP 56 g56:=fun q=>by kernel_rfl
theorem k56:sP 56 s56:=⟨by omega,fun q x=>by kernel_rfl⟩
theorem j56:cP 56 c56:=⟨by omega,s56,by kernel_rfl,fun q x k=>by kernel_rfl⟩
theorem h57:gP 57 g57:=fun q=>by kernel_rfl
theorem k57:sP 57 s57:=⟨by omega,fun q x=>by kernel_rfl⟩
theorem j57:cP 57 c57:=⟨by omega,s57,by kernel_rfl,fun q x k=>by kernel_rfl⟩
theorem h58:gP 58 g58:=fun q=>by kernel_rfl
theorem k58:sP 58 s58:=⟨by omega,fun q x=>by kernel_rfl⟩
theorem j58:cP 58 c58:=⟨by omega,s58,by kernel_rfl,fun q x k=>by kernel_rfl⟩
theorem h59:gP 59 g59:=fun q=>by kernel_rfl
theorem k59:sP 59 s59:=⟨by omega,fun q x=>by kernel_rfl⟩
theorem j59:cP 59 c59:=⟨by omega,s59,by kernel_rfl,fun q x k=>by kernel_rfl⟩
theorem h60:gP 60 g60:=fun q=>by kernel_rfl
theorem k60:sP 60 s60:=⟨by omega,fun q x=>by kernel_rfl⟩
theorem j60:cP 60 c60:=⟨by omega,s60,by kernel_rfl,fun q x k=>by kernel_rfl⟩
theorem h61:gP 61 g61:=fun q=>by kernel_rfl
theorem k61:sP 61 s61:=⟨by omega,fun q x=>by kernel_rfl⟩
theorem j61:cP 61 c61:=⟨by omega,s61,by kernel_rfl,fun q x k=>by kernel_rfl⟩
theorem h62:gP 62 g62:=fun q=>by kernel_rfl
theorem k62:sP 62 s62:=⟨by omega,fun q x=>by kernel_rfl⟩
theorem j62:cP 62 c62:=⟨by omega,s62,by kernel_rfl,fun q x k=>by kernel_rfl⟩
theorem h63:gP 63 g63:=fun q=>by kernel_rfl
theorem k63:sP 63 s63:=⟨by omega,fun q x=>by kernel_rfl⟩
theorem j63:cP 63 c63:=⟨by omega,s63,by kernel_rfl,fun q x k=>by kernel_rfl⟩
theorem h64:gP 64 g64:=fun q=>by kernel_rfl
theorem k64:sP 64 s64:=⟨by omega,fun q x=>by kernel_rfl⟩
theorem j64:cP 64 c64:=⟨by omega,s64,by kernel_rfl,fun q x k=>by kernel_rfl⟩
theorem h65:gP 65 g65:=fun q=>by kernel_rfl
theorem k65:sP 65 s65:=⟨by omega,fun q x=>by kernel_rfl⟩
theorem j65:cP 65 c65:=⟨by omega,s65,by kernel_rfl,fun q x k=>by kernel_rfl⟩
theorem h66:gP 66 g66:=fun q=>by kernel_rfl
theorem k66:sP 66 s66:=⟨by omega,fun q x=>by kernel_rfl⟩
theorem j66:cP 66 c66:=⟨by omega,s66,by kernel_rfl,fun q x k=>by kernel_rfl⟩
theorem h67:gP 67 g67:=fun q=>by kernel_rfl
theorem k67:sP 67 s67:=⟨by omega,fun q x=>by kernel_rfl⟩
theorem j67:cP 67 c67:=⟨by omega,s67,by kernel_rfl,fun q x k=>by kernel_rfl⟩
theorem h68:gP 68 g68:=fun q=>by kernel_rfl
theorem k68:sP 68 s68:=⟨by omega,fun q x=>by kernel_rfl⟩
theorem j68:cP 68 c68:=⟨by omega,s68,by kernel_rfl,fun q x k=>by kernel_rfl⟩
theorem h69:gP 69 g69:=fun q=>by kernel_rfl
theorem k69:sP 69 s69:=⟨by omega,fun q x=>by kernel_rfl⟩
theorem j69:cP 69 c69:=⟨by omega,s69,by kernel_rfl,fun q x k=>by kernel_rfl⟩
theorem h70:gP 70 g70:=fun q=>by kernel_rfl
theorem k70:sP 70 s70:=⟨by omega,fun q x=>by kernel_rfl⟩
theorem j70:cP 70 c70:=⟨by omega,s70,by kernel_rfl,fun q x k=>by kernel_rfl⟩
theorem h71:gP 71 g71:=fun q=>by kernel_rfl
theorem k71:sP 71 s71:=⟨by omega,fun q x=>by kernel_rfl⟩
theorem j71:cP 71 c71:=⟨by omega,s71,by kernel_rfl,fun q x k=>by kernel_rfl⟩
theorem h72:gP 72 g72:=fun q=>by kernel_rfl
theorem k72:sP 72 s72:=⟨by omega,fun q x=>by kernel_rfl⟩
theorem j72:cP 72 c72:=⟨by omega,s72,by kernel_rfl,fun q x k=>by kernel_rfl⟩
theorem h73:gP 73 g73:=fun q=>by kernel_rfl
theorem k73:sP 73 s73:=⟨by omega,fun q x=>by kernel_rfl⟩
theorem j73:cP 73 c73:=⟨by omega,s73,by kernel_rfl,fun q x k=>by kernel_rfl⟩
theorem h74:gP 74 g74:=fun q=>by kernel_rfl
theorem k74:sP 74 s74:=⟨by omega,fun q x=>by kernel_rfl⟩
theorem j74:cP 74 c74:=⟨by omega,s74,by kernel_rfl,fun q x k=>by kernel_rfl⟩
theorem h75:gP 75 g75:=fun q=>by kernel_rfl
theorem k75:sP 75 s75:=⟨by omega,fun q x=>by kernel_rfl⟩
theorem j75:cP 75 c75:=⟨by omega,s75,by kernel_rfl,fun q x k=>by kernel_rfl⟩
theorem h76:gP 76 g76:=fun q=>by kernel_rfl
theorem k76:sP 76 s76:=⟨by omega,fun q x=>by kernel_rfl⟩
theorem j76:cP 76 c76:=⟨by omega,s76,by kernel_rfl,fun q x k=>by kernel_rfl⟩
theorem h77:gP 77 g77:=fun q=>by kernel_rfl
theorem k77:sP 77 s77:=⟨by omega,fun q x=>by kernel_rfl⟩
theorem j77:cP 77 c77:=⟨by omega,s77,by kernel_rfl,fun q x k=>by kernel_rfl⟩
theorem h78:gP 78 g78:=fun q=>by kernel_rfl
theorem k78:sP 78 s78:=⟨by omega,fun q x=>by kernel_rfl⟩
theorem j78:cP 78 c78:=⟨by omega,s78,by kernel_rfl,fun q x k=>by kernel_rfl⟩
theorem h79:gP 79 g79:=fun q=>by kernel_rfl
theorem k79:sP 79 s79:=⟨by omega,fun q x=>by kernel_rfl⟩
theorem j79:cP 79 c79:=⟨by omega,s79,by kernel_rfl,fun q x k=>by kernel_rfl⟩
theorem h80:gP 80 g80:=fun q=>by kernel_rfl
theorem k80:sP 80 s80:=⟨by omega,fun q x=>by kernel_rfl⟩
theorem j80:cP 80 c80:=⟨by omega,s80,by kernel_rfl,fun q x k=>by kernel_rfl⟩
theorem h81:gP 81 g81:=fun q=>by kernel_rfl
theorem k81:sP 81 s81:=⟨by omega,fun q x=>by kernel_rfl⟩
theorem j81:cP 81 c81:=⟨by omega,s81,by kernel_rfl,fun q x k=>by kernel_rfl⟩
theorem h82:gP 82 g82:=fun q=>by kernel_rfl
theorem k82:sP 82 s82:=⟨by omega,fun q x=>by kernel_rfl⟩
theorem j82:cP 82 c82:=⟨by omega,s82,by kernel_rfl,fun q x k=>by kernel_rfl⟩
theorem h83:gP 83 g83:=fun q=>by kernel_rfl
theorem k83:sP 83 s83:=⟨by omega,fun q x=>by kernel_rfl⟩
theorem j83:cP 83 c83:=⟨by omega,s83,by kernel_rfl,fun q x k=>by kernel_rfl⟩
theorem h84:gP 84 g84:=fun q=>by kernel_rfl
theorem k84:sP 84 s84:=⟨by omega,fun q x=>by kernel_rfl⟩
theorem j84:cP 84 c84:=⟨by omega,s84,by kernel_rfl,fun q x k=>by kernel_rfl⟩
theorem h85:gP 85 g85:=fun q=>by kernel_rfl
theorem k85:sP 85 s85:=⟨by omega,fun q x=>by kernel_rfl⟩
theorem j85:cP 85 c85:=⟨by omega,s85,by kernel_rfl,fun q x k=>by kernel_rfl⟩
theorem h86:gP 86 g86:=fun q=>by kernel_rfl
theorem k86:sP 86 s86:=⟨by omega,fun q x=>by kernel_rfl⟩
theorem j86:cP 86 c86:=⟨by omega,s86,by kernel_rfl,fun q x k=>by kernel_rfl⟩
theorem h87:gP 87 g87:=fun q=>by kernel_rfl
theorem k87:sP 87 s87:=⟨by omega,fun q x=>by kernel_rfl⟩
theorem j87:cP 87 c87:=⟨by omega,s87,by kernel_rfl,fun q x k=>by kernel_rfl⟩
theorem h88:gP 88 g88:=fun q=>by kernel_rfl
theorem k88:sP 88 s88:=⟨by omega,fun q x=>by kernel_rfl⟩
theorem j88:cP 88 c88:=⟨by omega,s88,by kernel_rfl,fun q x k=>by kernel_rfl⟩
theorem h89:gP 89 g89:=fun q=>by kernel_rfl
theorem k89:sP 89 s89:=⟨by omega,fun q x=>by kernel_rfl⟩
theorem j89:cP 89 c89:=⟨by omega,s89,by kernel_rfl,fun q x k=>by kernel_rfl⟩
theorem h90:gP 90 g90:=fun q=>by kernel_rfl
theorem k90:sP 90 s90:=⟨by omega,fun q x=>by kernel_rfl⟩
theorem j90:cP 90 c90:=⟨by omega,s90,by kernel_rfl,fun q x k=>by kernel_rfl⟩
theorem h91:gP 91 g91:=fun q=>by kernel_rfl
theorem k91:sP 91 s91:=⟨by omega,fun q x=>by kernel_rfl⟩
theorem j91:cP 91 c91:=⟨by omega,s91,by kernel_rfl,fun q x k=>by kernel_rfl⟩
theorem h92:gP 92 g92:=fun q=>by kernel_rfl
theorem k92:sP 92 s92:=⟨by omega,fun q x=>by kernel_rfl⟩
theorem j92:cP 92 c92:=⟨by omega,s92,by kernel_rfl,fun q x k=>by kernel_rfl⟩
theorem h93:gP 93 g93:=fun q=>by kernel_rfl
theorem k93:sP 93 s93:=⟨by omega,fun q x=>by kernel_rfl⟩
theorem j93:cP 93 c93:=⟨by omega,s93,by kernel_rfl,fun q x k=>by kernel_rfl⟩
theorem h94:gP 94 g94:=fun q=>by kernel_rfl
theorem k94:sP 94 s94:=⟨by omega,fun q x=>by kernel_rfl⟩
theorem j94:cP 94 c94:=⟨by omega,s94,by kernel_rfl,fun q x k=>by kernel_rfl⟩
theorem h95:gP 95 g95:=fun q=>by kernel_rfl
theorem k95:sP 95 s95:=⟨by omega,fun q x=>by kernel_rfl⟩
theorem j95:cP 95 c95:=⟨by omega,s95,by kernel_rfl,fun q x k=>by kernel_rfl⟩
theorem h96:gP 96 g96:=fun q=>by kernel_rfl
theorem k96:sP 96 s96:=⟨by omega,fun q x=>by kernel_rfl⟩
theorem j96:cP 96 c96:=⟨by omega,s96,by kernel_rfl,fun q x k=>by kernel_rfl⟩
theorem h97:gP 97 g97:=fun q=>by kernel_rfl
theorem k97:sP 97 s97:=⟨by omega,fun q x=>by kernel_rfl⟩
theorem j97:cP 97 c97:=⟨by omega,s97,by kernel_rfl,fun q x k=>by kernel_rfl⟩
theorem h98:gP 98 g98:=fun q=>by kernel_rfl
theorem k98:sP 98 s98:=⟨by omega,fun q x=>by kernel_rfl⟩
theorem j98:cP 98 c98:=⟨by omega,s98,by kernel_rfl,fun q x k=>by kernel_rfl⟩
theorem h99:gP 99 g99:=fun q=>by kernel_rfl
theorem k99:sP 99 s99:=⟨by omega,fun q x=>by kernel_rfl⟩
theorem j99:cP 99 c99:=⟨by omega,s99,by kernel_rfl,fun q x k=>by kernel_rfl⟩
theorem h100:gP 100 g100:=fun q=>by kernel_rfl
theorem k100:sP 100 s100:=⟨by omega,fun q x=>by kernel_rfl⟩
theorem j100:cP 100 c100:=⟨by omega,s100,by kernel_rfl,fun q x k=>by kernel_rfl⟩
theorem h101:gP 101 g101:=fun q=>by kernel_rfl
theorem k101:sP 101 s101:=⟨by omega,fun q x=>by kernel_rfl⟩
theorem j101:cP 101 c101:=⟨by omega,s101,by kernel_rfl,fun q x k=>by kernel_rfl⟩
theorem h102:gP 102 g102:=fun q=>by kernel_rfl
theorem k102:sP 102 s102:=⟨by omega,fun q x=>by kernel_rfl⟩
theorem j102:cP 102 c102:=⟨by omega,s102,by kernel_rfl,fun q x k=>by kernel_rfl⟩
theorem h103:gP 103 g103:=fun q=>by kernel_rfl
theorem k103:sP 103 s103:=⟨by omega,fun q x=>by kernel_rfl⟩
theorem j103:cP 103 c103:=⟨by omega,s103,by kernel_rfl,fun q x k=>by kernel_rfl⟩
theorem h104:gP 104 g104:=fun q=>by kernel_rfl
theorem k104:sP 104 s104:=⟨by omega,fun q x=>by kernel_rfl⟩
theorem j104:cP 104 c104:=⟨by omega,s104,by kernel_rfl,fun q x k=>by kernel_rfl⟩
theorem h105:gP 105 g105:=fun q=>by kernel_rfl
theorem k105:sP 105 s105:=⟨by omega,fun q x=>by kernel_rfl⟩
theorem j105:cP 105 c105:=⟨by omega,s105,by kernel_rfl,fun q x k=>by kernel_rfl⟩
theorem h106:gP 106 g106:=fun q=>by kernel_rfl
theorem k106:sP 106 s106:=⟨by omega,fun q x=>by kernel_rfl⟩
theorem j106:cP 106 c106:=⟨by omega,s106,by kernel_rfl,fun q x k=>by kernel_rfl⟩
theorem h107:gP 107 g107:=fun q=>by kernel_rfl
theorem k107:sP 107 s107:=⟨by omega,fun q x=>by kernel_rfl⟩
theorem j107:cP 107 c107:=⟨by omega,s107,by kernel_rfl,fun q x k=>by kernel_rfl⟩
theorem h108:gP 108 g108:=fun q=>by kernel_rfl
theorem k108:sP 108 s108:=⟨by omega,fun q x=>by kernel_rfl⟩
theorem j108:cP 108 c108:=⟨by omega,s108,by kernel_rfl,fun q x k=>by kernel_rfl⟩
theorem h109:gP 109 g109:=fun q=>by kernel_rfl
theorem k109:sP 109 s109:=⟨by omega,fun q x=>by kernel_rfl⟩
theorem j109:cP 109 c109:=⟨by omega,s109,by kernel_rfl,fun q x k=>by kernel_rfl⟩
theorem h110:gP 110 g110:=fun q=>by kernel_rfl
theorem k110:sP 110 s110:=⟨by omega,fun q x=>by kernel_rfl⟩
theorem j110:cP 110 c110:=⟨by omega,s110,by kernel_rfl,fun q x k=>by kernel_rfl⟩
theorem h111:gP 111 g111:=fun q=>by kernel_rfl
theorem k111:sP 111 s111:=⟨by omega,fun q x=>by kernel_rfl⟩
theorem j111:cP 111 c111:=⟨by omega,s111,by kernel_rfl,fun q x k=>by kernel_rfl⟩
theorem h112:gP 112 g112:=fun q=>by kernel_rfl
theorem k112:sP 112 s112:=⟨by omega,fun q x=>by kernel_rfl⟩
theorem j112:cP 112 Xf7:=⟨by omega,s112,by kernel_rfl,fun q x k=>by kernel_rfl⟩
theorem h113:gP 113 g113:=fun q=>by kernel_rfl
theorem k113:sP 113 s113:=⟨by omega,fun q x=>by kernel_rfl⟩
theorem j113:cP 113 c113:=⟨by omega,s113,by kernel_rfl,fun q x k=>by kernel_rfl⟩
theorem h114:gP 114 g114:=fun q=>by kernel_rfl
theorem k114:sP 114 s114:=⟨by omega,fun q x=>by kernel_rfl⟩
theorem j114:cP 114 c114:=⟨by omega,s114,by kernel_rfl,fun q x k=>by kernel_rfl⟩
theorem h115:gP 115 g115:=fun q=>by kernel_rfl
theorem k115:sP 115 s115:=⟨by omega,fun q x=>by kernel_rfl⟩
theorem j115:cP 115 c115:=⟨by omega,s115,by kernel_rfl,fun q x k=>by kernel_rfl⟩
theorem h116:gP 116 g116:=fun q=>by kernel_rfl
theorem k116:sP 116 s116:=⟨by omega,fun q x=>by kernel_rfl⟩
theorem j116:cP 116 c116:=⟨by omega,s116,by kernel_rfl,fun q x k=>by kernel_rfl⟩
theorem h117:gP 117 g117:=fun q=>by kernel_rfl
theorem k117:sP 117 s117:=⟨by omega,fun q x=>by kernel_rfl⟩
theorem j117:cP 117 c117:=⟨by omega,s117,by kernel_rfl,fun q x k=>by kernel_rfl⟩
theorem h118:gP 118 g118:=fun q=>by kernel_rfl
theorem k118:sP 118 s118:=⟨by omega,fun q x=>by kernel_rfl⟩
theorem j118:cP 118 c118:=⟨by omega,s118,by kernel_rfl,fun q x k=>by kernel_rfl⟩
theorem h119:gP 119 g119:=fun q=>by kernel_rfl
theorem k119:sP 119 s119:=⟨by omega,fun q x=>by kernel_rfl⟩
theorem j119:cP 119 c119:=⟨by omega,s119,by kernel_rfl,fun q x k=>by kernel_rfl⟩
theorem h120:gP 120 g120:=fun q=>by kernel_rfl
theorem k120:sP 120 s120:=⟨by omega,fun q x=>by kernel_rfl⟩
theorem j120:cP 120 c120:=⟨by omega,s120,by kernel_rfl,fun q x k=>by kernel_rfl⟩
theorem h121:gP 121 g121:=fun q=>by kernel_rfl
theorem k121:sP 121 s121:=⟨by omega,fun q x=>by kernel_rfl⟩
theorem j121:cP 121 c121:=⟨by omega,s121,by kernel_rfl,fun q x k=>by kernel_rfl⟩
theorem h122:gP 122 g122:=fun q=>by kernel_rfl
theorem k122:sP 122 s122:=⟨by omega,fun q x=>by kernel_rfl⟩
theorem j122:cP 122 c122:=⟨by omega,s122,by kernel_rfl,fun q x k=>by kernel_rfl⟩
theorem h123:gP 123 g123:=fun q=>by kernel_rfl
theorem k123:sP 123 s123:=⟨by omega,fun q x=>by kernel_rfl⟩
theorem j123:cP 123 c123:=⟨by omega,s123,by kernel_rfl,fun q x k=>by kernel_rfl⟩
theorem h124:gP 124 g124:=fun q=>by kernel_rfl
theorem k124:sP 124 s124:=⟨by omega,fun q x=>by kernel_rfl⟩
theorem j124:cP 124 c124:=⟨by omega,s124,by kernel_rfl,fun q x k=>by kernel_rfl⟩
theorem h125:gP 125 g125:=fun q=>by kernel_rfl
theorem k125:sP 125 s125:=⟨by omega,fun q x=>by kernel_rfl⟩
theorem j125:cP 125 c125:=⟨by omega,s125,by kernel_rfl,fun q x k=>by kernel_rfl⟩
theorem h126:gP 126 g126:=fun q=>by kernel_rfl
theorem k126:sP 126 s126:=⟨by omega,fun q x=>by kernel_rfl⟩
theorem j126:cP 126 c126:=⟨by omega,s126,by kernel_rfl,fun q x k=>by kernel_rfl⟩
theorem h127:gP 127 g127:=fun q=>by kernel_rfl
theorem k127:sP 127 s127:=⟨by omega,fun q x=>by kernel_rfl⟩
theorem j127:cP 127 c127:=⟨by omega,s127,by kernel_rfl,fun q x k=>by kernel_rfl⟩
theorem h128:gP 128 g128:=fun q=>by kernel_rfl
theorem k128:sP 128 s128:=⟨by omega,fun q x=>by kernel_rfl⟩
theorem j128:cP 128 c128:=⟨by omega,s128,by kernel_rfl,fun q x k=>by kernel_rfl⟩
theorem h129:gP 129 g129:=fun q=>by kernel_rfl
theorem k129:sP 129 s129:=⟨by omega,fun q x=>by kernel_rfl⟩
theorem j129:cP 129 c129:=⟨by omega,s129,by kernel_rfl,fun q x k=>by kernel_rfl⟩
theorem h130:gP 130 g130:=fun q=>by kernel_rfl
theorem k130:sP 130 s130:=⟨by omega,fun q x=>by kernel_rfl⟩
theorem j130:cP 130 c130:=⟨by omega,s130,by kernel_rfl,fun q x k=>by kernel_rfl⟩
theorem h131:gP 131 g131:=fun q=>by kernel_rfl
theorem k131:sP 131 s131:=⟨by omega,fun q x=>by kernel_rfl⟩
theorem j131:cP 131 c131:=⟨by omega,s131,by kernel_rfl,fun q x k=>by kernel_rfl⟩
theorem h132:gP 132 g132:=fun q=>by kernel_rfl
theorem k132:sP 132 s132:=⟨by omega,fun q x=>by kernel_rfl⟩
theorem j132:cP 132 c132:=⟨by omega,s132,by kernel_rfl,fun q x k=>by kernel_rfl⟩
theorem h133:gP 133 g133:=fun q=>by kernel_rfl
theorem k133:sP 133 s133:=⟨by omega,fun q x=>by kernel_rfl⟩
theorem j133:cP 133 c133:=⟨by omega,s133,by kernel_rfl,fun q x k=>by kernel_rfl⟩
theorem h134:gP 134 g134:=fun q=>by kernel_rfl
theorem k134:sP 134 s134:=⟨by omega,fun q x=>by kernel_rfl⟩
theorem j134:cP 134 c134:=⟨by omega,s134,by kernel_rfl,fun q x k=>by kernel_rfl⟩
theorem h135:gP 135 g135:=fun q=>by kernel_rfl
theorem k135:sP 135 s135:=⟨by omega,fun q x=>by kernel_rfl⟩
theorem j135:cP 135 c135:=⟨by omega,s135,by kernel_rfl,fun q x k=>by kernel_rfl⟩
theorem h136:gP 136 g136:=fun q=>by kernel_rfl
theorem k136:sP 136 s136:=⟨by omega,fun q x=>by kernel_rfl⟩
theorem j136:cP 136 c136:=⟨by omega,s136,by kernel_rfl,fun q x k=>by kernel_rfl⟩
theorem h137:gP 137 g137:=fun q=>by kernel_rfl
theorem k137:sP 137 s137:=⟨by omega,fun q x=>by kernel_rfl⟩
theorem j137:cP 137 c137:=⟨by omega,s137,by kernel_rfl,fun q x k=>by kernel_rfl⟩
theorem h138:gP 138 g138:=fun q=>by kernel_rfl
theorem k138:sP 138 s138:=⟨by omega,fun q x=>by kernel_rfl⟩
theorem j138:cP 138 c138:=⟨by omega,s138,by kernel_rfl,fun q x k=>by kernel_rfl⟩
theorem h139:gP 139 g139:=fun q=>by kernel_rfl
theorem k139:sP 139 s139:=⟨by omega,fun q x=>by kernel_rfl⟩
theorem j139:cP 139 c139:=⟨by omega,s139,by kernel_rfl,fun q x k=>by kernel_rfl⟩
theorem h140:gP 140 g140:=fun q=>by kernel_rfl
theorem k140:sP 140 s140:=⟨by omega,fun q x=>by kernel_rfl⟩
theorem j140:cP 140 c140:=⟨by omega,s140,by kernel_rfl,fun q x k=>by kernel_rfl⟩
theorem h141:gP 141 g141:=fun q=>by kernel_rfl
theorem k141:sP 141 s141:=⟨by omega,fun q x=>by kernel_rfl⟩
theorem j141:cP 141 c141:=⟨by omega,s141,by kernel_rfl,fun q x k=>by kernel_rfl⟩
theorem h142:gP 142 g142:=fun q=>by kernel_rfl
theorem k142:sP 142 s142:=⟨by omega,fun q x=>by kernel_rfl⟩
theorem j142:cP 142 c142:=⟨by omega,s142,by kernel_rfl,fun q x k=>by kernel_rfl⟩
theorem h143:gP 143 g143:=fun q=>by kernel_rfl
theorem k143:sP 143 s143:=⟨by omega,fun q x=>by kernel_rfl⟩
theorem j143:cP 143 c143:=⟨by omega,s143,by kernel_rfl,fun q x k=>by kernel_rfl⟩
theorem h144:gP 144 g144:=fun q=>by kernel_rfl
theorem k144:sP 144 s144:=⟨by omega,fun q x=>by kernel_rfl⟩
theorem j144:cP 144 c144:=⟨by omega,s144,by kernel_rfl,fun q x k=>by kernel_rfl⟩
theorem h145:gP 145 g145:=fun q=>by kernel_rfl
theorem k145:sP 145 s145:=⟨by omega,fun q x=>by kernel_rfl⟩
theorem j145:cP 145 c145:=⟨by omega,s145,by kernel_rfl,fun q x k=>by kernel_rfl⟩
theorem h146:gP 146 g146:=fun q=>by kernel_rfl
theorem k146:sP 146 s146:=⟨by omega,fun q x=>by kernel_rfl⟩
theorem j146:cP 146 c146:=⟨by omega,s146,by kernel_rfl,fun q x k=>by kernel_rfl⟩
theorem h147:gP 147 g147:=fun q=>by kernel_rfl
theorem k147:sP 147 s147:=⟨by omega,fun q x=>by kernel_rfl⟩
theorem j147:cP 147 c147:=⟨by omega,s147,by kernel_rfl,fun q x k=>by kernel_rfl⟩
theorem h148:gP 148 g148:=fun q=>by kernel_rfl
theorem k148:sP 148 s148:=⟨by omega,fun q x=>by kernel_rfl⟩
theorem j148:cP 148 c148:=⟨by omega,s148,by kernel_rfl,fun q x k=>by kernel_rfl⟩
theorem h149:gP 149 g149:=fun q=>by kernel_rfl
theorem k149:sP 149 s149:=⟨by omega,fun q x=>by kernel_rfl⟩
theorem j149:cP 149 c149:=⟨by omega,s149,by kernel_rfl,fun q x k=>by kernel_rfl⟩
theorem h150:gP 150 g150:=fun q=>by kernel_rfl
theorem k150:sP 150 s150:=⟨by omega,fun q x=>by kernel_rfl⟩
theorem j150:cP 150 c150:=⟨by omega,s150,by kernel_rfl,fun q x k=>by kernel_rfl⟩
theorem h151:gP 151 g151:=fun q=>by kernel_rfl
theorem k151:sP 151 s151:=⟨by omega,fun q x=>by kernel_rfl⟩
theorem j151:cP 151 c151:=⟨by omega,s151,by kernel_rfl,fun q x k=>by kernel_rfl⟩
theorem h152:gP 152 g152:=fun q=>by kernel_rfl
theorem k152:sP 152 s152:=⟨by omega,fun q x=>by kernel_rfl⟩
theorem j152:cP 152 c152:=⟨by omega,s152,by kernel_rfl,fun q x k=>by kernel_rfl⟩
theorem h153:gP 153 g153:=fun q=>by kernel_rfl
theorem k153:sP 153 s153:=⟨by omega,fun q x=>by kernel_rfl⟩
theorem j153:cP 153 c153:=⟨by omega,s153,by kernel_rfl,fun q x k=>by kernel_rfl⟩
theorem h154:gP 154 g154:=fun q=>by kernel_rfl
theorem k154:sP 154 s154:=⟨by omega,fun q x=>by kernel_rfl⟩
theorem j154:cP 154 c154:=⟨by omega,s154,by kernel_rfl,fun q x k=>by kernel_rfl⟩
theorem h155:gP 155 g155:=fun q=>by kernel_rfl
theorem k155:sP 155 s155:=⟨by omega,fun q x=>by kernel_rfl⟩
theorem j155:cP 155 c155:=⟨by omega,s155,by kernel_rfl,fun q x k=>by kernel_rfl⟩
theorem h156:gP 156 g156:=fun q=>by kernel_rfl
theorem k156:sP 156 s156:=⟨by omega,fun q x=>by kernel_rfl⟩
theorem j156:cP 156 c156:=⟨by omega,s156,by kernel_rfl,fun q x k=>by kernel_rfl⟩
theorem h157:gP 157 g157:=fun q=>by kernel_rfl
theorem k157:sP 157 s157:=⟨by omega,fun q x=>by kernel_rfl⟩
theorem j157:cP 157 c157:=⟨by omega,s157,by kernel_rfl,fun q x k=>by kernel_rfl⟩
theorem h158:gP 158 g158:=fun q=>by kernel_rfl
theorem k158:sP 158 s158:=⟨by omega,fun q x=>by kernel_rfl⟩
theorem j158:cP 158 c158:=⟨by omega,s158,by kernel_rfl,fun q x k=>by kernel_rfl⟩
theorem h159:gP 159 g159:=fun q=>by kernel_rfl
theorem k159:sP 159 s159:=⟨by omega,fun q x=>by kernel_rfl⟩
theorem j159:cP 159 c159:=⟨by omega,s159,by kernel_rfl,fun q x k=>by kernel_rfl⟩
theorem h160:gP 160 g160:=fun q=>by kernel_rfl
theorem k160:sP 160 s160:=⟨by omega,fun q x=>by kernel_rfl⟩
theorem j160:cP 160 c160:=⟨by omega,s160,by kernel_rfl,fun q x k=>by kernel_rfl⟩
theorem h161:gP 161 g161:=fun q=>by kernel_rfl
theorem k161:sP 161 s161:=⟨by omega,fun q x=>by kernel_rfl⟩
theorem j161:cP 161 c161:=⟨by omega,s161,by kernel_rfl,fun q x k=>by kernel_rfl⟩
theorem h162:gP 162 g162:=fun q=>by kernel_rfl
theorem k162:sP 162 s162:=⟨by omega,fun q x=>by kernel_rfl⟩
theorem j162:cP 162 c162:=⟨by omega,s162,by kernel_rfl,fun q x k=>by kernel_rfl⟩
theorem h163:gP 163 g163:=fun q=>by kernel_rfl
theorem k163:sP 163 s163:=⟨by omega,fun q x=>by kernel_rfl⟩
theorem j163:cP 163 c163:=⟨by omega,s163,by kernel_rfl,fun q x k=>by kernel_rfl⟩
theorem h164:gP 164 g164:=fun q=>by kernel_rfl
theorem k164:sP 164 s164:=⟨by omega,fun q x=>by kernel_rfl⟩
theorem j164:cP 164 c164:=⟨by omega,s164,by kernel_rfl,fun q x k=>by kernel_rfl⟩
theorem h165:gP 165 g165:=fun q=>by kernel_rfl
theorem k165:sP 165 s165:=⟨by omega,fun q x=>by kernel_rfl⟩
theorem j165:cP 165 c165:=⟨by omega,s165,by kernel_rfl,fun q x k=>by kernel_rfl⟩
theorem h166:gP 166 g166:=fun q=>by kernel_rfl
theorem k166:sP 166 s166:=⟨by omega,fun q x=>by kernel_rfl⟩
theorem j166:cP 166 c166:=⟨by omega,s166,by kernel_rfl,fun q x k=>by kernel_rfl⟩
theorem h167:gP 167 g167:=fun q=>by kernel_rfl
theorem k167:sP 167 s167:=⟨by omega,fun q x=>by kernel_rfl⟩
theorem j167:cP 167 c167:=⟨by omega,s167,by kernel_rfl,fun q x k=>by kernel_rfl⟩
theorem h168:gP 168 g168:=fun q=>by kernel_rfl
theorem k168:sP 168 s168:=⟨by omega,fun q x=>by kernel_rfl⟩
theorem j168:cP 168 c168:=⟨by omega,s168,by kernel_rfl,fun q x k=>by kernel_rfl⟩
theorem h169:gP 169 g169:=fun q=>by kernel_rfl
theorem k169:sP 169 s169:=⟨by omega,fun q x=>by kernel_rfl⟩
theorem j169:cP 169 c169:=⟨by omega,s169,by kernel_rfl,fun q x k=>by kernel_rfl⟩
theorem h170:gP 170 g170:=fun q=>by kernel_rfl
theorem k170:sP 170 s170:=⟨by omega,fun q x=>by kernel_rfl⟩
theorem j170:cP 170 c170:=⟨by omega,s170,by kernel_rfl,fun q x k=>by kernel_rfl⟩
theorem h171:gP 171 g171:=fun q=>by kernel_rfl
theorem k171:sP 171 s171:=⟨by omega,fun q x=>by kernel_rfl⟩
theorem j171:cP 171 c171:=⟨by omega,s171,by kernel_rfl,fun q x k=>by kernel_rfl⟩
theorem h172:gP 172 g172:=fun q=>by kernel_rfl
theorem k172:sP 172 s172:=⟨by omega,fun q x=>by kernel_rfl⟩
theorem j172:cP 172 c172:=⟨by omega,s172,by kernel_rfl,fun q x k=>by kernel_rfl⟩
theorem h173:gP 173 g173:=fun q=>by kernel_rfl
theorem k173:sP 173 s173:=⟨by omega,fun q x=>by kernel_rfl⟩
theorem j173:cP 173 c173:=⟨by omega,s173,by kernel_rfl,fun q x k=>by kernel_rfl⟩
theorem h174:gP 174 g174:=fun q=>by kernel_rfl
theorem k174:sP 174 s174:=⟨by omega,fun q x=>by kernel_rfl⟩
theorem j174:cP 174 c174:=⟨by omega,s174,by kernel_rfl,fun q x k=>by kernel_rfl⟩
theorem h175:gP 175 g175:=fun q=>by kernel_rfl
theorem k175:sP 175 s175:=⟨by omega,fun q x=>by kernel_rfl⟩
theorem j175:cP 175 c175:=⟨by omega,s175,by kernel_rfl,fun q x k=>by kernel_rfl⟩
theorem h176:gP 176 g176:=fun q=>by kernel_rfl
theorem k176:sP 176 s176:=⟨by omega,fun q x=>by kernel_rfl⟩
theorem j176:cP 176 c176:=⟨by omega,s176,by kernel_rfl,fun q x k=>by kernel_rfl⟩
theorem h177:gP 177 g177:=fun q=>by kernel_rfl
theorem k177:sP 177 s177:=⟨by omega,fun q x=>by kernel_rfl⟩
theorem j177:cP 177 c177:=⟨by omega,s177,by kernel_rfl,fun q x k=>by kernel_rfl⟩
theorem h178:gP 178 g178:=fun q=>by kernel_rfl
theorem k178:sP 178 s178:=⟨by omega,fun q x=>by kernel_rfl⟩
theorem j178:cP 178 c178:=⟨by omega,s178,by kernel_rfl,fun q x k=>by kernel_rfl⟩
theorem h179:gP 179 g179:=fun q=>by kernel_rfl
theorem k179:sP 179 s179:=⟨by omega,fun q x=>by kernel_rfl⟩
theorem j179:cP 179 c179:=⟨by omega,s179,by kernel_rfl,fun q x k=>by kernel_rfl⟩
theorem h180:gP 180 g180:=fun q=>by kernel_rfl
theorem k180:sP 180 s180:=⟨by omega,fun q x=>by kernel_rfl⟩
theorem j180:cP 180 c180:=⟨by omega,s180,by kernel_rfl,fun q x k=>by kernel_rfl⟩
theorem h181:gP 181 g181:=fun q=>by kernel_rfl
theorem k181:sP 181 s181:=⟨by omega,fun q x=>by kernel_rfl⟩
theorem j181:cP 181 c181:=⟨by omega,s181,by kernel_rfl,fun q x k=>by kernel_rfl⟩
theorem h182:gP 182 g182:=fun q=>by kernel_rfl
theorem k182:sP 182 s182:=⟨by omega,fun q x=>by kernel_rfl⟩
theorem j182:cP 182 c182:=⟨by omega,s182,by kernel_rfl,fun q x k=>by kernel_rfl⟩
theorem h183:gP 183 g183:=fun q=>by kernel_rfl
theorem k183:sP 183 s183:=⟨by omega,fun q x=>by kernel_rfl⟩
theorem j183:cP 183 c183:=⟨by omega,s183,by kernel_rfl,fun q x k=>by kernel_rfl⟩
theorem h184:gP 184 g184:=fun q=>by kernel_rfl
theorem k184:sP 184 s184:=⟨by omega,fun q x=>by kernel_rfl⟩
theorem j184:cP 184 c184:=⟨by omega,s184,by kernel_rfl,fun q x k=>by kernel_rfl⟩
theorem h185:gP 185 g185:=fun q=>by kernel_rfl
theorem k185:sP 185 s185:=⟨by omega,fun q x=>by kernel_rfl⟩
theorem j185:cP 185 c185:=⟨by omega,s185,by kernel_rfl,fun q x k=>by kernel_rfl⟩
theorem h186:gP 186 g186:=fun q=>by kernel_rfl
theorem k186:sP 186 s186:=⟨by omega,fun q x=>by kernel_rfl⟩
theorem j186:cP 186 c186:=⟨by omega,s186,by kernel_rfl,fun q x k=>by kernel_rfl⟩
theorem h187:gP 187 g187:=fun q=>by kernel_rfl
theorem k187:sP 187 s187:=⟨by omega,fun q x=>by kernel_rfl⟩
theorem j187:cP 187 c187:=⟨by omega,s187,by kernel_rfl,fun q x k=>by kernel_rfl⟩
theorem h188:gP 188 g188:=fun q=>by kernel_rfl
theorem k188:sP 188 s188:=⟨by omega,fun q x=>by kernel_rfl⟩
theorem j188:cP 188 c188:=⟨by omega,s188,by kernel_rfl,fun q x k=>by kernel_rfl⟩
theorem h189:gP 189 g189:=fun q=>by kernel_rfl
theorem k189:sP 189 s189:=⟨by omega,fun q x=>by kernel_rfl⟩
theorem j189:cP 189 c189:=⟨by omega,s189,by kernel_rfl,fun q x k=>by kernel_rfl⟩
theorem h190:gP 190 g190:=fun q=>by kernel_rfl
theorem k190:sP 190 s190:=⟨by omega,fun q x=>by kernel_rfl⟩
theorem j190:cP 190 c190:=⟨by omega,s190,by kernel_rfl,fun q x k=>by kernel_rfl⟩
theorem h191:gP 191 g191:=fun q=>by kernel_rfl
theorem k191:sP 191 s191:=⟨by omega,fun q x=>by kernel_rfl⟩
theorem j191:cP 191 c191:=⟨by omega,s191,by kernel_rfl,fun q x k=>by kernel_rfl⟩
theorem h192:gP 192 g192:=fun q=>by kernel_rfl
theorem k192:sP 192 s192:=⟨by omega,fun q x=>by kernel_rfl⟩
theorem j192:cP 192 c192:=⟨by omega,s192,by kernel_rfl,fun q x k=>by kernel_rfl⟩
theorem h193:gP 193 g193:=fun q=>by kernel_rfl
theorem k193:sP 193 s193:=⟨by omega,fun q x=>by kernel_rfl⟩
theorem j193:cP 193 c193:=⟨by omega,s193,by kernel_rfl,fun q x k=>by kernel_rfl⟩
theorem h194:gP 194 g194:=fun q=>by kernel_rfl
theorem k194:sP 194 s194:=⟨by omega,fun q x=>by kernel_rfl⟩
theorem j194:cP 194 c194:=⟨by omega,s194,by kernel_rfl,fun q x k=>by kernel_rfl⟩
theorem h195:gP 195 g195:=fun q=>by kernel_rfl
theorem k195:sP 195 s195:=⟨by omega,fun q x=>by kernel_rfl⟩
theorem j195:cP 195 c195:=⟨by omega,s195,by kernel_rfl,fun q x k=>by kernel_rfl⟩
theorem h196:gP 196 g196:=fun q=>by kernel_rfl
theorem k196:sP 196 s196:=⟨by omega,fun q x=>by kernel_rfl⟩
theorem j196:cP 196 c196:=⟨by omega,s196,by kernel_rfl,fun q x k=>by kernel_rfl⟩
theorem h197:gP 197 g197:=fun q=>by kernel_rfl
theorem k197:sP 197 s197:=⟨by omega,fun q x=>by kernel_rfl⟩
theorem j197:cP 197 c197:=⟨by omega,s197,by kernel_rfl,fun q x k=>by kernel_rfl⟩
theorem h198:gP 198 g198:=fun q=>by kernel_rfl
theorem k198:sP 198 s198:=⟨by omega,fun q x=>by kernel_rfl⟩
theorem j198:cP 198 c198:=⟨by omega,s198,by kernel_rfl,fun q x k=>by kernel_rfl⟩
theorem h199:gP 199 g199:=fun q=>by kernel_rfl
theorem k199:sP 199 s199:=⟨by omega,fun q x=>by kernel_rfl⟩
theorem j199:cP 199 c199:=⟨by omega,s199,by kernel_rfl,fun q x k=>by kernel_rfl⟩
theorem h200:gP 200 g200:=fun q=>by kernel_rfl
theorem k200:sP 200 s200:=⟨by omega,fun q x=>by kernel_rfl⟩
theorem j200:cP 200 c200:=⟨by omega,s200,by kernel_rfl,fun q x k=>by kernel_rfl⟩
theorem h201:gP 201 g201:=fun q=>by kernel_rfl
theorem k201:sP 201 s201:=⟨by omega,fun q x=>by kernel_rfl⟩
theorem j201:cP 201 c201:=⟨by omega,s201,by kernel_rfl,fun q x k=>by kernel_rfl⟩
theorem h202:gP 202 g202:=fun q=>by kernel_rfl
theorem k202:sP 202 s202:=⟨by omega,fun q x=>by kernel_rfl⟩
theorem j202:cP 202 c202:=⟨by omega,s202,by kernel_rfl,fun q x k=>by kernel_rfl⟩
theorem h203:gP 203 g203:=fun q=>by kernel_rfl
theorem k203:sP 203 s203:=⟨by omega,fun q x=>by kernel_rfl⟩
theorem j203:cP 203 c203:=⟨by omega,s203,by kernel_rfl,fun q x k=>by kernel_rfl⟩
theorem h204:gP 204 g204:=fun q=>by kernel_rfl
theorem k204:sP 204 s204:=⟨by omega,fun q x=>by kernel_rfl⟩
theorem j204:cP 204 c204:=⟨by omega,s204,by kernel_rfl,fun q x k=>by kernel_rfl⟩
theorem h205:gP 205 g205:=fun q=>by kernel_rfl
theorem k205:sP 205 s205:=⟨by omega,fun q x=>by kernel_rfl⟩
theorem j205:cP 205 c205:=⟨by omega,s205,by kernel_rfl,fun q x k=>by kernel_rfl⟩
theorem h206:gP 206 g206:=fun q=>by kernel_rfl
theorem k206:sP 206 s206:=⟨by omega,fun q x=>by kernel_rfl⟩
theorem j206:cP 206 c206:=⟨by omega,s206,by kernel_rfl,fun q x k=>by kernel_rfl⟩
theorem h207:gP 207 g207:=fun q=>by kernel_rfl
theorem k207:sP 207 s207:=⟨by omega,fun q x=>by kernel_rfl⟩
theorem j207:cP 207 c207:=⟨by omega,s207,by kernel_rfl,fun q x k=>by kernel_rfl⟩
theorem h208:gP 208 g208:=fun q=>by kernel_rfl
theorem k208:sP 208 s208:=⟨by omega,fun q x=>by kernel_rfl⟩
theorem j208:cP 208 c208:=⟨by omega,s208,by kernel_rfl,fun q x k=>by kernel_rfl⟩
theorem h209:gP 209 g209:=fun q=>by kernel_rfl
theorem k209:sP 209 s209:=⟨by omega,fun q x=>by kernel_rfl⟩
theorem j209:cP 209 c209:=⟨by omega,s209,by kernel_rfl,fun q x k=>by kernel_rfl⟩
theorem h210:gP 210 g210:=fun q=>by kernel_rfl
theorem k210:sP 210 s210:=⟨by omega,fun q x=>by kernel_rfl⟩
theorem j210:cP 210 c210:=⟨by omega,s210,by kernel_rfl,fun q x k=>by kernel_rfl⟩
theorem h211:gP 211 g211:=fun q=>by kernel_rfl
theorem k211:sP 211 s211:=⟨by omega,fun q x=>by kernel_rfl⟩
theorem j211:cP 211 c211:=⟨by omega,s211,by kernel_rfl,fun q x k=>by kernel_rfl⟩
theorem h212:gP 212 g212:=fun q=>by kernel_rfl
theorem k212:sP 212 s212:=⟨by omega,fun q x=>by kernel_rfl⟩
theorem j212:cP 212 c212:=⟨by omega,s212,by kernel_rfl,fun q x k=>by kernel_rfl⟩
theorem h213:gP 213 g213:=fun q=>by kernel_rfl
theorem k213:sP 213 s213:=⟨by omega,fun q x=>by kernel_rfl⟩
theorem j213:cP 213 c213:=⟨by omega,s213,by kernel_rfl,fun q x k=>by kernel_rfl⟩
theorem h214:gP 214 g214:=fun q=>by kernel_rfl
theorem k214:sP 214 s214:=⟨by omega,fun q x=>by kernel_rfl⟩
theorem j214:cP 214 c214:=⟨by omega,s214,by kernel_rfl,fun q x k=>by kernel_rfl⟩
theorem h215:gP 215 g215:=fun q=>by kernel_rfl
theorem k215:sP 215 s215:=⟨by omega,fun q x=>by kernel_rfl⟩
theorem j215:cP 215 c215:=⟨by omega,s215,by kernel_rfl,fun q x k=>by kernel_rfl⟩
theorem h216:gP 216 g216:=fun q=>by kernel_rfl
theorem k216:sP 216 s216:=⟨by omega,fun q x=>by kernel_rfl⟩
theorem j216:cP 216 c216:=⟨by omega,s216,by kernel_rfl,fun q x k=>by kernel_rfl⟩
theorem h217:gP 217 g217:=fun q=>by kernel_rfl
theorem k217:sP 217 s217:=⟨by omega,fun q x=>by kernel_rfl⟩
theorem j217:cP 217 c217:=⟨by omega,s217,by kernel_rfl,fun q x k=>by kernel_rfl⟩
theorem h218:gP 218 g218:=fun q=>by kernel_rfl
theorem k218:sP 218 s218:=⟨by omega,fun q x=>by kernel_rfl⟩
theorem j218:cP 218 c218:=⟨by omega,s218,by kernel_rfl,fun q x k=>by kernel_rfl⟩
theorem h219:gP 219 g219:=fun q=>by kernel_rfl
theorem k219:sP 219 s219:=⟨by omega,fun q x=>by kernel_rfl⟩
theorem j219:cP 219 c219:=⟨by omega,s219,by kernel_rfl,fun q x k=>by kernel_rfl⟩
theorem h220:gP 220 g220:=fun q=>by kernel_rfl
theorem k220:sP 220 s220:=⟨by omega,fun q x=>by kernel_rfl⟩
theorem j220:cP 220 c220:=⟨by omega,s220,by kernel_rfl,fun q x k=>by kernel_rfl⟩
theorem h221:gP 221 g221:=fun q=>by kernel_rfl
theorem k221:sP 221 s221:=⟨by omega,fun q x=>by kernel_rfl⟩
theorem j221:cP 221 c221:=⟨by omega,s221,by kernel_rfl,fun q x k=>by kernel_rfl⟩
theorem h222:gP 222 g222:=fun q=>by kernel_rfl
theorem k222:sP 222 s222:=⟨by omega,fun q x=>by kernel_rfl⟩
theorem j222:cP 222 c222:=⟨by omega,s222,by kernel_rfl,fun q x k=>by kernel_rfl⟩
theorem h223:gP 223 g223:=fun q=>by kernel_rfl
theorem k223:sP 223 s223:=⟨by omega,fun q x=>by kernel_rfl⟩
theorem j223:cP 223 c223:=⟨by omega,s223,by kernel_rfl,fun q x k=>by kernel_rfl⟩
theorem h224:gP 224 g224:=fun q=>by kernel_rfl
theorem k224:sP 224 s224:=⟨by omega,fun q x=>by kernel_rfl⟩
theorem j224:cP 224 c224:=⟨by omega,s224,by kernel_rfl,fun q x k=>by kernel_rfl⟩
theorem h225:gP 225 g225:=fun q=>by kernel_rfl
theorem k225:sP 225 s225:=⟨by omega,fun q x=>by kernel_rfl⟩
theorem j225:cP 225 c225:=⟨by omega,s225,by kernel_rfl,fun q x k=>by kernel_rfl⟩
theorem h226:gP 226 g226:=fun q=>by kernel_rfl
theorem k226:sP 226 s226:=⟨by omega,fun q x=>by kernel_rfl⟩
theorem j226:cP 226 c226:=⟨by omega,s226,by kernel_rfl,fun q x k=>by kernel_rfl⟩
theorem h227:gP 227 g227:=fun q=>by kernel_rfl
theorem k227:sP 227 s227:=⟨by omega,fun q x=>by kernel_rfl⟩
theorem j227:cP 227 c227:=⟨by omega,s227,by kernel_rfl,fun q x k=>by kernel_rfl⟩
theorem h228:gP 228 g228:=fun q=>by kernel_rfl
theorem k228:sP 228 s228:=⟨by omega,fun q x=>by kernel_rfl⟩
theorem j228:cP 228 c228:=⟨by omega,s228,by kernel_rfl,fun q x k=>by kernel_rfl⟩
theorem h229:gP 229 g229:=fun q=>by kernel_rfl
theorem k229:sP 229 s229:=⟨by omega,fun q x=>by kernel_rfl⟩
theorem j229:cP 229 c229:=⟨by omega,s229,by kernel_rfl,fun q x k=>by kernel_rfl⟩
theorem h230:gP 230 g230:=fun q=>by kernel_rfl
theorem k230:sP 230 s230:=⟨by omega,fun q x=>by kernel_rfl⟩
theorem j230:cP 230 c230:=⟨by omega,s230,by kernel_rfl,fun q x k=>by kernel_rfl⟩
theorem h231:gP 231 g231:=fun q=>by kernel_rfl
theorem k231:sP 231 s231:=⟨by omega,fun q x=>by kernel_rfl⟩
theorem j231:cP 231 c231:=⟨by omega,s231,by kernel_rfl,fun q x k=>by kernel_rfl⟩
theorem h232:gP 232 g232:=fun q=>by kernel_rfl
theorem k232:sP 232 s232:=⟨by omega,fun q x=>by kernel_rfl⟩
theorem j232:cP 232 c232:=⟨by omega,s232,by kernel_rfl,fun q x k=>by kernel_rfl⟩
theorem h233:gP 233 g233:=fun q=>by kernel_rfl
theorem k233:sP 233 s233:=⟨by omega,fun q x=>by kernel_rfl⟩
theorem j233:cP 233 c233:=⟨by omega,s233,by kernel_rfl,fun q x k=>by kernel_rfl⟩
theorem h234:gP 234 g234:=fun q=>by kernel_rfl
theorem k234:sP 234 s234:=⟨by omega,fun q x=>by kernel_rfl⟩
theorem j234:cP 234 c234:=⟨by omega,s234,by kernel_rfl,fun q x k=>by kernel_rfl⟩
theorem h235:gP 235 g235:=fun q=>by kernel_rfl
theorem k235:sP 235 s235:=⟨by omega,fun q x=>by kernel_rfl⟩
theorem j235:cP 235 c235:=⟨by omega,s235,by kernel_rfl,fun q x k=>by kernel_rfl⟩
theorem h236:gP 236 g236:=fun q=>by kernel_rfl
theorem k236:sP 236 s236:=⟨by omega,fun q x=>by kernel_rfl⟩
theorem j236:cP 236 c236:=⟨by omega,s236,by kernel_rfl,fun q x k=>by kernel_rfl⟩
theorem h237:gP 237 g237:=fun q=>by kernel_rfl
theorem k237:sP 237 s237:=⟨by omega,fun q x=>by kernel_rfl⟩
theorem j237:cP 237 c237:=⟨by omega,s237,by kernel_rfl,fun q x k=>by kernel_rfl⟩
theorem h238:gP 238 g238:=fun q=>by kernel_rfl
theorem k238:sP 238 s238:=⟨by omega,fun q x=>by kernel_rfl⟩
theorem j238:cP 238 c238:=⟨by omega,s238,by kernel_rfl,fun q x k=>by kernel_rfl⟩
theorem h239:gP 239 g239:=fun q=>by kernel_rfl
theorem k239:sP 239 s239:=⟨by omega,fun q x=>by kernel_rfl⟩
theorem j239:cP 239 c239:=⟨by omega,s239,by kernel_rfl,fun q x k=>by kernel_rfl⟩
theorem h240:gP 240 g240:=fun q=>by kernel_rfl
theorem k240:sP 240 s240:=⟨by omega,fun q x=>by kernel_rfl⟩
theorem j240:cP 240 c240:=⟨by omega,s240,by kernel_rfl,fun q x k=>by kernel_rfl⟩
theorem h241:gP 241 g241:=fun q=>by kernel_rfl
theorem k241:sP 241 s241:=⟨by omega,fun q x=>by kernel_rfl⟩
theorem j241:cP 241 c241:=⟨by omega,s241,by kernel_rfl,fun q x k=>by kernel_rfl⟩
theorem h242:gP 242 g242:=fun q=>by kernel_rfl
theorem k242:sP 242 s242:=⟨by omega,fun q x=>by kernel_rfl⟩
theorem j242:cP 242 c242:=⟨by omega,s242,by kernel_rfl,fun q x k=>by kernel_rfl⟩
theorem h243:gP 243 g243:=fun q=>by kernel_rfl
theorem k243:sP 243 s243:=⟨by omega,fun q x=>by kernel_rfl⟩
theorem j243:cP 243 c243:=⟨by omega,s243,by kernel_rfl,fun q x k=>by kernel_rfl⟩
theorem h244:gP 244 g244:=fun q=>by kernel_rfl
theorem k244:sP 244 s244:=⟨by omega,fun q x=>by kernel_rfl⟩
theorem j244:cP 244 c244:=⟨by omega,s244,by kernel_rfl,fun q x k=>by kernel_rfl⟩
theorem h245:gP 245 g245:=fun q=>by kernel_rfl
theorem k245:sP 245 s245:=⟨by omega,fun q x=>by kernel_rfl⟩
theorem j245:cP 245 c245:=⟨by omega,s245,by kernel_rfl,fun q x k=>by kernel_rfl⟩
theorem h246:gP 246 g246:=fun q=>by kernel_rfl
theorem k246:sP 246 s246:=⟨by omega,fun q x=>by kernel_rfl⟩
theorem j246:cP 246 c246:=⟨by omega,s246,by kernel_rfl,fun q x k=>by kernel_rfl⟩
theorem h247:gP 247 g247:=fun q=>by kernel_rfl
theorem k247:sP 247 s247:=⟨by omega,fun q x=>by kernel_rfl⟩
theorem j247:cP 247 c247:=⟨by omega,s247,by kernel_rfl,fun q x k=>by kernel_rfl⟩
theorem h248:gP 248 g248:=fun q=>by kernel_rfl
theorem k248:sP 248 s248:=⟨by omega,fun q x=>by kernel_rfl⟩
theorem j248:cP 248 c248:=⟨by omega,s248,by kernel_rfl,fun q x k=>by kernel_rfl⟩
theorem h249:gP 249 g249:=fun q=>by kernel_rfl
theorem k249:sP 249 s249:=⟨by omega,fun q x=>by kernel_rfl⟩
theorem j249:cP 249 c249:=⟨by omega,s249,by kernel_rfl,fun q x k=>by kernel_rfl⟩
theorem h250:gP 250 g250:=fun q=>by kernel_rfl
theorem k250:sP 250 s250:=⟨by omega,fun q x=>by kernel_rfl⟩
theorem j250:cP 250 c250:=⟨by omega,s250,by kernel_rfl,fun q x k=>by kernel_rfl⟩
theorem h251:gP 251 g251:=fun q=>by kernel_rfl
theorem k251:sP 251 s251:=⟨by omega,fun q x=>by kernel_rfl⟩
theorem j251:cP 251 c251:=⟨by omega,s251,by kernel_rfl,fun q x k=>by kernel_rfl⟩
theorem h252:gP 252 g252:=fun q=>by kernel_rfl
theorem k252:sP 252 s252:=⟨by omega,fun q x=>by kernel_rfl⟩
theorem j252:cP 252 c252:=⟨by omega,s252,by kernel_rfl,fun q x k=>by kernel_rfl⟩
theorem h253:gP 253 g253:=fun q=>by kernel_rfl
theorem k253:sP 253 s253:=⟨by omega,fun q x=>by kernel_rfl⟩
theorem j253:cP 253 c253:=⟨by omega,s253,by kernel_rfl,fun q x k=>by kernel_rfl⟩
theorem h254:gP 254 g254:=fun q=>by kernel_rfl
theorem k254:sP 254 s254:=⟨by omega,fun q x=>by kernel_rfl⟩
theorem j254:cP 254 c254:=⟨by omega,s254,by kernel_rfl,fun q x k=>by kernel_rfl⟩
theorem h255:gP 255 g255:=fun q=>by kernel_rfl
theorem k255:sP 255 s255:=⟨by omega,fun q x=>by kernel_rfl⟩
theorem j255:cP 255 c255:=⟨by omega,s255,by kernel_rfl,fun q x k=>by kernel_rfl⟩
theorem gT_ok:gT.All gP:=⟨h128,⟨h64,⟨h32,⟨h16,⟨h8,⟨h4,⟨h2,⟨h1,⟨h0,trivial,trivial⟩,trivial⟩,⟨h3,trivial,trivial⟩⟩,⟨h6,⟨h5,trivial,trivial⟩,⟨h7,trivial,trivial⟩⟩⟩,⟨h12,⟨h10,⟨h9,trivial,trivial⟩,⟨h11,trivial,trivial⟩⟩,⟨h14,⟨h13,trivial,trivial⟩,⟨h15,trivial,trivial⟩⟩⟩⟩,⟨h24,⟨h20,⟨h18,⟨h17,trivial,trivial⟩,⟨h19,trivial,trivial⟩⟩,⟨h22,⟨h21,trivial,trivial⟩,⟨h23,trivial,trivial⟩⟩⟩,⟨h28,⟨h26,⟨h25,trivial,trivial⟩,⟨h27,trivial,trivial⟩⟩,⟨h30,⟨h29,trivial,trivial⟩,⟨h31,trivial,trivial⟩⟩⟩⟩⟩,⟨h48,⟨h40,⟨h36,⟨h34,⟨h33,trivial,trivial⟩,⟨h35,trivial,trivial⟩⟩,⟨h38,⟨h37,trivial,trivial⟩,⟨h39,trivial,trivial⟩⟩⟩,⟨h44,⟨h42,⟨h41,trivial,trivial⟩,⟨h43,trivial,trivial⟩⟩,⟨h46,⟨h45,trivial,trivial⟩,⟨h47,trivial,trivial⟩⟩⟩⟩,⟨h56,⟨h52,⟨h50,⟨h49,trivial,trivial⟩,⟨h51,trivial,trivial⟩⟩,⟨h54,⟨h53,trivial,trivial⟩,⟨h55,trivial,trivial⟩⟩⟩,⟨h60,⟨h58,⟨h57,trivial,trivial⟩,⟨h59,trivial,trivial⟩⟩,⟨h62,⟨h61,trivial,trivial⟩,⟨h63,trivial,trivial⟩⟩⟩⟩⟩⟩,⟨h96,⟨h80,⟨h72,⟨h68,⟨h66,⟨h65,trivial,trivial⟩,⟨h67,trivial,trivial⟩⟩,⟨h70,⟨h69,trivial,trivial⟩,⟨h71,trivial,trivial⟩⟩⟩,⟨h76,⟨h74,⟨h73,trivial,trivial⟩,⟨h75,trivial,trivial⟩⟩,⟨h78,⟨h77,trivial,trivial⟩,⟨h79,trivial,trivial⟩⟩⟩⟩,⟨h88,⟨h84,⟨h82,⟨h81,trivial,trivial⟩,⟨h83,trivial,trivial⟩⟩,⟨h86,⟨h85,trivial,trivial⟩,⟨h87,trivial,trivial⟩⟩⟩,⟨h92,⟨h90,⟨h89,trivial,trivial⟩,⟨h91,trivial,trivial⟩⟩,⟨h94,⟨h93,trivial,trivial⟩,⟨h95,trivial,trivial⟩⟩⟩⟩⟩,⟨h112,⟨h104,⟨h100,⟨h98,⟨h97,trivial,trivial⟩,⟨h99,trivial,trivial⟩⟩,⟨h102,⟨h101,trivial,trivial⟩,⟨h103,trivial,trivial⟩⟩⟩,⟨h108,⟨h106,⟨h105,trivial,trivial⟩,⟨h107,trivial,trivial⟩⟩,⟨h110,⟨h109,trivial,trivial⟩,⟨h111,trivial,trivial⟩⟩⟩⟩,⟨h120,⟨h116,⟨h114,⟨h113,trivial,trivial⟩,⟨h115,trivial,trivial⟩⟩,⟨h118,⟨h117,trivial,trivial⟩,⟨h119,trivial,trivial⟩⟩⟩,⟨h124,⟨h122,⟨h121,trivial,trivial⟩,⟨h123,trivial,trivial⟩⟩,⟨h126,⟨h125,trivial,trivial⟩,⟨h127,trivial,trivial⟩⟩⟩⟩⟩⟩⟩,⟨h192,⟨h160,⟨h144,⟨h136,⟨h132,⟨h130,⟨h129,trivial,trivial⟩,⟨h131,trivial,trivial⟩⟩,⟨h134,⟨h133,trivial,trivial⟩,⟨h135,trivial,trivial⟩⟩⟩,⟨h140,⟨h138,⟨h137,trivial,trivial⟩,⟨h139,trivial,trivial⟩⟩,⟨h142,⟨h141,trivial,trivial⟩,⟨h143,trivial,trivial⟩⟩⟩⟩,⟨h152,⟨h148,⟨h146,⟨h145,trivial,trivial⟩,⟨h147,trivial,trivial⟩⟩,⟨h150,⟨h149,trivial,trivial⟩,⟨h151,trivial,trivial⟩⟩⟩,⟨h156,⟨h154,⟨h153,trivial,trivial⟩,⟨h155,trivial,trivial⟩⟩,⟨h158,⟨h157,trivial,trivial⟩,⟨h159,trivial,trivial⟩⟩⟩⟩⟩,⟨h176,⟨h168,⟨h164,⟨h162,⟨h161,trivial,trivial⟩,⟨h163,trivial,trivial⟩⟩,⟨h166,⟨h165,trivial,trivial⟩,⟨h167,trivial,trivial⟩⟩⟩,⟨h172,⟨h170,⟨h169,trivial,trivial⟩,⟨h171,trivial,trivial⟩⟩,⟨h174,⟨h173,trivial,trivial⟩,⟨h175,trivial,trivial⟩⟩⟩⟩,⟨h184,⟨h180,⟨h178,⟨h177,trivial,trivial⟩,⟨h179,trivial,trivial⟩⟩,⟨h182,⟨h181,trivial,trivial⟩,⟨h183,trivial,trivial⟩⟩⟩,⟨h188,⟨h186,⟨h185,trivial,trivial⟩,⟨h187,trivial,trivial⟩⟩,⟨h190,⟨h189,trivial,trivial⟩,⟨h191,trivial,trivial⟩⟩⟩⟩⟩⟩,⟨h224,⟨h208,⟨h200,⟨h196,⟨h194,⟨h193,trivial,trivial⟩,⟨h195,trivial,trivial⟩⟩,⟨h198,⟨h197,trivial,trivial⟩,⟨h199,trivial,trivial⟩⟩⟩,⟨h204,⟨h202,⟨h201,trivial,trivial⟩,⟨h203,trivial,trivial⟩⟩,⟨h206,⟨h205,trivial,trivial⟩,⟨h207,trivial,trivial⟩⟩⟩⟩,⟨h216,⟨h212,⟨h210,⟨h209,trivial,trivial⟩,⟨h211,trivial,trivial⟩⟩,⟨h214,⟨h213,trivial,trivial⟩,⟨h215,trivial,trivial⟩⟩⟩,⟨h220,⟨h218,⟨h217,trivial,trivial⟩,⟨h219,trivial,trivial⟩⟩,⟨h222,⟨h221,trivial,trivial⟩,⟨h223,trivial,trivial⟩⟩⟩⟩⟩,⟨h240,⟨h232,⟨h228,⟨h226,⟨h225,trivial,trivial⟩,⟨h227,trivial,trivial⟩⟩,⟨h230,⟨h229,trivial,trivial⟩,⟨h231,trivial,trivial⟩⟩⟩,⟨h236,⟨h234,⟨h233,trivial,trivial⟩,⟨h235,trivial,trivial⟩⟩,⟨h238,⟨h237,trivial,trivial⟩,⟨h239,trivial,trivial⟩⟩⟩⟩,⟨h248,⟨h244,⟨h242,⟨h241,trivial,trivial⟩,⟨h243,trivial,trivial⟩⟩,⟨h246,⟨h245,trivial,trivial⟩,⟨h247,trivial,trivial⟩⟩⟩,⟨h252,⟨h250,⟨h249,trivial,trivial⟩,⟨h251,trivial,trivial⟩⟩,⟨h254,⟨h253,trivial,trivial⟩,⟨h255,trivial,trivial⟩⟩⟩⟩⟩⟩⟩⟩
theorem sT_ok:sT.All sP:=⟨k128,⟨k64,⟨k32,⟨k16,⟨k8,⟨k4,⟨k2,⟨k1,⟨k0,trivial,trivial⟩,trivial⟩,⟨k3,trivial,trivial⟩⟩,⟨k6,⟨k5,trivial,trivial⟩,⟨k7,trivial,trivial⟩⟩⟩,⟨k12,⟨k10,⟨k9,trivial,trivial⟩,⟨k11,trivial,trivial⟩⟩,⟨k14,⟨k13,trivial,trivial⟩,⟨k15,trivial,trivial⟩⟩⟩⟩,⟨k24,⟨k20,⟨k18,⟨k17,trivial,trivial⟩,⟨k19,trivial,trivial⟩⟩,⟨k22,⟨k21,trivial,trivial⟩,⟨k23,trivial,trivial⟩⟩⟩,⟨k28,⟨k26,⟨k25,trivial,trivial⟩,⟨k27,trivial,trivial⟩⟩,⟨k30,⟨k29,trivial,trivial⟩,⟨k31,trivial,trivial⟩⟩⟩⟩⟩,⟨k48,⟨k40,⟨k36,⟨k34,⟨k33,trivial,trivial⟩,⟨k35,trivial,trivial⟩⟩,⟨k38,⟨k37,trivial,trivial⟩,⟨k39,trivial,trivial⟩⟩⟩,⟨k44,⟨k42,⟨k41,trivial,trivial⟩,⟨k43,trivial,trivial⟩⟩,⟨k46,⟨k45,trivial,trivial⟩,⟨k47,trivial,trivial⟩⟩⟩⟩,⟨k56,⟨k52,⟨k50,⟨k49,trivial,trivial⟩,⟨k51,trivial,trivial⟩⟩,⟨k54,⟨k53,trivial,trivial⟩,⟨k55,trivial,trivial⟩⟩⟩,⟨k60,⟨k58,⟨k57,trivial,trivial⟩,⟨k59,trivial,trivial⟩⟩,⟨k62,⟨k61,trivial,trivial⟩,⟨k63,trivial,trivial⟩⟩⟩⟩⟩⟩,⟨k96,⟨k80,⟨k72,⟨k68,⟨k66,⟨k65,trivial,trivial⟩,⟨k67,trivial,trivial⟩⟩,⟨k70,⟨k69,trivial,trivial⟩,⟨k71,trivial,trivial⟩⟩⟩,⟨k76,⟨k74,⟨k73,trivial,trivial⟩,⟨k75,trivial,trivial⟩⟩,⟨k78,⟨k77,trivial,trivial⟩,⟨k79,trivial,trivial⟩⟩⟩⟩,⟨k88,⟨k84,⟨k82,⟨k81,trivial,trivial⟩,⟨k83,trivial,trivial⟩⟩,⟨k86,⟨k85,trivial,trivial⟩,⟨k87,trivial,trivial⟩⟩⟩,⟨k92,⟨k90,⟨k89,trivial,trivial⟩,⟨k91,trivial,trivial⟩⟩,⟨k94,⟨k93,trivial,trivial⟩,⟨k95,trivial,trivial⟩⟩⟩⟩⟩,⟨k112,⟨k104,⟨k100,⟨k98,⟨k97,trivial,trivial⟩,⟨k99,trivial,trivial⟩⟩,⟨k102,⟨k101,trivial,trivial⟩,⟨k103,trivial,trivial⟩⟩⟩,⟨k108,⟨k106,⟨k105,trivial,trivial⟩,⟨k107,trivial,trivial⟩⟩,⟨k110,⟨k109,trivial,trivial⟩,⟨k111,trivial,trivial⟩⟩⟩⟩,⟨k120,⟨k116,⟨k114,⟨k113,trivial,trivial⟩,⟨k115,trivial,trivial⟩⟩,⟨k118,⟨k117,trivial,trivial⟩,⟨k119,trivial,trivial⟩⟩⟩,⟨k124,⟨k122,⟨k121,trivial,trivial⟩,⟨k123,trivial,trivial⟩⟩,⟨k126,⟨k125,trivial,trivial⟩,⟨k127,trivial,trivial⟩⟩⟩⟩⟩⟩⟩,⟨k192,⟨k160,⟨k144,⟨k136,⟨k132,⟨k130,⟨k129,trivial,trivial⟩,⟨k131,trivial,trivial⟩⟩,⟨k134,⟨k133,trivial,trivial⟩,⟨k135,trivial,trivial⟩⟩⟩,⟨k140,⟨k138,⟨k137,trivial,trivial⟩,⟨k139,trivial,trivial⟩⟩,⟨k142,⟨k141,trivial,trivial⟩,⟨k143,trivial,trivial⟩⟩⟩⟩,⟨k152,⟨k148,⟨k146,⟨k145,trivial,trivial⟩,⟨k147,trivial,trivial⟩⟩,⟨k150,⟨k149,trivial,trivial⟩,⟨k151,trivial,trivial⟩⟩⟩,⟨k156,⟨k154,⟨k153,trivial,trivial⟩,⟨k155,trivial,trivial⟩⟩,⟨k158,⟨k157,trivial,trivial⟩,⟨k159,trivial,trivial⟩⟩⟩⟩⟩,⟨k176,⟨k168,⟨k164,⟨k162,⟨k161,trivial,trivial⟩,⟨k163,trivial,trivial⟩⟩,⟨k166,⟨k165,trivial,trivial⟩,⟨k167,trivial,trivial⟩⟩⟩,⟨k172,⟨k170,⟨k169,trivial,trivial⟩,⟨k171,trivial,trivial⟩⟩,⟨k174,⟨k173,trivial,trivial⟩,⟨k175,trivial,trivial⟩⟩⟩⟩,⟨k184,⟨k180,⟨k178,⟨k177,trivial,trivial⟩,⟨k179,trivial,trivial⟩⟩,⟨k182,⟨k181,trivial,trivial⟩,⟨k183,trivial,trivial⟩⟩⟩,⟨k188,⟨k186,⟨k185,trivial,trivial⟩,⟨k187,trivial,trivial⟩⟩,⟨k190,⟨k189,trivial,trivial⟩,⟨k191,trivial,trivial⟩⟩⟩⟩⟩⟩,⟨k224,⟨k208,⟨k200,⟨k196,⟨k194,⟨k193,trivial,trivial⟩,⟨k195,trivial,trivial⟩⟩,⟨k198,⟨k197,trivial,trivial⟩,⟨k199,trivial,trivial⟩⟩⟩,⟨k204,⟨k202,⟨k201,trivial,trivial⟩,⟨k203,trivial,trivial⟩⟩,⟨k206,⟨k205,trivial,trivial⟩,⟨k207,trivial,trivial⟩⟩⟩⟩,⟨k216,⟨k212,⟨k210,⟨k209,trivial,trivial⟩,⟨k211,trivial,trivial⟩⟩,⟨k214,⟨k213,trivial,trivial⟩,⟨k215,trivial,trivial⟩⟩⟩,⟨k220,⟨k218,⟨k217,trivial,trivial⟩,⟨k219,trivial,trivial⟩⟩,⟨k222,⟨k221,trivial,trivial⟩,⟨k223,trivial,trivial⟩⟩⟩⟩⟩,⟨k240,⟨k232,⟨k228,⟨k226,⟨k225,trivial,trivial⟩,⟨k227,trivial,trivial⟩⟩,⟨k230,⟨k229,trivial,trivial⟩,⟨k231,trivial,trivial⟩⟩⟩,⟨k236,⟨k234,⟨k233,trivial,trivial⟩,⟨k235,trivial,trivial⟩⟩,⟨k238,⟨k237,trivial,trivial⟩,⟨k239,trivial,trivial⟩⟩⟩⟩,⟨k248,⟨k244,⟨k242,⟨k241,trivial,trivial⟩,⟨k243,trivial,trivial⟩⟩,⟨k246,⟨k245,trivial,trivial⟩,⟨k247,trivial,trivial⟩⟩⟩,⟨k252,⟨k250,⟨k249,trivial,trivial⟩,⟨k251,trivial,trivial⟩⟩,⟨k254,⟨k253,trivial,trivial⟩,⟨k255,trivial,trivial⟩⟩⟩⟩⟩⟩⟩⟩
theorem cT_ok:cT.All cP:=⟨j128,⟨j64,⟨j32,⟨j16,⟨j8,⟨j4,⟨j2,⟨j1,⟨j0,trivial,trivial⟩,trivial⟩,⟨j3,trivial,trivial⟩⟩,⟨j6,⟨j5,trivial,trivial⟩,⟨j7,trivial,trivial⟩⟩⟩,⟨j12,⟨j10,⟨j9,trivial,trivial⟩,⟨j11,trivial,trivial⟩⟩,⟨j14,⟨j13,trivial,trivial⟩,⟨j15,trivial,trivial⟩⟩⟩⟩,⟨j24,⟨j20,⟨j18,⟨j17,trivial,trivial⟩,⟨j19,trivial,trivial⟩⟩,⟨j22,⟨j21,trivial,trivial⟩,⟨j23,trivial,trivial⟩⟩⟩,⟨j28,⟨j26,⟨j25,trivial,trivial⟩,⟨j27,trivial,trivial⟩⟩,⟨j30,⟨j29,trivial,trivial⟩,⟨j31,trivial,trivial⟩⟩⟩⟩⟩,⟨j48,⟨j40,⟨j36,⟨j34,⟨j33,trivial,trivial⟩,⟨j35,trivial,trivial⟩⟩,⟨j38,⟨j37,trivial,trivial⟩,⟨j39,trivial,trivial⟩⟩⟩,⟨j44,⟨j42,⟨j41,trivial,trivial⟩,⟨j43,trivial,trivial⟩⟩,⟨j46,⟨j45,trivial,trivial⟩,⟨j47,trivial,trivial⟩⟩⟩⟩,⟨j56,⟨j52,⟨j50,⟨j49,trivial,trivial⟩,⟨j51,trivial,trivial⟩⟩,⟨j54,⟨j53,trivial,trivial⟩,⟨j55,trivial,trivial⟩⟩⟩,⟨j60,⟨j58,⟨j57,trivial,trivial⟩,⟨j59,trivial,trivial⟩⟩,⟨j62,⟨j61,trivial,trivial⟩,⟨j63,trivial,trivial⟩⟩⟩⟩⟩⟩,⟨j96,⟨j80,⟨j72,⟨j68,⟨j66,⟨j65,trivial,trivial⟩,⟨j67,trivial,trivial⟩⟩,⟨j70,⟨j69,trivial,trivial⟩,⟨j71,trivial,trivial⟩⟩⟩,⟨j76,⟨j74,⟨j73,trivial,trivial⟩,⟨j75,trivial,trivial⟩⟩,⟨j78,⟨j77,trivial,trivial⟩,⟨j79,trivial,trivial⟩⟩⟩⟩,⟨j88,⟨j84,⟨j82,⟨j81,trivial,trivial⟩,⟨j83,trivial,trivial⟩⟩,⟨j86,⟨j85,trivial,trivial⟩,⟨j87,trivial,trivial⟩⟩⟩,⟨j92,⟨j90,⟨j89,trivial,trivial⟩,⟨j91,trivial,trivial⟩⟩,⟨j94,⟨j93,trivial,trivial⟩,⟨j95,trivial,trivial⟩⟩⟩⟩⟩,⟨j112,⟨j104,⟨j100,⟨j98,⟨j97,trivial,trivial⟩,⟨j99,trivial,trivial⟩⟩,⟨j102,⟨j101,trivial,trivial⟩,⟨j103,trivial,trivial⟩⟩⟩,⟨j108,⟨j106,⟨j105,trivial,trivial⟩,⟨j107,trivial,trivial⟩⟩,⟨j110,⟨j109,trivial,trivial⟩,⟨j111,trivial,trivial⟩⟩⟩⟩,⟨j120,⟨j116,⟨j114,⟨j113,trivial,trivial⟩,⟨j115,trivial,trivial⟩⟩,⟨j118,⟨j117,trivial,trivial⟩,⟨j119,trivial,trivial⟩⟩⟩,⟨j124,⟨j122,⟨j121,trivial,trivial⟩,⟨j123,trivial,trivial⟩⟩,⟨j126,⟨j125,trivial,trivial⟩,⟨j127,trivial,trivial⟩⟩⟩⟩⟩⟩⟩,⟨j192,⟨j160,⟨j144,⟨j136,⟨j132,⟨j130,⟨j129,trivial,trivial⟩,⟨j131,trivial,trivial⟩⟩,⟨j134,⟨j133,trivial,trivial⟩,⟨j135,trivial,trivial⟩⟩⟩,⟨j140,⟨j138,⟨j137,trivial,trivial⟩,⟨j139,trivial,trivial⟩⟩,⟨j142,⟨j141,trivial,trivial⟩,⟨j143,trivial,trivial⟩⟩⟩⟩,⟨j152,⟨j148,⟨j146,⟨j145,trivial,trivial⟩,⟨j147,trivial,trivial⟩⟩,⟨j150,⟨j149,trivial,trivial⟩,⟨j151,trivial,trivial⟩⟩⟩,⟨j156,⟨j154,⟨j153,trivial,trivial⟩,⟨j155,trivial,trivial⟩⟩,⟨j158,⟨j157,trivial,trivial⟩,⟨j159,trivial,trivial⟩⟩⟩⟩⟩,⟨j176,⟨j168,⟨j164,⟨j162,⟨j161,trivial,trivial⟩,⟨j163,trivial,trivial⟩⟩,⟨j166,⟨j165,trivial,trivial⟩,⟨j167,trivial,trivial⟩⟩⟩,⟨j172,⟨j170,⟨j169,trivial,trivial⟩,⟨j171,trivial,trivial⟩⟩,⟨j174,⟨j173,trivial,trivial⟩,⟨j175,trivial,trivial⟩⟩⟩⟩,⟨j184,⟨j180,⟨j178,⟨j177,trivial,trivial⟩,⟨j179,trivial,trivial⟩⟩,⟨j182,⟨j181,trivial,trivial⟩,⟨j183,trivial,trivial⟩⟩⟩,⟨j188,⟨j186,⟨j185,trivial,trivial⟩,⟨j187,trivial,trivial⟩⟩,⟨j190,⟨j189,trivial,trivial⟩,⟨j191,trivial,trivial⟩⟩⟩⟩⟩⟩,⟨j224,⟨j208,⟨j200,⟨j196,⟨j194,⟨j193,trivial,trivial⟩,⟨j195,trivial,trivial⟩⟩,⟨j198,⟨j197,trivial,trivial⟩,⟨j199,trivial,trivial⟩⟩⟩,⟨j204,⟨j202,⟨j201,trivial,trivial⟩,⟨j203,trivial,trivial⟩⟩,⟨j206,⟨j205,trivial,trivial⟩,⟨j207,trivial,trivial⟩⟩⟩⟩,⟨j216,⟨j212,⟨j210,⟨j209,trivial,trivial⟩,⟨j211,trivial,trivial⟩⟩,⟨j214,⟨j213,trivial,trivial⟩,⟨j215,trivial,trivial⟩⟩⟩,⟨j220,⟨j218,⟨j217,trivial,trivial⟩,⟨j219,trivial,trivial⟩⟩,⟨j222,⟨j221,trivial,trivial⟩,⟨j223,trivial,trivial⟩⟩⟩⟩⟩,⟨j240,⟨j232,⟨j228,⟨j226,⟨j225,trivial,trivial⟩,⟨j227,trivial,trivial⟩⟩,⟨j230,⟨j229,trivial,trivial⟩,⟨j231,trivial,trivial⟩⟩⟩,⟨j236,⟨j234,⟨j233,trivial,trivial⟩,⟨j235,trivial,trivial⟩⟩,⟨j238,⟨j237,trivial,trivial⟩,⟨j239,trivial,trivial⟩⟩⟩⟩,⟨j248,⟨j244,⟨j242,⟨j241,trivial,trivial⟩,⟨j243,trivial,trivial⟩⟩,⟨j246,⟨j245,trivial,trivial⟩,⟨j247,trivial,trivial⟩⟩⟩,⟨j252,⟨j250,⟨j249,trivial,trivial⟩,⟨j251,trivial,trivial⟩⟩,⟨j254,⟨j253,trivial,trivial⟩,⟨j255,trivial,trivial⟩⟩⟩⟩⟩⟩⟩⟩
def hasT (t:Nat):Bool:=match gT.get t,sT.get t,cT.get t with
 | some _,some _,some _=>true
 | _,_,_=>false
theorem Xie:∀ t,t<256→hasT t=true:=by
 have h:(List.range 256).all hasT=true:=by kernel_rfl
 intro t ht
 exact Y2z.1 h t (Y2i.2 ht)
end
abbrev Res:=Option (AV×X3×Nat)
def Fe.l:Fe→List AV
 | .q n e=>e.l.take n
 | .r l=>l
abbrev X1n:=Cx→Xj→Fe→X3→Nat→Res
noncomputable section
def Xr {α:Type} (x y:α) (b:Bool):α:=Bool.rec (motive:=fun _=>α) y x b
theorem X7 {α:Type} (x y:α) (b:Bool):Xr x y b=bif b then x else y:=by cases b <;> rfl
def Xeu {α:Type} (l:List α):Nat→Option α:=List.rec (motive:=fun _=>Nat→Option α) (fun _=>none) (fun a _ ih n=>Nat.rec (motive:=fun _=>Option α) (some a) (fun m _=>ih m) n) l
theorem X3d {α:Type}:∀ (l:List α) (n:Nat),Xeu l n=nth l n
 | [],n=>rfl
 | a::l,0=>rfl
 | a::l,n+1=>X3d l n
def updF {α:Type} (l:List α):Nat→α→List α:=List.rec (motive:=fun _=>Nat→α→List α) (fun _ _=>[]) (fun a t ih n x=>Nat.rec (motive:=fun _=>List α) (x::t) (fun m _=>a::ih m x) n) l
theorem Xa3 {α:Type}:∀ (l:List α) (n:Nat) (x:α),updF l n x=upd l n x
 | [],n,x=>rfl
 | a::l,0,x=>rfl
 | a::l,n+1,x=>congrArg (a::·) (Xa3 l n x)
def lenF {α:Type} (l:List α):Nat:=List.rec (motive:=fun _=>Nat) 0 (fun _ _ ih=>Nat.succ ih) l
theorem X9i {α:Type}:∀ l:List α,lenF l=len l
 | []=>rfl
 | a::l=>congrArg Nat.succ (X9i l)
def lkF {β:Type} (l:List (Nat×β)):Nat→Option β:=List.rec (motive:=fun _=>Nat→Option β) (fun _=>none) (fun p _ ih i=>Xr (some p.2) (ih i) (Nat.beq p.1 i)) l
theorem Xik:∀ (H:X3) (i:Nat),lkF H i=Xp H i
 | [],i=>rfl
 | (k,b)::H,i=>by
  show Xr (some b) (lkF H i) (Nat.beq k i)=_
  rw [X7,Xik H i]; rfl
theorem lkF_z:∀ (H:List (Nat×List AV)) (i:Nat),lkF H i=Xc5 H i
 | [],i=>rfl
 | (k,b)::H,i=>by
  show Xr (some b) (lkF H i) (Nat.beq k i)=_
  rw [X7,lkF_z H i]; rfl
def Xfr (H:X3):Nat→Blk→X3:=List.rec (motive:=fun _=>Nat→Blk→X3) (fun _ _=>[]) (fun p t ih i b=>Xr ((p.1,b)::t) (p::ih i b) (Nat.beq p.1 i)) H
theorem Xat:∀ (H:X3) (i:Nat) (b:Blk),Xfr H i b=X1l H i b
 | [],i,b=>rfl
 | (k,c)::H,i,b=>by
  show Xr ((k,b)::H) ((k,c)::Xfr H i b) (Nat.beq k i)=_
  rw [X7,Xat H i b]; rfl
def trF {α:Type} (T:Tr α):Nat→Option α:=Tr.rec (motive:=fun _=>Nat→Option α) (fun _=>none) (fun k v _ _ ia ib i=>Xr (some v) (Xr (ia i) (ib i) (Nat.blt i k)) (Nat.beq k i)) T
theorem Xu {α:Type}:∀ (T:Tr α) (i:Nat),trF T i=T.get i
 | .l,i=>rfl
 | .n k v a b,i=>by
  show Xr (some v) (Xr (trF a i) (trF b i) (Nat.blt i k)) (Nat.beq k i)=_
  rw [X7,X7,Xu a,Xu b]; rfl
def gB (e:Q4) (o:Option (Q4→AV)):Option AV:=Option.rec (motive:=fun _=>Option AV) none (fun g=>some (g e)) o
def Xic (t:Nat) (E:Fe):Option AV:=Fe.rec (motive:=fun _=>Option AV) (fun n e=>Xr (gB e (trF gT t)) none (Nat.blt t n)) (fun l=>Xeu l t) E
theorem Xdj {t:Nat} (h:t<256):(∃ g,gT.get t=some g)∧(∃ s,sT.get t=some s)∧∃ c,cT.get t=some c:=by
 have:=Xie t h
 unfold hasT at this
 split at this
 ·rename_i g s c h1 h2 h3; exact ⟨⟨g,h1⟩,⟨s,h2⟩,c,h3⟩
 ·cases this
theorem gB_eq (e:Q4) (t:Nat) (h:t<256):gB e (trF gT t)=nth e.l t:=by
 rw [Xu]
 obtain ⟨⟨g,hg⟩,_,_⟩:=Xdj h
 rw [hg,Tr.all_get gT_ok hg e]; rfl
theorem Xg2 {l:List AV} {n t:Nat} (h:t<n):nth (l.take n) t=nth l t:=by
 rw [X12,X12,Y12,if_pos h]
theorem Xib {t:Nat} (h:256≤t):gT.get t=none:=by
 cases hg:gT.get t with
 | none=>rfl
 | some g =>
  have:=Tr.all_get gT_ok hg ⟨⟨⟨⟨.u,.u,.u,.u⟩,⟨.u,.u,.u,.u⟩,⟨.u,.u,.u,.u⟩,⟨.u,.u,.u,.u⟩⟩,⟨⟨.u,.u,.u,.u⟩,⟨.u,.u,.u,.u⟩,⟨.u,.u,.u,.u⟩,⟨.u,.u,.u,.u⟩⟩,⟨⟨.u,.u,.u,.u⟩,⟨.u,.u,.u,.u⟩,⟨.u,.u,.u,.u⟩,⟨.u,.u,.u,.u⟩⟩,⟨⟨.u,.u,.u,.u⟩,⟨.u,.u,.u,.u⟩,⟨.u,.u,.u,.u⟩,⟨.u,.u,.u,.u⟩⟩⟩,⟨⟨⟨.u,.u,.u,.u⟩,⟨.u,.u,.u,.u⟩,⟨.u,.u,.u,.u⟩,⟨.u,.u,.u,.u⟩⟩,⟨⟨.u,.u,.u,.u⟩,⟨.u,.u,.u,.u⟩,⟨.u,.u,.u,.u⟩,⟨.u,.u,.u,.u⟩⟩,⟨⟨.u,.u,.u,.u⟩,⟨.u,.u,.u,.u⟩,⟨.u,.u,.u,.u⟩,⟨.u,.u,.u,.u⟩⟩,⟨⟨.u,.u,.u,.u⟩,⟨.u,.u,.u,.u⟩,⟨.u,.u,.u,.u⟩,⟨.u,.u,.u,.u⟩⟩⟩,⟨⟨⟨.u,.u,.u,.u⟩,⟨.u,.u,.u,.u⟩,⟨.u,.u,.u,.u⟩,⟨.u,.u,.u,.u⟩⟩,⟨⟨.u,.u,.u,.u⟩,⟨.u,.u,.u,.u⟩,⟨.u,.u,.u,.u⟩,⟨.u,.u,.u,.u⟩⟩,⟨⟨.u,.u,.u,.u⟩,⟨.u,.u,.u,.u⟩,⟨.u,.u,.u,.u⟩,⟨.u,.u,.u,.u⟩⟩,⟨⟨.u,.u,.u,.u⟩,⟨.u,.u,.u,.u⟩,⟨.u,.u,.u,.u⟩,⟨.u,.u,.u,.u⟩⟩⟩,⟨⟨⟨.u,.u,.u,.u⟩,⟨.u,.u,.u,.u⟩,⟨.u,.u,.u,.u⟩,⟨.u,.u,.u,.u⟩⟩,⟨⟨.u,.u,.u,.u⟩,⟨.u,.u,.u,.u⟩,⟨.u,.u,.u,.u⟩,⟨.u,.u,.u,.u⟩⟩,⟨⟨.u,.u,.u,.u⟩,⟨.u,.u,.u,.u⟩,⟨.u,.u,.u,.u⟩,⟨.u,.u,.u,.u⟩⟩,⟨⟨.u,.u,.u,.u⟩,⟨.u,.u,.u,.u⟩,⟨.u,.u,.u,.u⟩,⟨.u,.u,.u,.u⟩⟩⟩⟩
  rw [X12] at this
  have h2:=(Y0.1 this).1
  rw [Q4.len] at h2
  omega
theorem X9d (t:Nat) (E:Fe):Xic t E=nth E.l t:=by
 cases E with
 | r l=>exact X3d l t
 | q n e =>
  show Xr (gB e (trF gT t)) none (Nat.blt t n)=nth (e.l.take n) t
  rw [X7]
  cases hb:Nat.blt t n with
  | false =>
   have hn:n≤t:=by
    rcases Y1c t n with h | h
    ·have:Nat.blt t n=true:=Y1b h
     rw [hb] at this; cases this
    ·exact h
   rw [cond_false,X12,Y12,if_neg (by omega)]
  | true =>
   have hn:t<n:=Y1 hb
   rw [cond_true,Xg2 hn]
   rcases Y1c t 256 with h | h
   ·exact gB_eq e t h
   ·rw [Xu,Xib h,X12,Y15 (by rw [Q4.len]; exact h)]; rfl
def stB (e:Q4) (x:AV) (o:Option (Q4→AV→Q4)):Q4:=Option.rec (motive:=fun _=>Q4) e (fun s=>s e x) o
theorem Xha (e:Q4) (t:Nat) (x:AV):(stB e x (trF sT t)).l=upd e.l t x:=by
 rw [Xu]
 cases hs:sT.get t with
 | some s=>exact (Tr.all_get sT_ok hs).2 e x
 | none =>
  show e.l=_
  rcases Y1c t 256 with h | h
  ·obtain ⟨_,⟨s,h2⟩,_⟩:=Xdj h; rw [hs] at h2; cases h2
  ·rw [X2l,List.set_eq_of_length_le (by rw [Q4.len]; exact h)]
def putT (t:Nat) (x:AV) (E:Fe):Fe:=Fe.rec (motive:=fun _=>Fe) (fun n e=>.q n (stB e x (trF sT t))) (fun l=>.r (updF l t x)) E
theorem Xe6 (t:Nat) (x:AV) (E:Fe):(putT t x E).l=upd E.l t x:=by
 cases E with
 | r l=>exact Xa3 l t x
 | q n e =>
  show (stB e x (trF sT t)).l.take n=upd (e.l.take n) t x
  rw [Xha,X2l,X2l,List.take_set]
def cB (n:Nat) (e:Q4) (x:AV) (k:Fe→X0) (o:Option (Q4→AV→(Q4→X0)→X0)):X0:=Option.rec (motive:=fun _=>X0) (k (.q n e)) (fun c=>c e x (fun e'=>k (.q n e'))) o
def putK1 (x:AV) (k:Fe→X0) (E:Fe) (t:Nat):X0:=Fe.rec (motive:=fun _=>X0) (fun n e=>cB n e x k (trF cT t)) (fun l=>k (.r (updF l t x))) E
theorem Xga (x:AV) (k:Fe→X0) (E:Fe) (t:Nat):putK1 x k E t=k (putT t x E):=by
 cases E with
 | r l=>rfl
 | q n e =>
  show cB n e x k (trF cT t)=k (.q n (stB e x (trF sT t)))
  rw [Xu,Xu]
  cases hc:cT.get t with
  | some c =>
   obtain ⟨_,s,hs,hk⟩:=Tr.all_get cT_ok hc
   rw [hs]
   exact hk e x _
  | none =>
   cases hs:sT.get t with
   | none=>rfl
   | some s =>
    obtain ⟨_,_,c,h2⟩:=Xdj (Tr.all_get sT_ok hs).1
    rw [hc] at h2; cases h2
def setL (l:List AV):Nat→Q4→Q4:=List.rec (motive:=fun _=>Nat→Q4→Q4) (fun _ e=>e) (fun a _ ih i e=>ih (Nat.succ i) (stB e a (trF sT i))) l
theorem Xj4 {l:List AV} {i:Nat} {a:AV} (h:i<l.length) (k:Nat):(l.set i a).take (i+1)=l.take i ++ [a]∧(l.set i a).drop (i+1+k)=l.drop (i+1+k):=by
 refine ⟨?_,?_⟩
 ·apply Y17
  intro j
  have hl:(l.take i).length=i:=by rw [Yi]; omega
  rw [Y12,Y21,hl,Y12,Y1f]
  rcases Y2v j i with hj | hj | hj
  ·rw [if_pos (by omega),if_neg (by omega),if_pos hj,if_pos hj]
  ·subst hj; rw [if_pos (by omega),if_pos rfl,if_pos h,if_neg (by omega)]; simp
  ·rw [if_neg (by omega),if_neg (by omega),Y15 (by simp; omega)]
 ·apply Y17
  intro j
  rw [Yp,Yp,List.getElem?_set_ne (by omega)]
theorem Xec:∀ (l:List AV) (i:Nat) (e:Q4),i+l.length≤256→(setL l i e).l=e.l.take i ++ (l ++ e.l.drop (i+l.length))
 | [],i,e,h=>by
  show e.l=_
  simp
 | a::l,i,e,h=>by
  show (setL l (Nat.succ i) (stB e a (trF sT i))).l=_
  simp only [Y3] at h
  have hl:i<e.l.length:=by rw [Q4.len]; omega
  rw [Xec l (Nat.succ i) _ (by simp only [Nat.succ_eq_add_one]; omega),Xha,X2l]
  obtain ⟨h1,h2⟩:=Xj4 (a:=a) hl l.length
  rw [show Nat.succ i=i+1 from rfl,h1,h2,Y3,show i+(l.length+1)=i+1+l.length by omega]
  simp
def un:AV:=.v undef
def u1:Q1:=⟨un,un,un,un⟩
def u2:Q2:=⟨u1,u1,u1,u1⟩
def u3:Q3:=⟨u2,u2,u2,u2⟩
def u4:Q4:=⟨u3,u3,u3,u3⟩
theorem u4_l:u4.l=X6b 256:=by kernel_rfl
theorem X55:∀ k,X6b k=List.replicate k (.v undef)
 | 0=>rfl
 | k+1=>by rw [X6b,X55 k,Y2m]
def X8l (args:List AV) (n:Nat):Fe:=Xr (.q n (setL args 0 u4)) (.r (args ++ X6b (n - len args))) (Nat.ble n 256)
theorem Xdv {args:List AV} {n:Nat} (h:len args≤n):(X8l args n).l=args ++ X6b (n - len args):=by
 unfold X8l
 rw [X7]
 cases hb:Nat.ble n 256 with
 | false=>rfl
 | true =>
  have hn:=Y1 hb
  rw [Xg] at h ⊢
  show (setL args 0 u4).l.take n=_
  rw [Xec args 0 u4 (by omega),u4_l,X55,X55]
  simp only [List.take_zero,Y1e,Yq,List.drop_replicate]
  rw [Y3o,Y1k h,List.take_replicate]
  congr 2
  omega
def frc {β:Type} (f:Nat→β) (n:Nat):β:=Nat.rec (motive:=fun _=>β) (f 0) (fun m _=>f (Nat.succ m)) n
theorem X4d {β:Type} (f:Nat→β) (n:Nat):frc f n=f n:=by cases n <;> rfl
def frA {β:Type} (f:AV→β) (α:AV):β:=match α with
 | .v x=>f (.v x)
 | .st l=>f (.st l)
 | .p b o=>f (.p b o)
 | .s b o n z=>f (.s b o n z)
 | .c b o n k=>f (.c b o n k)
 | .a l=>f (.a l)
 | .t l=>f (.t l)
 | .f g x y=>f (.f g x y)
 | .m b=>f (.m b)
 | .u=>f .u
theorem Xgv {β:Type} (f:AV→β) (α:AV):frA f α=f α:=by cases α <;> rfl
def known (α:AV):Option AV:=match α with
 | .v x=>some (.v x)
 | .st l=>some (.st l)
 | .p b o=>some (.p b o)
 | .s b o n z=>some (.s b o n z)
 | .c b o n k=>some (.c b o n k)
 | .a l=>some (.a l)
 | .t l=>some (.t l)
 | .f g x y=>some (.f g x y)
 | .m b=>some (.m b)
 | .u=>none
def avU (o:Option AV):Option AV:=Option.rec (motive:=fun _=>Option AV) none known o
def avT (t:Nat) (X:Cx) (E:Fe):Option AV:=avU (Xic t E)
def avC (v:Value) (X:Cx) (E:Fe):Option AV:=frA some (X5t v)
def avG (g:Nat) (X:Cx) (E:Fe):Option AV:=Xr (some (.p g 0)) none (Nat.blt g X.G)
def avFn (f:Nat) (X:Cx) (E:Fe):Option AV:=some (.f f [] [])
def avF (x:Operand):Cx→Fe→Option AV:=Operand.rec (motive:=fun _=>Cx→Fe→Option AV) avT avC avG avFn x
theorem Xz (x:Operand) (X:Cx) (E:Fe):avF x X E=av X E.l x:=by
 cases x with
 | tmp t =>
  show avU (Xic t E)=_
  rw [X9d]
  simp only [av]
  cases nth E.l t with
  | none=>rfl
  | some α=>cases α <;> rfl
 | const v=>exact Xgv _ _
 | global g=>show Xr _ _ _=_; rw [X7]; rfl
 | func f=>rfl
def avsC (x y:Option AV) (ys:Option (List AV)):Option (List AV):=Option.rec (motive:=fun _=>Option (List AV)) none (fun v=>Option.rec (motive:=fun _=>Option (List AV)) none (fun vs=>some (v::vs)) ys) x
def avsF (l:List Operand):Cx→Fe→Option (List AV):=List.rec (motive:=fun _=>Cx→Fe→Option (List AV)) (fun _ _=>some []) (fun x _ ih X E=>avsC (avF x X E) none (ih X E)) l
theorem Xcn:∀ (l:List Operand) (X:Cx) (E:Fe),avsF l X E=avs X E.l l
 | [],X,E=>rfl
 | x::l,X,E=>by
  show avsC (avF x X E) none (avsF l X E)=_
  rw [Xz,Xcn l]
  simp only [avs]
  cases av X E.l x <;> cases avs X E.l l <;> rfl
def sl (op:Op):X1n:=fun X cf E H nx=>step X cf E.l H nx op
def X46 (H:X3) (nx:Nat) (o:Option AV):Res:=Option.rec (motive:=fun _=>Res) none (fun α=>some (α,H,nx)) o
section
variable {X:Cx} {cf:Xj} {E:Fe} {H:X3} {nx:Nat}
theorem Xq {op:Op} (h1:opM X E.l H nx op=none) (h2:opS X E.l H op=none) (h3:X97 X cf E.l H nx op=none):step X cf E.l H nx op=X46 H nx (opP X E.l op):=by
 unfold step
 cases opP X E.l op <;> simp [h1,h2,h3,X46]
theorem X4p {op:Op} {α:AV} (h:opP X E.l op=some α):step X cf E.l H nx op=some (α,H,nx):=by
 unfold step; rw [h]
theorem Xbc {op:Op} {α:AV} {H':X3} (h0:opP X E.l op=none) (h:opM X E.l H nx op=some (α,H')):step X cf E.l H nx op=some (α,H',Nat.succ nx):=by
 unfold step; rw [h0,h]
theorem Xj7 {op:Op} {H':X3} (h0:opP X E.l op=none) (h1:opM X E.l H nx op=none) (h:opS X E.l H op=some H'):step X cf E.l H nx op=some (.v undef,H',nx):=by
 unfold step; rw [h0,h1,h]
theorem X62 {op:Op} (h0:opP X E.l op=none) (h1:opM X E.l H nx op=none) (h:opS X E.l H op=none):step X cf E.l H nx op=X97 X cf E.l H nx op:=by
 unfold step; rw [h0,h1,h]
def Xfn (x:Operand):X1n:=fun X cf E H nx=>X46 H nx (avF x X E)
theorem Xfo {x:Operand}:Xfn x X cf E H nx=step X cf E.l H nx (.move x):=by
 rw [Xq rfl rfl rfl]; show X46 H nx (avF x X E)=_; rw [Xz]; rfl
theorem Xbs {x:Operand}:Xfn x X cf E H nx=step X cf E.l H nx (.assign x):=by
 rw [Xq rfl rfl rfl]; show X46 H nx (avF x X E)=_; rw [Xz]; rfl
def pick3 (x y:Operand) (X:Cx) (E:Fe) (v:Value):Option AV:=match v with
 | .bool b=>Xr (avF x X E) (avF y X E) b
 | _=>none
def Xiu (x y:Operand) (X:Cx) (E:Fe) (α:AV):Option AV:=match α with
 | .v w=>pick3 x y X E w
 | _=>none
def X48 {β:Type} (o:Option AV) (f:AV→Option β):Option β:=Option.rec (motive:=fun _=>Option β) none f o
def fPick (c x y:Operand):X1n:=fun X cf E H nx=>X46 H nx (X48 (avF c X E) (Xiu x y X E))
theorem Xam {c x y:Operand}:fPick c x y X cf E H nx=step X cf E.l H nx (.pick c x y):=by
 rw [Xq rfl rfl rfl]
 show X46 H nx (X48 (avF c X E) (Xiu x y X E))=_
 rw [Xz]
 congr 1
 simp only [opP]
 cases av X E.l c with
 | none=>rfl
 | some α =>
  cases α with
  | v w =>
   cases w with
   | bool b=>show Xr _ _ _=_; rw [X7,Xz,Xz]
   | _=>rfl
  | _=>rfl
def nil2 (α:AV):Option AV:=match α with
 | .p b o=>some (.p b o)
 | .f g u v=>some (.f g u v)
 | _=>none
def fNil (x:Operand):X1n:=fun X cf E H nx=>X46 H nx (X48 (avF x X E) nil2)
theorem Xdc {x:Operand}:fNil x X cf E H nx=step X cf E.l H nx (.nilCheck x):=by
 rw [Xq rfl rfl rfl]
 show X46 H nx (X48 (avF x X E) nil2)=_
 rw [Xz]
 congr 1
 simp only [opP]
 cases av X E.l x with
 | none=>rfl
 | some α=>cases α <;> rfl
def ext2 (i:Nat) (α:AV):Option AV:=match α with
 | .t l=>Xeu l i
 | _=>none
def fExt (x:Operand) (i:Nat):X1n:=fun X cf E H nx=>X46 H nx (X48 (avF x X E) (ext2 i))
theorem Xd7 {x:Operand} {i:Nat}:fExt x i X cf E H nx=step X cf E.l H nx (.extract x i):=by
 rw [Xq rfl rfl rfl]
 show X46 H nx (X48 (avF x X E) (ext2 i))=_
 rw [Xz]
 congr 1
 simp only [opP]
 cases av X E.l x with
 | none=>rfl
 | some α=>cases α <;> first | rfl | exact X3d _ _
def not3 (op:UnOp) (v:Value):Option AV:=match v with
 | .bool b=>match op with
  | .not=>some (.v (.bool (Xr false true b)))
  | o=>Xgf (Op.unary o (.bool b))
 | v=>Xgf (Op.unary op v)
def not2 (op:UnOp) (α:AV):Option AV:=match α with
 | .v u=>not3 op u
 | _=>none
def fUn (op:UnOp) (t:Nat) (x:Operand):X1n:=fun X cf E H nx=>X46 H nx (X48 (avF x X E) (not2 op))
theorem Xgu {op:UnOp} {t:Nat} {x:Operand}:fUn op t x X cf E H nx=step X cf E.l H nx (.unOp op t x):=by
 rw [Xq rfl rfl rfl]
 show X46 H nx (X48 (avF x X E) (not2 op))=_
 rw [Xz]
 congr 1
 simp only [opP]
 cases av X E.l x with
 | none=>rfl
 | some α=>cases α with
  | v u=>cases u with
   | bool b=>cases op <;> first | rfl | (cases b <;> rfl)
   | _=>rfl
  | _=>rfl
def fa4 (b o:Nat) (p:Option (Nat×Nat×Bool)):Option AV:=Option.rec (motive:=fun _=>Option AV) none (fun p=>Xr none (frc (fun o=>some (.p b o)) (Nat.add o p.1)) (Nat.beq p.2.1 0)) p
def fa3 (b o f:Nat) (u:Und):Option AV:=match u with
 | .struct fs=>fa4 b o (Xeu fs f)
 | _=>none
def fa2 (t f:Nat) (X:Cx) (α:AV):Option AV:=match α with
 | .p b o=>Option.rec (motive:=fun _=>Option AV) none (fun ti=>fa3 b o f ti.und) (trF X.ty t)
 | _=>none
def fFa (t:Nat) (x:Operand) (f:Nat):X1n:=fun X cf E H nx=>X46 H nx (X48 (avF x X E) (fa2 t f X))
theorem Xgt {t f:Nat} {x:Operand}:fFa t x f X cf E H nx=step X cf E.l H nx (.fieldAddr t x f):=by
 rw [Xq rfl rfl rfl]
 show X46 H nx (X48 (avF x X E) (fa2 t f X))=_
 rw [Xz]
 congr 1
 simp only [opP]
 cases av X E.l x with
 | none=>rfl
 | some α=>cases α with
  | p b o =>
   show Option.rec (motive:=fun _=>Option AV) none (fun ti=>fa3 b o f ti.und) (trF X.ty t)=_
   rw [Xu]
   cases X.ty.get t with
   | none=>rfl
   | some ti =>
    obtain ⟨a1,a2,a3,a4,u⟩:=ti
    cases u with
    | struct fs =>
     show fa4 b o (Xeu fs f)=_
     rw [X3d]
     simp only [Y1a]
     cases nth fs f with
     | none=>rfl
     | some p=>obtain ⟨off,s,g⟩:=p; show Xr _ _ _=_; rw [X7,X4d]; rfl
    | _=>rfl
  | _=>rfl
end
end
end Sx
