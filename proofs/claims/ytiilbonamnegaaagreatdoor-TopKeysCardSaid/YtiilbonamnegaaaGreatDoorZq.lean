/- A part of the proof of TopKeys. No condition. -/
import Derived.Test.YtiilbonamnegaaaGreatDoorZe
import Derived.Test.YtiilbonamnegaaaGreatDoorProg
namespace Go.Proofs.YtiilbonamnegaaaGreatDoor
open Go.Gk Go.RowKit
def sU(f:Func):Code:=match f.body with |some c=>c |none=>.skip
def KU:Option TypeDesc→Bool
 |some (.interface _)=>true
 |_=>false
theorem Qr{o:Option TypeDesc}(h:KU o=true): ∃ms,o=some (.interface ms):=by
 unfold KU at h
 split at h
 ·exact⟨_,rfl⟩
 ·cases h
def cH:PT:=.st (.pr (.int .i64) (.int .i64))
abbrev aH:=Int×Int
def aX:PT:=.st (.pr .str (.pr (.int .i64) .bool))
abbrev aK:=List UInt8×Int×Bool
def ao:PT:=.st (.pr (.sl (.int .i64)) (.int .i64))
abbrev ah:=List Int×Int
def ee:PT:=.st (.pr (.int .i64) (.pr (.int .i64) (.pr (.int .i64) (.pr (.sl (.int .u8)) (.pr (.sl (.int .u8)) (.pr (.sl (.int .u8)) (.sl (.int .u8))))))))
abbrev aD:=Int×Int×Int×List UInt8×List UInt8×List UInt8×List UInt8
def dZ:PT:=.st (.pr (.sl (.int .u8)) (.pr .tree .tree))
abbrev aU:=List UInt8×Tr×Tr
def aQ:PT:=.st (.pr .tree .tree)
abbrev ax:=Tr×Tr
def iC:PT:=.st (.pr .tree .tree)
def dV:PT:=.st (.pr aQ (.pr (.sl (.int .u8)) (.sl (.int .u8))))
abbrev dT:=ax×List UInt8×List UInt8
def eY:PT:=.st (.pr (.int .i64) (.sl (.int .u8)))
abbrev a6:=Int×List UInt8
def eA:PT:=.st (.pr (.int .i64) (.pr (.int .i64) (.pr (.int .i64) (.pr (.sl (.int .u8)) (.pr (.sl eY) (.sl (.int .u8)))))))
abbrev aW:=Int×Int×Int×List UInt8×List a6×List UInt8
def gc:PT:=.st (.pr (.sl (.int .u8)) .bool)
abbrev ck:=List UInt8×Bool
def bR:PT:=.st (.pr (.sl (.int .u8)) (.pr (.int .i64) (.int .i64)))
abbrev ak:=List UInt8×Int×Int
def aL:PT:=.st (.pr (.int .u8) (.pr (.int .u8) (.pr (.int .u64) (.int .i64))))
abbrev aO:=UInt8×UInt8×UInt64×Int
def am:PT:=.st (.pr (.sl (.int .u8)) (.pr (.int .i64) (.pr (.int .i64) (.pr .bool .bool))))
abbrev ai:=List UInt8×Int×Int×Bool×Bool
def a_:PT:=.st (.pr (.sl (.int .u8)) (.pr .tree .tree))
def fz:PT:=.st (.pr (.int .u8) (.int .u8))
def T7:TE Tryz.prog:=⟨3,(.int .i64),⟨fun _=>⟨fun w=>(by kernel_rfl),fun w=>(by kernel_rfl)⟩,fun h=>(by cases h),fun w=>(by kernel_rfl),(show Tryz.prog.underlying 3=some (.int .i64) by kernel_rfl)⟩⟩
def TO:TE Tryz.prog:=⟨4,.bool,⟨fun _=>⟨fun w=>(by kernel_rfl),fun w=>(by kernel_rfl)⟩,fun h=>(by cases h),fun w=>(by kernel_rfl),(show Tryz.prog.underlying 4=some .bool by kernel_rfl)⟩⟩
def TX:TE Tryz.prog:=⟨5,(.int .u8),⟨fun _=>⟨fun w=>(by kernel_rfl),fun w=>(by kernel_rfl)⟩,fun h=>(by cases h),fun w=>(by kernel_rfl),(show Tryz.prog.underlying 5=some (.int .u8) by kernel_rfl)⟩⟩
def T5:TE Tryz.prog:=⟨9,.str,⟨fun _=>⟨fun w=>(by kernel_rfl),fun w=>(by kernel_rfl)⟩,fun h=>(by cases h),fun w=>(by kernel_rfl),(show Tryz.prog.underlying 9=some .string by kernel_rfl)⟩⟩
def Tt:TE Tryz.prog:=⟨12,(.int .u64),⟨fun _=>⟨fun w=>(by kernel_rfl),fun w=>(by kernel_rfl)⟩,fun h=>(by cases h),fun w=>(by kernel_rfl),(show Tryz.prog.underlying 12=some (.int .u64) by kernel_rfl)⟩⟩
def Tv:TE Tryz.prog:=⟨22,(.sl (.int .i64)),⟨fun _=>⟨fun w=>(by kernel_rfl),fun w=>(by kernel_rfl)⟩,fun h=>(by cases h),fun w=>(by kernel_rfl),trivial⟩⟩
def Th:TE Tryz.prog:=⟨23,(.sl (.int .u8)),⟨fun _=>⟨fun w=>(by kernel_rfl),fun w=>(by kernel_rfl)⟩,fun h=>(by cases h),fun w=>(by kernel_rfl),trivial⟩⟩
def S8:TE Tryz.prog:=⟨29,ee,⟨fun h=>(by cases h),fun _=>⟨fun w=>(by kernel_rfl),fun w=>(by kernel_rfl)⟩,fun w=>(by kernel_rfl),trivial⟩⟩
def S4:TE Tryz.prog:=⟨31,(.int .i64),⟨fun _=>⟨fun w=>(by kernel_rfl),fun w=>(by kernel_rfl)⟩,fun h=>(by cases h),fun w=>(by kernel_rfl),(show Tryz.prog.underlying 31=some (.int .i64) by kernel_rfl)⟩⟩
def SC:TE Tryz.prog:=⟨34,(.int .u64),⟨fun _=>⟨fun w=>(by kernel_rfl),fun w=>(by kernel_rfl)⟩,fun h=>(by cases h),fun w=>(by kernel_rfl),(show Tryz.prog.underlying 34=some (.int .u64) by kernel_rfl)⟩⟩
def Sw:TE Tryz.prog:=⟨35,(.sl .tree),⟨fun _=>⟨fun w=>(by kernel_rfl),fun w=>(by kernel_rfl)⟩,fun h=>(by cases h),fun w=>(by kernel_rfl),trivial⟩⟩
def Tq:TE Tryz.prog:=⟨37,.tree,⟨fun h=>(by cases h),fun _=>⟨fun w=>(by kernel_rfl),fun w=>(by kernel_rfl)⟩,fun w=>(by kernel_rfl),trivial⟩⟩
def SY:TE Tryz.prog:=⟨39,aQ,⟨fun h=>(by cases h),fun _=>⟨fun w=>(by kernel_rfl),fun w=>(by kernel_rfl)⟩,fun w=>(by kernel_rfl),trivial⟩⟩
def S3:TE Tryz.prog:=⟨41,dV,⟨fun h=>(by cases h),fun _=>⟨fun w=>(by kernel_rfl),fun w=>(by kernel_rfl)⟩,fun w=>(by kernel_rfl),trivial⟩⟩
def SW:TE Tryz.prog:=⟨47,(.sl eY),⟨fun _=>⟨fun w=>(by kernel_rfl),fun w=>(by kernel_rfl)⟩,fun h=>(by cases h),fun w=>(by kernel_rfl),trivial⟩⟩
def SB:TE Tryz.prog:=⟨49,eA,⟨fun h=>(by cases h),fun _=>⟨fun w=>(by kernel_rfl),fun w=>(by kernel_rfl)⟩,fun w=>(by kernel_rfl),trivial⟩⟩
def S6:TE Tryz.prog:=⟨66,ao,⟨fun h=>(by cases h),fun _=>⟨fun w=>(by kernel_rfl),fun w=>(by kernel_rfl)⟩,fun w=>(by kernel_rfl),trivial⟩⟩
def SM:TE Tryz.prog:=⟨84,(.int .u64),⟨fun _=>⟨fun w=>(by kernel_rfl),fun w=>(by kernel_rfl)⟩,fun h=>(by cases h),fun w=>(by kernel_rfl),(show Tryz.prog.underlying 84=some (.int .u64) by kernel_rfl)⟩⟩
def Td:TE Tryz.prog:=⟨86,gc,⟨fun h=>(by cases h),fun _=>⟨fun w=>(by kernel_rfl),fun w=>(by kernel_rfl)⟩,fun w=>(by kernel_rfl),trivial⟩⟩
def S1:TE Tryz.prog:=⟨89,eY,⟨fun h=>(by cases h),fun _=>⟨fun w=>(by kernel_rfl),fun w=>(by kernel_rfl)⟩,fun w=>(by kernel_rfl),trivial⟩⟩
def Rl:TE Tryz.prog:=⟨103,am,⟨fun h=>(by cases h),fun _=>⟨fun w=>(by kernel_rfl),fun w=>(by kernel_rfl)⟩,fun w=>(by kernel_rfl),trivial⟩⟩
def Rw:TE Tryz.prog:=⟨108,aX,⟨fun h=>(by cases h),fun _=>⟨fun w=>(by kernel_rfl),fun w=>(by kernel_rfl)⟩,fun w=>(by kernel_rfl),trivial⟩⟩
def QD:TE Tryz.prog:=⟨113,iC,⟨fun h=>(by cases h),fun _=>⟨fun w=>(by kernel_rfl),fun w=>(by kernel_rfl)⟩,fun w=>(by kernel_rfl),trivial⟩⟩
def Rb:TE Tryz.prog:=⟨140,(.sl dZ),⟨fun _=>⟨fun w=>(by kernel_rfl),fun w=>(by kernel_rfl)⟩,fun h=>(by cases h),fun w=>(by kernel_rfl),trivial⟩⟩
def Rz:TE Tryz.prog:=⟨142,dZ,⟨fun h=>(by cases h),fun _=>⟨fun w=>(by kernel_rfl),fun w=>(by kernel_rfl)⟩,fun w=>(by kernel_rfl),trivial⟩⟩
def QB:TE Tryz.prog:=⟨148,cH,⟨fun h=>(by cases h),fun _=>⟨fun w=>(by kernel_rfl),fun w=>(by kernel_rfl)⟩,fun w=>(by kernel_rfl),trivial⟩⟩
def RW:TE Tryz.prog:=⟨155,a_,⟨fun h=>(by cases h),fun _=>⟨fun w=>(by kernel_rfl),fun w=>(by kernel_rfl)⟩,fun w=>(by kernel_rfl),trivial⟩⟩
def RN:TE Tryz.prog:=⟨158,(.ar 8 .u64),⟨fun h=>(by cases h),fun _=>⟨fun w=>(by kernel_rfl),fun w=>(by kernel_rfl)⟩,fun w=>(by kernel_rfl),⟨34,(by kernel_rfl),⟨fun w=>(by kernel_rfl),fun w=>(by kernel_rfl)⟩⟩⟩⟩
def RG:TE Tryz.prog:=⟨161,(.int .u32),⟨fun _=>⟨fun w=>(by kernel_rfl),fun w=>(by kernel_rfl)⟩,fun h=>(by cases h),fun w=>(by kernel_rfl),(show Tryz.prog.underlying 161=some (.int .u32) by kernel_rfl)⟩⟩
def RJ:TE Tryz.prog:=⟨162,(.ar 64 .u32),⟨fun h=>(by cases h),fun _=>⟨fun w=>(by kernel_rfl),fun w=>(by kernel_rfl)⟩,fun w=>(by kernel_rfl),⟨161,(by kernel_rfl),⟨fun w=>(by kernel_rfl),fun w=>(by kernel_rfl)⟩⟩⟩⟩
def Q8:TE Tryz.prog:=⟨163,(.ar 8 .u32),⟨fun h=>(by cases h),fun _=>⟨fun w=>(by kernel_rfl),fun w=>(by kernel_rfl)⟩,fun w=>(by kernel_rfl),⟨161,(by kernel_rfl),⟨fun w=>(by kernel_rfl),fun w=>(by kernel_rfl)⟩⟩⟩⟩
def Rr:TE Tryz.prog:=⟨174,.err,⟨fun _=>⟨fun w=>(by kernel_rfl),fun w=>(by kernel_rfl)⟩,fun h=>(by cases h),fun w=>(by kernel_rfl),(Qr (show KU (Tryz.prog.underlying 174)=true by kernel_rfl))⟩⟩
def RB:TE Tryz.prog:=⟨182,(.ar 256 .u8),⟨fun h=>(by cases h),fun _=>⟨fun w=>(by kernel_rfl),fun w=>(by kernel_rfl)⟩,fun w=>(by kernel_rfl),⟨5,(by kernel_rfl),⟨fun w=>(by kernel_rfl),fun w=>(by kernel_rfl)⟩⟩⟩⟩
def QI:TE Tryz.prog:=⟨184,fz,⟨fun h=>(by cases h),fun _=>⟨fun w=>(by kernel_rfl),fun w=>(by kernel_rfl)⟩,fun w=>(by kernel_rfl),trivial⟩⟩
def QU:TE Tryz.prog:=⟨194,bR,⟨fun h=>(by cases h),fun _=>⟨fun w=>(by kernel_rfl),fun w=>(by kernel_rfl)⟩,fun w=>(by kernel_rfl),trivial⟩⟩
def Rh:TE Tryz.prog:=⟨212,aL,⟨fun h=>(by cases h),fun _=>⟨fun w=>(by kernel_rfl),fun w=>(by kernel_rfl)⟩,fun w=>(by kernel_rfl),trivial⟩⟩
def RP:TE Tryz.prog:=⟨230,.fl,⟨fun _=>⟨fun w=>(by kernel_rfl),fun w=>(by kernel_rfl)⟩,fun h=>(by cases h),fun w=>(by kernel_rfl),(show Tryz.prog.underlying 230=some (.float .f64) by kernel_rfl)⟩⟩
def RC:TE Tryz.prog:=⟨232,.f4,⟨fun _=>⟨fun w=>(by kernel_rfl),fun w=>(by kernel_rfl)⟩,fun h=>(by cases h),fun w=>(by kernel_rfl),(show Tryz.prog.underlying 232=some (.float .f32) by kernel_rfl)⟩⟩
def RU:TE Tryz.prog:=⟨235,(.int .u16),⟨fun _=>⟨fun w=>(by kernel_rfl),fun w=>(by kernel_rfl)⟩,fun h=>(by cases h),fun w=>(by kernel_rfl),(show Tryz.prog.underlying 235=some (.int .u16) by kernel_rfl)⟩⟩
def RI:TE Tryz.prog:=⟨265,(.int .i64),⟨fun _=>⟨fun w=>(by kernel_rfl),fun w=>(by kernel_rfl)⟩,fun h=>(by cases h),fun w=>(by kernel_rfl),(show Tryz.prog.underlying 265=some (.int .i64) by kernel_rfl)⟩⟩
def R6:TE Tryz.prog:=⟨272,(.ar 4 .u64),⟨fun h=>(by cases h),fun _=>⟨fun w=>(by kernel_rfl),fun w=>(by kernel_rfl)⟩,fun w=>(by kernel_rfl),⟨34,(by kernel_rfl),⟨fun w=>(by kernel_rfl),fun w=>(by kernel_rfl)⟩⟩⟩⟩
def Rn:TE Tryz.prog:=⟨306,(.int .u64),⟨fun _=>⟨fun w=>(by kernel_rfl),fun w=>(by kernel_rfl)⟩,fun h=>(by cases h),fun w=>(by kernel_rfl),(show Tryz.prog.underlying 306=some (.int .u64) by kernel_rfl)⟩⟩
def SX:SE Tryz.prog:=⟨22,3,(.int .i64),8,⟨(by kernel_rfl),kg (by kernel_rfl),(by kernel_rfl),(by decide)⟩,fun w=>(by kernel_rfl),rfl⟩
def Pj:SE Tryz.prog:=⟨23,5,(.int .u8),1,⟨(by kernel_rfl),kg (by kernel_rfl),(by kernel_rfl),(by decide)⟩,fun w=>(by kernel_rfl),rfl⟩
def SZ:SE Tryz.prog:=⟨35,37,.tree,64,⟨(by kernel_rfl),kg (by kernel_rfl),(by kernel_rfl),(by decide)⟩,fun w=>(by kernel_rfl),rfl⟩
def Tf:SE Tryz.prog:=⟨47,89,eY,32,⟨(by kernel_rfl),kg (by kernel_rfl),(by kernel_rfl),(by decide)⟩,fun w=>(by kernel_rfl),rfl⟩
def RM:SE Tryz.prog:=⟨110,113,iC,128,⟨(by kernel_rfl),kg (by kernel_rfl),(by kernel_rfl),(by decide)⟩,fun w=>(by kernel_rfl),rfl⟩
def Rm:SE Tryz.prog:=⟨118,23,(.sl (.int .u8)),24,⟨(by kernel_rfl),kg (by kernel_rfl),(by kernel_rfl),(by decide)⟩,fun w=>(by kernel_rfl),rfl⟩
def RO:SE Tryz.prog:=⟨127,34,(.int .u64),8,⟨(by kernel_rfl),kg (by kernel_rfl),(by kernel_rfl),(by decide)⟩,fun w=>(by kernel_rfl),rfl⟩
def RS:SE Tryz.prog:=⟨140,142,dZ,152,⟨(by kernel_rfl),kg (by kernel_rfl),(by kernel_rfl),(by decide)⟩,fun w=>(by kernel_rfl),rfl⟩
def R9:SE Tryz.prog:=⟨153,155,a_,152,⟨(by kernel_rfl),kg (by kernel_rfl),(by kernel_rfl),(by decide)⟩,fun w=>(by kernel_rfl),rfl⟩
def Ra:SE Tryz.prog:=⟨190,9,.str,16,⟨(by kernel_rfl),kg (by kernel_rfl),(by kernel_rfl),(by decide)⟩,fun w=>(by kernel_rfl),rfl⟩
def Pn:FE Tryz.prog:=⟨29,0,0,fun w a=>by kernel_rfl⟩
def OC:FE Tryz.prog:=⟨29,1,1,fun w a=>by kernel_rfl⟩
def PA:FE Tryz.prog:=⟨29,2,2,fun w a=>by kernel_rfl⟩
def OQ:FE Tryz.prog:=⟨29,3,3,fun w a=>by kernel_rfl⟩
def Qf:FE Tryz.prog:=⟨29,4,4,fun w a=>by kernel_rfl⟩
def OG:FE Tryz.prog:=⟨29,5,5,fun w a=>by kernel_rfl⟩
def PF:FE Tryz.prog:=⟨29,6,6,fun w a=>by kernel_rfl⟩
def PH:FE Tryz.prog:=⟨37,0,0,fun w a=>by kernel_rfl⟩
def Pd:FE Tryz.prog:=⟨37,1,1,fun w a=>by kernel_rfl⟩
def O4:FE Tryz.prog:=⟨37,2,2,fun w a=>by kernel_rfl⟩
def Qj:FE Tryz.prog:=⟨37,3,3,fun w a=>by kernel_rfl⟩
def P_:FE Tryz.prog:=⟨39,0,0,fun w a=>by kernel_rfl⟩
def OY:FE Tryz.prog:=⟨39,1,4,fun w a=>by kernel_rfl⟩
def Pb:FE Tryz.prog:=⟨41,0,0,fun w a=>by kernel_rfl⟩
def Pz:FE Tryz.prog:=⟨41,1,8,fun w a=>by kernel_rfl⟩
def Ph:FE Tryz.prog:=⟨41,2,9,fun w a=>by kernel_rfl⟩
def Qd:FE Tryz.prog:=⟨49,0,0,fun w a=>by kernel_rfl⟩
def PR:FE Tryz.prog:=⟨49,1,1,fun w a=>by kernel_rfl⟩
def OU:FE Tryz.prog:=⟨49,2,2,fun w a=>by kernel_rfl⟩
def PN:FE Tryz.prog:=⟨49,3,3,fun w a=>by kernel_rfl⟩
def O8:FE Tryz.prog:=⟨49,4,4,fun w a=>by kernel_rfl⟩
def OH:FE Tryz.prog:=⟨49,5,5,fun w a=>by kernel_rfl⟩
def Pf:FE Tryz.prog:=⟨66,0,0,fun w a=>by kernel_rfl⟩
def Pe:FE Tryz.prog:=⟨66,1,1,fun w a=>by kernel_rfl⟩
def OZ:FE Tryz.prog:=⟨86,0,0,fun w a=>by kernel_rfl⟩
def P9:FE Tryz.prog:=⟨86,1,1,fun w a=>by kernel_rfl⟩
def Pc:FE Tryz.prog:=⟨89,0,0,fun w a=>by kernel_rfl⟩
def OE:FE Tryz.prog:=⟨89,1,1,fun w a=>by kernel_rfl⟩
def M4:FE Tryz.prog:=⟨103,0,0,fun w a=>by kernel_rfl⟩
def NP:FE Tryz.prog:=⟨103,1,1,fun w a=>by kernel_rfl⟩
def Nt:FE Tryz.prog:=⟨103,2,2,fun w a=>by kernel_rfl⟩
def NK:FE Tryz.prog:=⟨103,3,3,fun w a=>by kernel_rfl⟩
def LU:FE Tryz.prog:=⟨103,4,4,fun w a=>by kernel_rfl⟩
def NE:FE Tryz.prog:=⟨108,0,0,fun w a=>by kernel_rfl⟩
def Ny:FE Tryz.prog:=⟨108,1,1,fun w a=>by kernel_rfl⟩
def Mu:FE Tryz.prog:=⟨108,2,2,fun w a=>by kernel_rfl⟩
def Mp:FE Tryz.prog:=⟨113,0,0,fun w a=>by kernel_rfl⟩
def Mb:FE Tryz.prog:=⟨113,1,4,fun w a=>by kernel_rfl⟩
def Nz:FE Tryz.prog:=⟨142,0,0,fun w a=>by kernel_rfl⟩
def No:FE Tryz.prog:=⟨142,1,1,fun w a=>by kernel_rfl⟩
def ND:FE Tryz.prog:=⟨142,2,5,fun w a=>by kernel_rfl⟩
def Nw:FE Tryz.prog:=⟨148,0,0,fun w a=>by kernel_rfl⟩
def MK:FE Tryz.prog:=⟨148,1,1,fun w a=>by kernel_rfl⟩
def LT:FE Tryz.prog:=⟨155,0,0,fun w a=>by kernel_rfl⟩
def MV:FE Tryz.prog:=⟨155,1,1,fun w a=>by kernel_rfl⟩
def LP:FE Tryz.prog:=⟨155,2,5,fun w a=>by kernel_rfl⟩
def Nr:FE Tryz.prog:=⟨184,0,0,fun w a=>by kernel_rfl⟩
def Mq:FE Tryz.prog:=⟨184,1,1,fun w a=>by kernel_rfl⟩
def M3:FE Tryz.prog:=⟨194,0,0,fun w a=>by kernel_rfl⟩
def Nx:FE Tryz.prog:=⟨194,1,1,fun w a=>by kernel_rfl⟩
def MU:FE Tryz.prog:=⟨194,2,2,fun w a=>by kernel_rfl⟩
def Na:FE Tryz.prog:=⟨212,0,0,fun w a=>by kernel_rfl⟩
def NB:FE Tryz.prog:=⟨212,1,1,fun w a=>by kernel_rfl⟩
def MJ:FE Tryz.prog:=⟨212,2,2,fun w a=>by kernel_rfl⟩
def Mg:FE Tryz.prog:=⟨212,3,3,fun w a=>by kernel_rfl⟩
def Tc:BE Tryz.prog:=⟨29,ee,[(0,(.int .i64)),(1,(.int .i64)),(2,(.int .i64)),(3,(.sl (.int .u8))),(4,(.sl (.int .u8))),(5,(.sl (.int .u8))),(6,(.sl (.int .u8)))],fun vs r h=>Eq.trans (by kernel_rfl) h⟩
def S_:BE Tryz.prog:=⟨37,.tree,[(0,(.int .i64)),(1,(.int .u64)),(2,(.sl (.int .u8))),(3,(.sl .tree))],fun vs r h=>Eq.trans (by kernel_rfl) h⟩
def Tm:BE Tryz.prog:=⟨39,aQ,[(0,.tree),(4,.tree)],fun vs r h=>Eq.trans (by kernel_rfl) h⟩
def Sv:BE Tryz.prog:=⟨41,dV,[(0,aQ),(8,(.sl (.int .u8))),(9,(.sl (.int .u8)))],fun vs r h=>Eq.trans (by kernel_rfl) h⟩
def SF:BE Tryz.prog:=⟨49,eA,[(0,(.int .i64)),(1,(.int .i64)),(2,(.int .i64)),(3,(.sl (.int .u8))),(4,(.sl eY)),(5,(.sl (.int .u8)))],fun vs r h=>Eq.trans (by kernel_rfl) h⟩
def S9:BE Tryz.prog:=⟨66,ao,[(0,(.sl (.int .i64))),(1,(.int .i64))],fun vs r h=>Eq.trans (by kernel_rfl) h⟩
def Tz:BE Tryz.prog:=⟨86,gc,[(0,(.sl (.int .u8))),(1,.bool)],fun vs r h=>Eq.trans (by kernel_rfl) h⟩
def Tl:BE Tryz.prog:=⟨89,eY,[(0,(.int .i64)),(1,(.sl (.int .u8)))],fun vs r h=>Eq.trans (by kernel_rfl) h⟩
def Rk:BE Tryz.prog:=⟨103,am,[(0,(.sl (.int .u8))),(1,(.int .i64)),(2,(.int .i64)),(3,.bool),(4,.bool)],fun vs r h=>Eq.trans (by kernel_rfl) h⟩
def Sc:BE Tryz.prog:=⟨108,aX,[(0,.str),(1,(.int .i64)),(2,.bool)],fun vs r h=>Eq.trans (by kernel_rfl) h⟩
def Sj:BE Tryz.prog:=⟨113,iC,[(0,.tree),(4,.tree)],fun vs r h=>Eq.trans (by kernel_rfl) h⟩
def Q5:BE Tryz.prog:=⟨142,dZ,[(0,(.sl (.int .u8))),(1,.tree),(5,.tree)],fun vs r h=>Eq.trans (by kernel_rfl) h⟩
def R0:BE Tryz.prog:=⟨155,a_,[(0,(.sl (.int .u8))),(1,.tree),(5,.tree)],fun vs r h=>Eq.trans (by kernel_rfl) h⟩
def QW:BE Tryz.prog:=⟨163,(.ar 8 .u32),CE .u32 8 0,fun vs r h=>Eq.trans (show Tryz.prog.built 163 vs=Instr.fill (fun i=>some (i*1,1)) (zc (.ar 8 .u32)).toArray vs by kernel_rfl) (Fo h)⟩
def QN:BE Tryz.prog:=⟨194,bR,[(0,(.sl (.int .u8))),(1,(.int .i64)),(2,(.int .i64))],fun vs r h=>Eq.trans (by kernel_rfl) h⟩
def RT:BE Tryz.prog:=⟨212,aL,[(0,(.int .u8)),(1,(.int .u8)),(2,(.int .u64)),(3,(.int .i64))],fun vs r h=>Eq.trans (by kernel_rfl) h⟩
def Q6:BE Tryz.prog:=⟨272,(.ar 4 .u64),CE .u64 4 0,fun vs r h=>Eq.trans (show Tryz.prog.built 272 vs=Instr.fill (fun i=>some (i*1,1)) (zc (.ar 4 .u64)).toArray vs by kernel_rfl) (Fo h)⟩
def Sa:MQ Tryz.prog:=⟨134,3,133,(by kernel_rfl),(by kernel_rfl),fun w=>(by kernel_rfl),(by kernel_rfl)⟩
def Re:MQ Tryz.prog:=⟨136,3,135,(by kernel_rfl),(by kernel_rfl),fun w=>(by kernel_rfl),(by kernel_rfl)⟩
def TV:List (MQ Tryz.prog):=[Sa,Re]
def TQ:List (ME Tryz.prog):=[]
def tes:List (TE Tryz.prog):=[T7,TO,TX,T5,Tt,Tv,Th,S8,S4,SC,Sw,Tq,SY,S3,SW,SB,S6,SM,Td,S1,Rl,Rw,QD,Rb,Rz,QB,RW,RN,RG,RJ,Q8,Rr,RB,QI,QU,Rh,RP,RC,RU,RI,R6,Rn]
def A':List (SE Tryz.prog):=[SX,Pj,SZ,Tf,RM,Rm,RO,RS,R9,Ra]
def TU:List (FE Tryz.prog):=[Pn,OC,PA,OQ,Qf,OG,PF,PH,Pd,O4,Qj,P_,OY,Pb,Pz,Ph,Qd,PR,OU,PN,O8,OH,Pf,Pe,OZ,P9,Pc,OE,M4,NP,Nt,NK,LU,NE,Ny,Mu,Mp,Mb,Nz,No,ND,Nw,MK,LT,MV,LP,Nr,Mq,M3,Nx,MU,Na,NB,MJ,Mg]
def TT:List (BE Tryz.prog):=[Tc,S_,Tm,Sv,SF,S9,Tz,Tl,Rk,Sc,Sj,Q5,R0,QW,QN,RT,Q6]
def TZ:List (FD Tryz.prog):=[]
def T9:List (QE Tryz.prog):=[]
theorem Ab : ∃l:List UInt8,l=(List.range 256).map (fun c=>UInt8.ofNat (Lib.firstT c)):=⟨_,rfl⟩
noncomputable def ql:List UInt8:=Classical.choose Ab
theorem zI:ql=(List.range 256).map (fun c=>UInt8.ofNat (Lib.firstT c)):=Classical.choose_spec Ab
theorem w8:ql.length=256:=by rw[zI,List.length_map,List.length_range]
theorem Ah : ∃l:List (UInt8×UInt8),l=(List.range 16).map (fun c=>(UInt8.ofNat (Lib.accLo c),UInt8.ofNat (Lib.accHi c))):=⟨_,rfl⟩
noncomputable def qN:List (UInt8×UInt8):=Classical.choose Ah
theorem zo:qN=(List.range 16).map (fun c=>(UInt8.ofNat (Lib.accLo c),UInt8.ofNat (Lib.accHi c))):=Classical.choose_spec Ah
theorem xy:qN.length=16:=by rw[zo,List.length_map,List.length_range]
theorem O1 : ∀c:Fin 256,Lib.firstT c.1<256:=by decide +kernel
theorem Po : ∀c:Fin 16,Lib.accLo c.1<256∧Lib.accHi c.1<256:=by decide +kernel
theorem B6{α β:Type}{f:α→β}{l:List α}{i:Nat}{x:β}(h:(l.map f)[i]?=some x): ∃y,l[i]?=some y∧f y=x:=by
 rw[List.getElem?_map]at h;exact Option.map_eq_some_iff.1 h
noncomputable def Ub:GE Tryz.prog where
 id:=182
 gl:=1
 pt:=.int .u8
 xs:=ql
 el:=5
 und:=by
  have h:List.length (α:=den (.int .u8)) ql=256:=w8
  exact h▸(show Tryz.prog.underlying 182=some (.array 256 5) by kernel_rfl)
 sz:=fun w=>show(Go.sizeOf 5).run Tryz.prog w = .ok 1 w by kernel_rfl
 hg:=by decide
 ag:=false
 agk:=fun h=>by cases h
 cells:=fun w0 hF i x hx=>by
  have hx:ql[i]?=some x:=hx
  rw[zI]at hx
  obtain⟨c,hc,rfl⟩:=B6 hx
  obtain⟨hlt,rfl⟩:=List.getElem?_eq_some_iff.1 hc
  rw[List.getElem_range]at *
  rw[List.length_range]at hlt
  have hv:=O1 ⟨i,hlt⟩
  have hv:Lib.firstT i<256:=hv
  refine⟨[.int .u8 ((UInt8.ofNat (Lib.firstT i)).toNat:Int)],fun _ _=>rfl,fun j u hj=>?_⟩
  match j,hj with
  |0,hj=>
   cases hj
   have:=hF.2.1.1 i hlt
   rw[show i*cX (.int .u8)+0=i by show i*1+0=i;omega,this,UInt8.toNat_ofNat',Nat.mod_eq_of_lt (show Lib.firstT i<2^8 from hv)]
noncomputable def Ua:GE Tryz.prog where
 id:=185
 gl:=2
 pt:=fz
 xs:=qN
 el:=184
 und:=by
  have h:List.length (α:=den fz) qN=16:=xy
  exact h▸(show Tryz.prog.underlying 185=some (.array 16 184) by kernel_rfl)
 sz:=fun w=>show(Go.sizeOf 184).run Tryz.prog w = .ok 2 w by kernel_rfl
 hg:=by decide
 ag:=false
 agk:=fun h=>by cases h
 cells:=fun w0 hF i x hx=>by
  have hx:qN[i]?=some x:=hx
  rw[zo]at hx
  obtain⟨c,hc,rfl⟩:=B6 hx
  obtain⟨hlt,rfl⟩:=List.getElem?_eq_some_iff.1 hc
  rw[List.getElem_range]at *
  rw[List.length_range]at hlt
  obtain⟨v1,v2⟩:=Po ⟨i,hlt⟩
  have v1:Lib.accLo i<256:=v1
  have v2:Lib.accHi i<256:=v2
  refine⟨[.int .u8 ((UInt8.ofNat (Lib.accLo i)).toNat:Int),.int .u8 ((UInt8.ofNat (Lib.accHi i)).toNat:Int)],fun _ _=>⟨[_],[_],rfl,rfl,rfl⟩,fun j u hj=>?_⟩
  obtain⟨h1,h2⟩:=hF.2.1.2 i hlt
  match j,hj with
  |0,hj=>
   cases hj
   rw[show i*cX fz+0=2*i by show i*2+0=2*i;omega,h1,UInt8.toNat_ofNat',Nat.mod_eq_of_lt (show Lib.accLo i<2^8 from v1)]
  |1,hj=>
   cases hj
   rw[show i*cX fz+1=2*i+1 by show i*2+1=2*i+1;omega,h2,UInt8.toNat_ofNat',Nat.mod_eq_of_lt (show Lib.accHi i<2^8 from v2)]
def T3:GE Tryz.prog where
 id:=151
 gl:=0
 pt:=.str
 xs:=[[102,97,108,115,101],[116,114,117,101],[110,117,108,108],[117,110,100,101,102,105,110,101,100]]
 el:=9
 und:=show Tryz.prog.underlying 151=some (.array 4 9) by kernel_rfl
 sz:=fun w=>show(Go.sizeOf 9).run Tryz.prog w = .ok 1 w by kernel_rfl
 hg:=by decide
 ag:=true
 agk:=fun _=>⟨⟨fun w=>by kernel_rfl,fun w=>by kernel_rfl⟩,rfl,rfl,⟨fun w=>by kernel_rfl,fun w=>by kernel_rfl⟩⟩
 cells:=fun w0 hF i x hx=>by
  obtain⟨h0,h1,h2,h3⟩:=hF.2.2.1
  match i,hx with
  |0,hx=>
   cases hx
   refine⟨[er [102,97,108,115,101]],fun _ _=>rfl,fun j u hj=>?_⟩
   match j,hj with
   |0,hj=>cases hj;exact h0
  |1,hx=>
   cases hx
   refine⟨[er [116,114,117,101]],fun _ _=>rfl,fun j u hj=>?_⟩
   match j,hj with
   |0,hj=>cases hj;exact h1
  |2,hx=>
   cases hx
   refine⟨[er [110,117,108,108]],fun _ _=>rfl,fun j u hj=>?_⟩
   match j,hj with
   |0,hj=>cases hj;exact h2
  |3,hx=>
   cases hx
   refine⟨[er [117,110,100,101,102,105,110,101,100]],fun _ _=>rfl,fun j u hj=>?_⟩
   match j,hj with
   |0,hj=>cases hj;exact h3
noncomputable def TY:List (GE Tryz.prog):=[T3,Ub,Ua]
def QR:XE Tryz.prog:=⟨151,.int .u64,.fl,fun n=>n,fun x v lab w h=>by
 obtain rfl:=br.int (k:=.u64) h
 refine⟨.float .f64 (UInt64.toNat x),?_,⟨_,rfl,rfl⟩⟩
 have : ∀n:Int,(callFunc 151 #[.int .u64 n]).run Tryz.prog w = .ok (.value (.float .f64 n.toNat)) w:=fun n=>by kernel_rfl
 have h2:=this (cO .u64 x)
 rw[h2]
 rfl⟩
def QX:XE Tryz.prog:=⟨152,.fl,.int .u64,fun n=>n,fun x v lab w h=>by
 obtain rfl:=br.fl h
 refine⟨.int .u64 (cO .u64 x),?_,br.ofInt (k:=.u64) x⟩
 have : ∀n:Nat,(callFunc 152 #[.float .f64 n]).run Tryz.prog w = .ok (.value (.int .u64 (n:Int))) w:=fun n=>by kernel_rfl
 exact this x.toNat⟩
def QK:XE Tryz.prog:=⟨189,.int .u32,.f4,fun n=>n,fun x v lab w h=>by
 obtain rfl:=br.int (k:=.u32) h
 refine⟨.float .f32 (UInt32.toNat x),?_,⟨_,rfl,rfl⟩⟩
 have : ∀n:Int,(callFunc 189 #[.int .u32 n]).run Tryz.prog w = .ok (.value (.float .f32 n.toNat)) w:=fun n=>by kernel_rfl
 have h2:=this (cO .u32 x)
 rw[h2]
 rfl⟩
def TP:List (XE Tryz.prog):=[QR,QX,QK]
def Ry:XM Tryz.prog:=⟨253,[.int .u64,.int .u64,.int .u64],[.int .u64,.int .u64],xK,Ie (fun x y w=>(by kernel_rfl)) (fun x y w=>(by kernel_rfl))⟩
def Ro:XM Tryz.prog:=⟨252,[.int .u64,.int .u64,.int .u64],[.int .u64,.int .u64],zM,KO (fun x y w=>(by kernel_rfl)) (fun x y w=>(by kernel_rfl))⟩
def R2:XM Tryz.prog:=⟨246,[.fl],[.fl],C6,Js (fun n w=>(by kernel_rfl))⟩
def QH : XM Tryz.prog := ⟨249, [.fl], [.fl], sK .down, zQ (nm := "math.archFloor") (fun n w => (by kernel_rfl))⟩
def QQ : XM Tryz.prog := ⟨288, [.fl], [.fl], sK .zero, zQ (nm := "math.archTrunc") (fun n w => (by kernel_rfl))⟩
def TS:List (XM Tryz.prog):=[Ry,Ro,R2,QH,QQ]
theorem RF:Tryz.prog.follows .mixedOrders=true:=by kernel_rfl
end Go.Proofs.YtiilbonamnegaaaGreatDoor
