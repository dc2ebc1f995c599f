/- A part of the proof of TopChain. No condition. -/
import Derived.Test.YtimjjookppejeaaGreatDoorZe
import Derived.Test.YtimjjookppejeaaGreatDoorProg
namespace Go.Proofs.YtimjjookppejeaaGreatDoor
open Go.Gk Go.RowKit
def qI(f:Func):Code:=match f.body with |some c=>c |none=>.skip
def Jg:Option TypeDesc→Bool
 |some (.interface _)=>true
 |_=>false
theorem Mw{o:Option TypeDesc}(h:Jg o=true): ∃ms,o=some (.interface ms):=by
 unfold Jg at h
 split at h
 ·exact⟨_,rfl⟩
 ·cases h
def fQ:PT:=.st (.pr (.sl (.int .i64)) (.int .i64))
abbrev eA:=List Int×Int
def dl:PT:=.st (.pr (.ar 4 .u64) (.ar 4 .u64))
abbrev aJ:=List UInt64×List UInt64
def aZ:PT:=.st (.pr (.ar 4 .u64) (.pr (.ar 4 .u64) (.pr (.ar 4 .u64) (.ar 4 .u64))))
abbrev ak:=List UInt64×List UInt64×List UInt64×List UInt64
def dA:PT:=.st (.pr (.int .i64) (.pr (.int .i64) (.pr (.int .i64) (.pr (.sl (.int .u8)) (.pr (.sl (.int .u8)) (.pr (.sl (.int .u8)) (.sl (.int .u8))))))))
abbrev aY:=Int×Int×Int×List UInt8×List UInt8×List UInt8×List UInt8
def aT:PT:=.st (.pr .str (.pr .str (.pr (.int .i64) (.pr (.int .i64) dA))))
abbrev aq:=List UInt8×List UInt8×Int×Int×aY
def bI:PT:=.st (.pr (.int .i64) (.int .i64))
abbrev bc:=Int×Int
def cG:PT:=.st (.pr (.sl (.int .u8)) (.pr .tree .tree))
abbrev av:=List UInt8×Tr×Tr
def bp:PT:=.st (.pr .tree .tree)
abbrev aw:=Tr×Tr
def gf:PT:=.st (.pr .tree .tree)
def cK:PT:=.st (.pr bp (.pr (.sl (.int .u8)) (.sl (.int .u8))))
abbrev cw:=aw×List UInt8×List UInt8
def bj:PT:=.st (.pr (.sl (.int .u8)) (.pr (.int .i64) (.int .i64)))
abbrev aC:=List UInt8×Int×Int
def gc:PT:=.st (.pr (.int .i64) (.pr (.sl (.int .u8)) (.sl (.sl (.int .u8)))))
abbrev dy:=Int×List UInt8×List (List UInt8)
def aE:PT:=.st (.pr (.int .u8) (.pr (.int .u8) (.pr (.int .u64) (.int .i64))))
abbrev aH:=UInt8×UInt8×UInt64×Int
def ai:PT:=.st (.pr (.sl (.int .u8)) (.pr (.int .i64) (.pr (.int .i64) (.pr .bool .bool))))
abbrev ah:=List UInt8×Int×Int×Bool×Bool
def aR:PT:=.st (.pr (.sl (.int .u8)) (.pr .tree .tree))
def o_:PT:=.st (.pr (.sl (.sl (.int .u8))) (.sl (.sl (.int .u8))))
abbrev BK:=List (List UInt8)×List (List UInt8)
def aK:PT:=.st (.pr .str (.pr (.int .i64) .bool))
abbrev aA:=List UInt8×Int×Bool
def eD:PT:=.st (.pr (.int .u8) (.int .u8))
def Ur:TE Tryz.prog:=⟨3,(.int .i64),⟨fun _=>⟨fun w=>(by kernel_rfl),fun w=>(by kernel_rfl)⟩,fun h=>(by cases h),fun w=>(by kernel_rfl),(show Tryz.prog.underlying 3=some (.int .i64) by kernel_rfl)⟩⟩
def UC:TE Tryz.prog:=⟨4,.bool,⟨fun _=>⟨fun w=>(by kernel_rfl),fun w=>(by kernel_rfl)⟩,fun h=>(by cases h),fun w=>(by kernel_rfl),(show Tryz.prog.underlying 4=some .bool by kernel_rfl)⟩⟩
def Ui:TE Tryz.prog:=⟨5,(.int .u8),⟨fun _=>⟨fun w=>(by kernel_rfl),fun w=>(by kernel_rfl)⟩,fun h=>(by cases h),fun w=>(by kernel_rfl),(show Tryz.prog.underlying 5=some (.int .u8) by kernel_rfl)⟩⟩
def Ut:TE Tryz.prog:=⟨9,.str,⟨fun _=>⟨fun w=>(by kernel_rfl),fun w=>(by kernel_rfl)⟩,fun h=>(by cases h),fun w=>(by kernel_rfl),(show Tryz.prog.underlying 9=some .string by kernel_rfl)⟩⟩
def SG:TE Tryz.prog:=⟨12,(.int .u64),⟨fun _=>⟨fun w=>(by kernel_rfl),fun w=>(by kernel_rfl)⟩,fun h=>(by cases h),fun w=>(by kernel_rfl),(show Tryz.prog.underlying 12=some (.int .u64) by kernel_rfl)⟩⟩
def Tv:TE Tryz.prog:=⟨22,(.sl (.int .i64)),⟨fun _=>⟨fun w=>(by kernel_rfl),fun w=>(by kernel_rfl)⟩,fun h=>(by cases h),fun w=>(by kernel_rfl),trivial⟩⟩
def ST:TE Tryz.prog:=⟨26,(.sl (.int .u8)),⟨fun _=>⟨fun w=>(by kernel_rfl),fun w=>(by kernel_rfl)⟩,fun h=>(by cases h),fun w=>(by kernel_rfl),trivial⟩⟩
def SZ:TE Tryz.prog:=⟨27,(.int .i64),⟨fun _=>⟨fun w=>(by kernel_rfl),fun w=>(by kernel_rfl)⟩,fun h=>(by cases h),fun w=>(by kernel_rfl),(show Tryz.prog.underlying 27=some (.int .i64) by kernel_rfl)⟩⟩
def Sv:TE Tryz.prog:=⟨32,dA,⟨fun h=>(by cases h),fun _=>⟨fun w=>(by kernel_rfl),fun w=>(by kernel_rfl)⟩,fun w=>(by kernel_rfl),trivial⟩⟩
def TU:TE Tryz.prog:=⟨34,aT,⟨fun h=>(by cases h),fun _=>⟨fun w=>(by kernel_rfl),fun w=>(by kernel_rfl)⟩,fun w=>(by kernel_rfl),trivial⟩⟩
def S7:TE Tryz.prog:=⟨37,(.sl (.sl (.int .u8))),⟨fun _=>⟨fun w=>(by kernel_rfl),fun w=>(by kernel_rfl)⟩,fun h=>(by cases h),fun w=>(by kernel_rfl),trivial⟩⟩
def TR:TE Tryz.prog:=⟨39,gc,⟨fun h=>(by cases h),fun _=>⟨fun w=>(by kernel_rfl),fun w=>(by kernel_rfl)⟩,fun w=>(by kernel_rfl),trivial⟩⟩
def SR:TE Tryz.prog:=⟨42,(.int .u64),⟨fun _=>⟨fun w=>(by kernel_rfl),fun w=>(by kernel_rfl)⟩,fun h=>(by cases h),fun w=>(by kernel_rfl),(show Tryz.prog.underlying 42=some (.int .u64) by kernel_rfl)⟩⟩
def Sw:TE Tryz.prog:=⟨43,(.sl .tree),⟨fun _=>⟨fun w=>(by kernel_rfl),fun w=>(by kernel_rfl)⟩,fun h=>(by cases h),fun w=>(by kernel_rfl),trivial⟩⟩
def SA:TE Tryz.prog:=⟨45,.tree,⟨fun h=>(by cases h),fun _=>⟨fun w=>(by kernel_rfl),fun w=>(by kernel_rfl)⟩,fun w=>(by kernel_rfl),trivial⟩⟩
def Tt:TE Tryz.prog:=⟨56,o_,⟨fun h=>(by cases h),fun _=>⟨fun w=>(by kernel_rfl),fun w=>(by kernel_rfl)⟩,fun w=>(by kernel_rfl),trivial⟩⟩
def S':TE Tryz.prog:=⟨61,fQ,⟨fun h=>(by cases h),fun _=>⟨fun w=>(by kernel_rfl),fun w=>(by kernel_rfl)⟩,fun w=>(by kernel_rfl),trivial⟩⟩
def T3:TE Tryz.prog:=⟨63,(.ar 4 .u64),⟨fun h=>(by cases h),fun _=>⟨fun w=>(by kernel_rfl),fun w=>(by kernel_rfl)⟩,fun w=>(by kernel_rfl),⟨42,(by kernel_rfl),⟨fun w=>(by kernel_rfl),fun w=>(by kernel_rfl)⟩⟩⟩⟩
def SW:TE Tryz.prog:=⟨67,(.ar 32 .u8),⟨fun h=>(by cases h),fun _=>⟨fun w=>(by kernel_rfl),fun w=>(by kernel_rfl)⟩,fun w=>(by kernel_rfl),⟨5,(by kernel_rfl),⟨fun w=>(by kernel_rfl),fun w=>(by kernel_rfl)⟩⟩⟩⟩
def TZ:TE Tryz.prog:=⟨69,dl,⟨fun h=>(by cases h),fun _=>⟨fun w=>(by kernel_rfl),fun w=>(by kernel_rfl)⟩,fun w=>(by kernel_rfl),trivial⟩⟩
def TV:TE Tryz.prog:=⟨72,(.int .u64),⟨fun _=>⟨fun w=>(by kernel_rfl),fun w=>(by kernel_rfl)⟩,fun h=>(by cases h),fun w=>(by kernel_rfl),(show Tryz.prog.underlying 72=some (.int .u64) by kernel_rfl)⟩⟩
def S5:TE Tryz.prog:=⟨75,bp,⟨fun h=>(by cases h),fun _=>⟨fun w=>(by kernel_rfl),fun w=>(by kernel_rfl)⟩,fun w=>(by kernel_rfl),trivial⟩⟩
def Tb:TE Tryz.prog:=⟨77,cK,⟨fun h=>(by cases h),fun _=>⟨fun w=>(by kernel_rfl),fun w=>(by kernel_rfl)⟩,fun w=>(by kernel_rfl),trivial⟩⟩
def Tc:TE Tryz.prog:=⟨95,ai,⟨fun h=>(by cases h),fun _=>⟨fun w=>(by kernel_rfl),fun w=>(by kernel_rfl)⟩,fun w=>(by kernel_rfl),trivial⟩⟩
def Ql:TE Tryz.prog:=⟨115,aZ,⟨fun h=>(by cases h),fun _=>⟨fun w=>(by kernel_rfl),fun w=>(by kernel_rfl)⟩,fun w=>(by kernel_rfl),trivial⟩⟩
def Rs:TE Tryz.prog:=⟨138,bI,⟨fun h=>(by cases h),fun _=>⟨fun w=>(by kernel_rfl),fun w=>(by kernel_rfl)⟩,fun w=>(by kernel_rfl),trivial⟩⟩
def RC:TE Tryz.prog:=⟨147,aR,⟨fun h=>(by cases h),fun _=>⟨fun w=>(by kernel_rfl),fun w=>(by kernel_rfl)⟩,fun w=>(by kernel_rfl),trivial⟩⟩
def R0:TE Tryz.prog:=⟨158,aK,⟨fun h=>(by cases h),fun _=>⟨fun w=>(by kernel_rfl),fun w=>(by kernel_rfl)⟩,fun w=>(by kernel_rfl),trivial⟩⟩
def Re:TE Tryz.prog:=⟨160,(.ar 8 .u64),⟨fun h=>(by cases h),fun _=>⟨fun w=>(by kernel_rfl),fun w=>(by kernel_rfl)⟩,fun w=>(by kernel_rfl),⟨42,(by kernel_rfl),⟨fun w=>(by kernel_rfl),fun w=>(by kernel_rfl)⟩⟩⟩⟩
def RE:TE Tryz.prog:=⟨174,(.ar 4 .u64),⟨fun h=>(by cases h),fun _=>⟨fun w=>(by kernel_rfl),fun w=>(by kernel_rfl)⟩,fun w=>(by kernel_rfl),⟨42,(by kernel_rfl),⟨fun w=>(by kernel_rfl),fun w=>(by kernel_rfl)⟩⟩⟩⟩
def Rj:TE Tryz.prog:=⟨183,gf,⟨fun h=>(by cases h),fun _=>⟨fun w=>(by kernel_rfl),fun w=>(by kernel_rfl)⟩,fun w=>(by kernel_rfl),trivial⟩⟩
def PO:TE Tryz.prog:=⟨193,(.int .u32),⟨fun _=>⟨fun w=>(by kernel_rfl),fun w=>(by kernel_rfl)⟩,fun h=>(by cases h),fun w=>(by kernel_rfl),(show Tryz.prog.underlying 193=some (.int .u32) by kernel_rfl)⟩⟩
def Q2:TE Tryz.prog:=⟨200,bj,⟨fun h=>(by cases h),fun _=>⟨fun w=>(by kernel_rfl),fun w=>(by kernel_rfl)⟩,fun w=>(by kernel_rfl),trivial⟩⟩
def Q0:TE Tryz.prog:=⟨205,.fl,⟨fun _=>⟨fun w=>(by kernel_rfl),fun w=>(by kernel_rfl)⟩,fun h=>(by cases h),fun w=>(by kernel_rfl),(show Tryz.prog.underlying 205=some (.float .f64) by kernel_rfl)⟩⟩
def Q1:TE Tryz.prog:=⟨214,aE,⟨fun h=>(by cases h),fun _=>⟨fun w=>(by kernel_rfl),fun w=>(by kernel_rfl)⟩,fun w=>(by kernel_rfl),trivial⟩⟩
def QZ:TE Tryz.prog:=⟨224,(.sl cG),⟨fun _=>⟨fun w=>(by kernel_rfl),fun w=>(by kernel_rfl)⟩,fun h=>(by cases h),fun w=>(by kernel_rfl),trivial⟩⟩
def PP:TE Tryz.prog:=⟨226,cG,⟨fun h=>(by cases h),fun _=>⟨fun w=>(by kernel_rfl),fun w=>(by kernel_rfl)⟩,fun w=>(by kernel_rfl),trivial⟩⟩
def RZ:TE Tryz.prog:=⟨242,.err,⟨fun _=>⟨fun w=>(by kernel_rfl),fun w=>(by kernel_rfl)⟩,fun h=>(by cases h),fun w=>(by kernel_rfl),(Mw (show Jg (Tryz.prog.underlying 242)=true by kernel_rfl))⟩⟩
def R':TE Tryz.prog:=⟨247,(.ar 80 .u64),⟨fun h=>(by cases h),fun _=>⟨fun w=>(by kernel_rfl),fun w=>(by kernel_rfl)⟩,fun w=>(by kernel_rfl),⟨42,(by kernel_rfl),⟨fun w=>(by kernel_rfl),fun w=>(by kernel_rfl)⟩⟩⟩⟩
def Sm:TE Tryz.prog:=⟨260,(.ar 256 .u8),⟨fun h=>(by cases h),fun _=>⟨fun w=>(by kernel_rfl),fun w=>(by kernel_rfl)⟩,fun w=>(by kernel_rfl),⟨5,(by kernel_rfl),⟨fun w=>(by kernel_rfl),fun w=>(by kernel_rfl)⟩⟩⟩⟩
def PQ:TE Tryz.prog:=⟨262,eD,⟨fun h=>(by cases h),fun _=>⟨fun w=>(by kernel_rfl),fun w=>(by kernel_rfl)⟩,fun w=>(by kernel_rfl),trivial⟩⟩
def P5:TE Tryz.prog:=⟨284,(.int .i64),⟨fun _=>⟨fun w=>(by kernel_rfl),fun w=>(by kernel_rfl)⟩,fun h=>(by cases h),fun w=>(by kernel_rfl),(show Tryz.prog.underlying 284=some (.int .i64) by kernel_rfl)⟩⟩
def PW:TE Tryz.prog:=⟨313,(.ar 4 .u64),⟨fun h=>(by cases h),fun _=>⟨fun w=>(by kernel_rfl),fun w=>(by kernel_rfl)⟩,fun w=>(by kernel_rfl),⟨42,(by kernel_rfl),⟨fun w=>(by kernel_rfl),fun w=>(by kernel_rfl)⟩⟩⟩⟩
def Tx:SE Tryz.prog:=⟨22,3,(.int .i64),8,⟨(by kernel_rfl),j1 (by kernel_rfl),(by kernel_rfl),(by decide)⟩,fun w=>(by kernel_rfl),rfl⟩
def QW:SE Tryz.prog:=⟨26,5,(.int .u8),1,⟨(by kernel_rfl),j1 (by kernel_rfl),(by kernel_rfl),(by decide)⟩,fun w=>(by kernel_rfl),rfl⟩
def Ty:SE Tryz.prog:=⟨37,26,(.sl (.int .u8)),24,⟨(by kernel_rfl),j1 (by kernel_rfl),(by kernel_rfl),(by decide)⟩,fun w=>(by kernel_rfl),rfl⟩
def Th:SE Tryz.prog:=⟨43,45,.tree,64,⟨(by kernel_rfl),j1 (by kernel_rfl),(by kernel_rfl),(by decide)⟩,fun w=>(by kernel_rfl),rfl⟩
def R_:SE Tryz.prog:=⟨101,34,aT,168,⟨(by kernel_rfl),j1 (by kernel_rfl),(by kernel_rfl),(by decide)⟩,fun w=>(by kernel_rfl),rfl⟩
def Sl:SE Tryz.prog:=⟨145,147,aR,152,⟨(by kernel_rfl),j1 (by kernel_rfl),(by kernel_rfl),(by decide)⟩,fun w=>(by kernel_rfl),rfl⟩
def Qn:SE Tryz.prog:=⟨159,42,(.int .u64),8,⟨(by kernel_rfl),j1 (by kernel_rfl),(by kernel_rfl),(by decide)⟩,fun w=>(by kernel_rfl),rfl⟩
def Rk:SE Tryz.prog:=⟨180,183,gf,128,⟨(by kernel_rfl),j1 (by kernel_rfl),(by kernel_rfl),(by decide)⟩,fun w=>(by kernel_rfl),rfl⟩
def R7:SE Tryz.prog:=⟨224,226,cG,152,⟨(by kernel_rfl),j1 (by kernel_rfl),(by kernel_rfl),(by decide)⟩,fun w=>(by kernel_rfl),rfl⟩
def MO:FE Tryz.prog:=⟨32,0,0,fun w a=>by kernel_rfl⟩
def Om:FE Tryz.prog:=⟨32,1,1,fun w a=>by kernel_rfl⟩
def Nx:FE Tryz.prog:=⟨32,2,2,fun w a=>by kernel_rfl⟩
def OT:FE Tryz.prog:=⟨32,3,3,fun w a=>by kernel_rfl⟩
def NQ:FE Tryz.prog:=⟨32,4,4,fun w a=>by kernel_rfl⟩
def Nm:FE Tryz.prog:=⟨32,5,5,fun w a=>by kernel_rfl⟩
def Ph:FE Tryz.prog:=⟨32,6,6,fun w a=>by kernel_rfl⟩
def Mz:FE Tryz.prog:=⟨34,0,0,fun w a=>by kernel_rfl⟩
def Px:FE Tryz.prog:=⟨34,1,1,fun w a=>by kernel_rfl⟩
def NB:FE Tryz.prog:=⟨34,2,2,fun w a=>by kernel_rfl⟩
def NF:FE Tryz.prog:=⟨34,3,3,fun w a=>by kernel_rfl⟩
def N1:FE Tryz.prog:=⟨34,4,4,fun w a=>by kernel_rfl⟩
def N':FE Tryz.prog:=⟨39,0,0,fun w a=>by kernel_rfl⟩
def M2:FE Tryz.prog:=⟨39,1,1,fun w a=>by kernel_rfl⟩
def OV:FE Tryz.prog:=⟨39,2,2,fun w a=>by kernel_rfl⟩
def N_:FE Tryz.prog:=⟨45,0,0,fun w a=>by kernel_rfl⟩
def M3:FE Tryz.prog:=⟨45,1,1,fun w a=>by kernel_rfl⟩
def O8:FE Tryz.prog:=⟨45,2,2,fun w a=>by kernel_rfl⟩
def OD:FE Tryz.prog:=⟨45,3,3,fun w a=>by kernel_rfl⟩
def Nj:FE Tryz.prog:=⟨56,0,0,fun w a=>by kernel_rfl⟩
def MX:FE Tryz.prog:=⟨56,1,1,fun w a=>by kernel_rfl⟩
def Ms:FE Tryz.prog:=⟨61,0,0,fun w a=>by kernel_rfl⟩
def MY:FE Tryz.prog:=⟨61,1,1,fun w a=>by kernel_rfl⟩
def Mx:FE Tryz.prog:=⟨69,0,0,fun w a=>by kernel_rfl⟩
def NX:FE Tryz.prog:=⟨69,1,4,fun w a=>by kernel_rfl⟩
def Oj:FE Tryz.prog:=⟨75,0,0,fun w a=>by kernel_rfl⟩
def ND:FE Tryz.prog:=⟨75,1,4,fun w a=>by kernel_rfl⟩
def NG:FE Tryz.prog:=⟨77,0,0,fun w a=>by kernel_rfl⟩
def No:FE Tryz.prog:=⟨77,1,8,fun w a=>by kernel_rfl⟩
def Oq:FE Tryz.prog:=⟨77,2,9,fun w a=>by kernel_rfl⟩
def O3:FE Tryz.prog:=⟨95,0,0,fun w a=>by kernel_rfl⟩
def My:FE Tryz.prog:=⟨95,1,1,fun w a=>by kernel_rfl⟩
def Nk:FE Tryz.prog:=⟨95,2,2,fun w a=>by kernel_rfl⟩
def N6:FE Tryz.prog:=⟨95,3,3,fun w a=>by kernel_rfl⟩
def M6:FE Tryz.prog:=⟨95,4,4,fun w a=>by kernel_rfl⟩
def Kc:FE Tryz.prog:=⟨115,0,0,fun w a=>by kernel_rfl⟩
def Kx:FE Tryz.prog:=⟨115,1,4,fun w a=>by kernel_rfl⟩
def Lj:FE Tryz.prog:=⟨115,2,8,fun w a=>by kernel_rfl⟩
def KP:FE Tryz.prog:=⟨115,3,12,fun w a=>by kernel_rfl⟩
def J2:FE Tryz.prog:=⟨138,0,0,fun w a=>by kernel_rfl⟩
def JK:FE Tryz.prog:=⟨138,1,1,fun w a=>by kernel_rfl⟩
def JD:FE Tryz.prog:=⟨147,0,0,fun w a=>by kernel_rfl⟩
def K2:FE Tryz.prog:=⟨147,1,1,fun w a=>by kernel_rfl⟩
def Kd:FE Tryz.prog:=⟨147,2,5,fun w a=>by kernel_rfl⟩
def Jz:FE Tryz.prog:=⟨158,0,0,fun w a=>by kernel_rfl⟩
def KB:FE Tryz.prog:=⟨158,1,1,fun w a=>by kernel_rfl⟩
def JU:FE Tryz.prog:=⟨158,2,2,fun w a=>by kernel_rfl⟩
def JY:FE Tryz.prog:=⟨183,0,0,fun w a=>by kernel_rfl⟩
def Lh:FE Tryz.prog:=⟨183,1,4,fun w a=>by kernel_rfl⟩
def K8:FE Tryz.prog:=⟨200,0,0,fun w a=>by kernel_rfl⟩
def Lk:FE Tryz.prog:=⟨200,1,1,fun w a=>by kernel_rfl⟩
def J7:FE Tryz.prog:=⟨200,2,2,fun w a=>by kernel_rfl⟩
def JF:FE Tryz.prog:=⟨214,0,0,fun w a=>by kernel_rfl⟩
def J_:FE Tryz.prog:=⟨214,1,1,fun w a=>by kernel_rfl⟩
def LZ:FE Tryz.prog:=⟨214,2,2,fun w a=>by kernel_rfl⟩
def JE:FE Tryz.prog:=⟨214,3,3,fun w a=>by kernel_rfl⟩
def JG:FE Tryz.prog:=⟨226,0,0,fun w a=>by kernel_rfl⟩
def LR:FE Tryz.prog:=⟨226,1,1,fun w a=>by kernel_rfl⟩
def JM:FE Tryz.prog:=⟨226,2,5,fun w a=>by kernel_rfl⟩
def LH:FE Tryz.prog:=⟨262,0,0,fun w a=>by kernel_rfl⟩
def K3:FE Tryz.prog:=⟨262,1,1,fun w a=>by kernel_rfl⟩
def TF:BE Tryz.prog:=⟨32,dA,[(0,(.int .i64)),(1,(.int .i64)),(2,(.int .i64)),(3,(.sl (.int .u8))),(4,(.sl (.int .u8))),(5,(.sl (.int .u8))),(6,(.sl (.int .u8)))],fun vs r h=>Eq.trans (by kernel_rfl) h⟩
def S4:BE Tryz.prog:=⟨34,aT,[(0,.str),(1,.str),(2,(.int .i64)),(3,(.int .i64)),(4,dA)],fun vs r h=>Eq.trans (by kernel_rfl) h⟩
def SH:BE Tryz.prog:=⟨39,gc,[(0,(.int .i64)),(1,(.sl (.int .u8))),(2,(.sl (.sl (.int .u8))))],fun vs r h=>Eq.trans (by kernel_rfl) h⟩
def S9:BE Tryz.prog:=⟨45,.tree,[(0,(.int .i64)),(1,(.int .u64)),(2,(.sl (.int .u8))),(3,(.sl .tree))],fun vs r h=>Eq.trans (by kernel_rfl) h⟩
def TS:BE Tryz.prog:=⟨56,o_,[(0,(.sl (.sl (.int .u8)))),(1,(.sl (.sl (.int .u8))))],fun vs r h=>Eq.trans (by kernel_rfl) h⟩
def SN:BE Tryz.prog:=⟨61,fQ,[(0,(.sl (.int .i64))),(1,(.int .i64))],fun vs r h=>Eq.trans (by kernel_rfl) h⟩
def Sy:BE Tryz.prog:=⟨63,(.ar 4 .u64),wi .u64 4 0,fun vs r h=>Eq.trans (show Tryz.prog.built 63 vs=Instr.fill (fun i=>some (i*1,1)) (zc (.ar 4 .u64)).toArray vs by kernel_rfl) (rA h)⟩
def TW:BE Tryz.prog:=⟨67,(.ar 32 .u8),wi .u8 32 0,fun vs r h=>Eq.trans (show Tryz.prog.built 67 vs=Instr.fill (fun i=>some (i*1,1)) (zc (.ar 32 .u8)).toArray vs by kernel_rfl) (rA h)⟩
def TO:BE Tryz.prog:=⟨69,dl,[(0,(.ar 4 .u64)),(4,(.ar 4 .u64))],fun vs r h=>Eq.trans (by kernel_rfl) h⟩
def TG:BE Tryz.prog:=⟨75,bp,[(0,.tree),(4,.tree)],fun vs r h=>Eq.trans (by kernel_rfl) h⟩
def TM:BE Tryz.prog:=⟨77,cK,[(0,bp),(8,(.sl (.int .u8))),(9,(.sl (.int .u8)))],fun vs r h=>Eq.trans (by kernel_rfl) h⟩
def Tj:BE Tryz.prog:=⟨95,ai,[(0,(.sl (.int .u8))),(1,(.int .i64)),(2,(.int .i64)),(3,.bool),(4,.bool)],fun vs r h=>Eq.trans (by kernel_rfl) h⟩
def Rx:BE Tryz.prog:=⟨115,aZ,[(0,(.ar 4 .u64)),(4,(.ar 4 .u64)),(8,(.ar 4 .u64)),(12,(.ar 4 .u64))],fun vs r h=>Eq.trans (by kernel_rfl) h⟩
def Qu:BE Tryz.prog:=⟨147,aR,[(0,(.sl (.int .u8))),(1,.tree),(5,.tree)],fun vs r h=>Eq.trans (by kernel_rfl) h⟩
def QN:BE Tryz.prog:=⟨158,aK,[(0,.str),(1,(.int .i64)),(2,.bool)],fun vs r h=>Eq.trans (by kernel_rfl) h⟩
def QP:BE Tryz.prog:=⟨160,(.ar 8 .u64),wi .u64 8 0,fun vs r h=>Eq.trans (show Tryz.prog.built 160 vs=Instr.fill (fun i=>some (i*1,1)) (zc (.ar 8 .u64)).toArray vs by kernel_rfl) (rA h)⟩
def P6:BE Tryz.prog:=⟨174,(.ar 4 .u64),wi .u64 4 0,fun vs r h=>Eq.trans (show Tryz.prog.built 174 vs=Instr.fill (fun i=>some (i*1,1)) (zc (.ar 4 .u64)).toArray vs by kernel_rfl) (rA h)⟩
def RG:BE Tryz.prog:=⟨183,gf,[(0,.tree),(4,.tree)],fun vs r h=>Eq.trans (by kernel_rfl) h⟩
def Ry:BE Tryz.prog:=⟨200,bj,[(0,(.sl (.int .u8))),(1,(.int .i64)),(2,(.int .i64))],fun vs r h=>Eq.trans (by kernel_rfl) h⟩
def Ra:BE Tryz.prog:=⟨214,aE,[(0,(.int .u8)),(1,(.int .u8)),(2,(.int .u64)),(3,(.int .i64))],fun vs r h=>Eq.trans (by kernel_rfl) h⟩
def Qx:BE Tryz.prog:=⟨226,cG,[(0,(.sl (.int .u8))),(1,.tree),(5,.tree)],fun vs r h=>Eq.trans (by kernel_rfl) h⟩
def RO:BE Tryz.prog:=⟨313,(.ar 4 .u64),wi .u64 4 0,fun vs r h=>Eq.trans (show Tryz.prog.built 313 vs=Instr.fill (fun i=>some (i*1,1)) (zc (.ar 4 .u64)).toArray vs by kernel_rfl) (rA h)⟩
def PY:MQ Tryz.prog:=⟨267,3,266,(by kernel_rfl),(by kernel_rfl),fun w=>(by kernel_rfl),(by kernel_rfl)⟩
def Qq:MQ Tryz.prog:=⟨269,3,268,(by kernel_rfl),(by kernel_rfl),fun w=>(by kernel_rfl),(by kernel_rfl)⟩
def UA:List (MQ Tryz.prog):=[PY,Qq]
def SP:QA Tryz.prog:=⟨63,4,.u64,42,(by kernel_rfl),(by kernel_rfl),⟨fun w=>(by kernel_rfl),fun w=>(by kernel_rfl)⟩,(by kernel_rfl),(by kernel_rfl),(by kernel_rfl)⟩
def Uy:List (QA Tryz.prog):=[SP]
def UF:List (ME Tryz.prog):=[]
def tes:List (TE Tryz.prog):=[Ur,UC,Ui,Ut,SG,Tv,ST,SZ,Sv,TU,S7,TR,SR,Sw,SA,Tt,S',T3,SW,TZ,TV,S5,Tb,Tc,Ql,Rs,RC,R0,Re,RE,Rj,PO,Q2,Q0,Q1,QZ,PP,RZ,R',Sm,PQ,P5,PW]
def zY:List (SE Tryz.prog):=[Tx,QW,Ty,Th,R_,Sl,Qn,Rk,R7]
def Ul:List (FE Tryz.prog):=[MO,Om,Nx,OT,NQ,Nm,Ph,Mz,Px,NB,NF,N1,N',M2,OV,N_,M3,O8,OD,Nj,MX,Ms,MY,Mx,NX,Oj,ND,NG,No,Oq,O3,My,Nk,N6,M6,Kc,Kx,Lj,KP,J2,JK,JD,K2,Kd,Jz,KB,JU,JY,Lh,K8,Lk,J7,JF,J_,LZ,JE,JG,LR,JM,LH,K3]
def Uz:List (BE Tryz.prog):=[TF,S4,SH,S9,TS,SN,Sy,TW,TO,TG,TM,Tj,Rx,Qu,QN,QP,P6,RG,Ry,Ra,Qx,RO]
def UG:List (FD Tryz.prog):=[]
def Us:List (QE Tryz.prog):=[]
theorem yp : ∃l:List UInt8,l=(List.range 256).map (fun c=>UInt8.ofNat (Lib.firstT c)):=⟨_,rfl⟩
noncomputable def q_:List UInt8:=Classical.choose yp
theorem yz:q_=(List.range 256).map (fun c=>UInt8.ofNat (Lib.firstT c)):=Classical.choose_spec yp
theorem Dj:q_.length=256:=by rw[yz,List.length_map,List.length_range]
theorem yg : ∃l:List (UInt8×UInt8),l=(List.range 16).map (fun c=>(UInt8.ofNat (Lib.accLo c),UInt8.ofNat (Lib.accHi c))):=⟨_,rfl⟩
noncomputable def qY:List (UInt8×UInt8):=Classical.choose yg
theorem yC:qY=(List.range 16).map (fun c=>(UInt8.ofNat (Lib.accLo c),UInt8.ofNat (Lib.accHi c))):=Classical.choose_spec yg
theorem Cv:qY.length=16:=by rw[yC,List.length_map,List.length_range]
theorem MK : ∀c:Fin 256,Lib.firstT c.1<256:=by decide +kernel
theorem N7 : ∀c:Fin 16,Lib.accLo c.1<256∧Lib.accHi c.1<256:=by decide +kernel
theorem A_{α β:Type}{f:α→β}{l:List α}{i:Nat}{x:β}(h:(l.map f)[i]?=some x): ∃y,l[i]?=some y∧f y=x:=by
 rw[List.getElem?_map]at h;exact Option.map_eq_some_iff.1 h
noncomputable def UB:GE Tryz.prog where
 id:=260
 gl:=1
 pt:=.int .u8
 xs:=q_
 el:=5
 und:=by
  have h:List.length (α:=den (.int .u8)) q_=256:=Dj
  exact h▸(show Tryz.prog.underlying 260=some (.array 256 5) by kernel_rfl)
 sz:=fun w=>show(Go.sizeOf 5).run Tryz.prog w = .ok 1 w by kernel_rfl
 hg:=by decide
 ag:=false
 agk:=fun h=>by cases h
 cells:=fun w0 hF i x hx=>by
  have hx:q_[i]?=some x:=hx
  rw[yz]at hx
  obtain⟨c,hc,rfl⟩:=A_ hx
  obtain⟨hlt,rfl⟩:=List.getElem?_eq_some_iff.1 hc
  rw[List.getElem_range]at *
  rw[List.length_range]at hlt
  have hv:=MK ⟨i,hlt⟩
  have hv:Lib.firstT i<256:=hv
  refine⟨[.int .u8 ((UInt8.ofNat (Lib.firstT i)).toNat:Int)],fun _ _=>rfl,fun j u hj=>?_⟩
  match j,hj with
  |0,hj=>
   cases hj
   have:=hF.2.1.1 i hlt
   rw[show i*bZ (.int .u8)+0=i by show i*1+0=i;omega,this,UInt8.toNat_ofNat',Nat.mod_eq_of_lt (show Lib.firstT i<2^8 from hv)]
noncomputable def Um:GE Tryz.prog where
 id:=263
 gl:=2
 pt:=eD
 xs:=qY
 el:=262
 und:=by
  have h:List.length (α:=den eD) qY=16:=Cv
  exact h▸(show Tryz.prog.underlying 263=some (.array 16 262) by kernel_rfl)
 sz:=fun w=>show(Go.sizeOf 262).run Tryz.prog w = .ok 2 w by kernel_rfl
 hg:=by decide
 ag:=false
 agk:=fun h=>by cases h
 cells:=fun w0 hF i x hx=>by
  have hx:qY[i]?=some x:=hx
  rw[yC]at hx
  obtain⟨c,hc,rfl⟩:=A_ hx
  obtain⟨hlt,rfl⟩:=List.getElem?_eq_some_iff.1 hc
  rw[List.getElem_range]at *
  rw[List.length_range]at hlt
  obtain⟨v1,v2⟩:=N7 ⟨i,hlt⟩
  have v1:Lib.accLo i<256:=v1
  have v2:Lib.accHi i<256:=v2
  refine⟨[.int .u8 ((UInt8.ofNat (Lib.accLo i)).toNat:Int),.int .u8 ((UInt8.ofNat (Lib.accHi i)).toNat:Int)],fun _ _=>⟨[_],[_],rfl,rfl,rfl⟩,fun j u hj=>?_⟩
  obtain⟨h1,h2⟩:=hF.2.1.2 i hlt
  match j,hj with
  |0,hj=>
   cases hj
   rw[show i*bZ eD+0=2*i by show i*2+0=2*i;omega,h1,UInt8.toNat_ofNat',Nat.mod_eq_of_lt (show Lib.accLo i<2^8 from v1)]
  |1,hj=>
   cases hj
   rw[show i*bZ eD+1=2*i+1 by show i*2+1=2*i+1;omega,h2,UInt8.toNat_ofNat',Nat.mod_eq_of_lt (show Lib.accHi i<2^8 from v2)]
def UD:GE Tryz.prog where
 id:=234
 gl:=0
 pt:=.str
 xs:=[[102,97,108,115,101],[116,114,117,101],[110,117,108,108],[117,110,100,101,102,105,110,101,100]]
 el:=9
 und:=show Tryz.prog.underlying 234=some (.array 4 9) by kernel_rfl
 sz:=fun w=>show(Go.sizeOf 9).run Tryz.prog w = .ok 1 w by kernel_rfl
 hg:=by decide
 ag:=true
 agk:=fun _=>⟨⟨fun w=>by kernel_rfl,fun w=>by kernel_rfl⟩,rfl,rfl,⟨fun w=>by kernel_rfl,fun w=>by kernel_rfl⟩⟩
 cells:=fun w0 hF i x hx=>by
  obtain⟨h0,h1,h2,h3⟩:=hF.2.2.1
  match i,hx with
  |0,hx=>
   cases hx
   refine⟨[dG [102,97,108,115,101]],fun _ _=>rfl,fun j u hj=>?_⟩
   match j,hj with
   |0,hj=>cases hj;exact h0
  |1,hx=>
   cases hx
   refine⟨[dG [116,114,117,101]],fun _ _=>rfl,fun j u hj=>?_⟩
   match j,hj with
   |0,hj=>cases hj;exact h1
  |2,hx=>
   cases hx
   refine⟨[dG [110,117,108,108]],fun _ _=>rfl,fun j u hj=>?_⟩
   match j,hj with
   |0,hj=>cases hj;exact h2
  |3,hx=>
   cases hx
   refine⟨[dG [117,110,100,101,102,105,110,101,100]],fun _ _=>rfl,fun j u hj=>?_⟩
   match j,hj with
   |0,hj=>cases hj;exact h3
noncomputable def Uq:List (GE Tryz.prog):=[UD,UB,Um]
def PM:XE Tryz.prog:=⟨130,.int .u64,.fl,fun n=>n,fun x v lab w h=>by
 obtain rfl:=aV.int (k:=.u64) h
 refine⟨.float .f64 (UInt64.toNat x),?_,⟨_,rfl,rfl⟩⟩
 have : ∀n:Int,(callFunc 130 #[.int .u64 n]).run Tryz.prog w = .ok (.value (.float .f64 n.toNat)) w:=fun n=>by kernel_rfl
 have h2:=this (bH .u64 x)
 rw[h2]
 rfl⟩
def Sg:XE Tryz.prog:=⟨131,.fl,.int .u64,fun n=>n,fun x v lab w h=>by
 obtain rfl:=aV.fl h
 refine⟨.int .u64 (bH .u64 x),?_,aV.ofInt (k:=.u64) x⟩
 have : ∀n:Nat,(callFunc 131 #[.float .f64 n]).run Tryz.prog w = .ok (.value (.int .u64 (n:Int))) w:=fun n=>by kernel_rfl
 exact this x.toNat⟩
def Rn:XE Tryz.prog:=⟨188,.int .u32,.f4,fun n=>n,fun x v lab w h=>by
 obtain rfl:=aV.int (k:=.u32) h
 refine⟨.float .f32 (UInt32.toNat x),?_,⟨_,rfl,rfl⟩⟩
 have : ∀n:Int,(callFunc 188 #[.int .u32 n]).run Tryz.prog w = .ok (.value (.float .f32 n.toNat)) w:=fun n=>by kernel_rfl
 have h2:=this (bH .u32 x)
 rw[h2]
 rfl⟩
def Uw:List (XE Tryz.prog):=[PM,Sg,Rn]
def Qf:XM Tryz.prog:=⟨164,[.int .u64,.int .u64,.int .u64],[.int .u64,.int .u64],bl,GY (fun x y w=>(by kernel_rfl)) (fun x y w=>(by kernel_rfl))⟩
def Rb:XM Tryz.prog:=⟨224,[.int .u64,.int .u64,.int .u64],[.int .u64,.int .u64],jK,IG (fun x y w=>(by kernel_rfl)) (fun x y w=>(by kernel_rfl))⟩
def Q7:XM Tryz.prog:=⟨278,[.fl],[.fl],AB,I1 (fun n w=>(by kernel_rfl))⟩
def QM : XM Tryz.prog := ⟨281, [.fl], [.fl], qT .down, yI (nm := "math.archFloor") (fun n w => (by kernel_rfl))⟩
def Rh : XM Tryz.prog := ⟨326, [.fl], [.fl], qT .zero, yI (nm := "math.archTrunc") (fun n w => (by kernel_rfl))⟩
def Uk:List (XM Tryz.prog):=[Qf,Rb,Q7,QM,Rh]
theorem R5:Tryz.prog.follows .mixedOrders=true:=by kernel_rfl
end Go.Proofs.YtimjjookppejeaaGreatDoor
