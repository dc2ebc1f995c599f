import Derived.Test.YthejfljhiaeoeaaGreatDoorZe
import Derived.Test.YthejfljhiaeoeaaGreatDoorProg
namespace Go.Proofs.YthejfljhiaeoeaaGreatDoor
open Go.Gk Go.RowKit
def z_(f:Func):Code:=match f.body with |some c=>c |none=>.skip
def H9:Option TypeDesc→Bool
 |some (.interface _)=>true
 |_=>false
theorem NJ{o:Option TypeDesc}(h:H9 o=true): ∃ms,o=some (.interface ms):=by
 unfold H9 at h
 split at h
 ·exact⟨_,rfl⟩
 ·cases h
def ao:PT:=.st (.pr (.sl (.int .i64)) (.int .i64))
abbrev ab:=List Int×Int
def bH:PT:=.st (.pr (.int .i64) (.sl (.int .u8)))
abbrev ai:=Int×List UInt8
def aS:PT:=.st (.pr (.int .i64) (.pr (.int .i64) (.pr (.int .i64) (.pr (.sl (.int .u8)) (.pr (.sl bH) (.sl (.int .u8)))))))
abbrev am:=Int×Int×Int×List UInt8×List ai×List UInt8
def aI:PT:=.st (.pr .tree .tree)
abbrev az:=Tr×Tr
def bZ:PT:=.st (.pr (.int .i64) (.int .i64))
abbrev aA:=Int×Int
def ij:PT:=.st (.pr .tree .tree)
def dL:PT:=.st (.pr (.sl (.int .u8)) (.pr .tree .tree))
abbrev cI:=List UInt8×Tr×Tr
def cG:PT:=.st (.pr aI (.pr (.sl (.int .u8)) (.sl (.int .u8))))
abbrev cH:=az×List UInt8×List UInt8
def mC:PT:=.st (.pr (.int .i64) (.pr .bool (.int .i64)))
abbrev eS:=Int×Bool×Int
def cP:PT:=.st (.pr (.int .i64) (.pr (.sl (.int .u8)) (.pr (.sl (.int .u8)) (.int .i64))))
abbrev aj:=Int×List UInt8×List UInt8×Int
def br:PT:=.st (.pr (.sl (.int .u8)) (.pr (.int .i64) (.int .i64)))
abbrev ak:=List UInt8×Int×Int
def fS:PT:=.st (.pr (.sl (.int .u8)) .bool)
abbrev bK:=List UInt8×Bool
def aL:PT:=.st (.pr .str (.pr (.int .i64) .bool))
abbrev aE:=List UInt8×Int×Bool
def fh:PT:=.st (.pr (.int .u8) (.int .u8))
def SA:TE Tryz.prog:=⟨3,(.int .i64),⟨fun _=>⟨fun w=>(by kernel_rfl),fun w=>(by kernel_rfl)⟩,fun h=>(by cases h),fun w=>(by kernel_rfl),(show Tryz.prog.underlying 3=some (.int .i64) by kernel_rfl)⟩⟩
def SU:TE Tryz.prog:=⟨4,.bool,⟨fun _=>⟨fun w=>(by kernel_rfl),fun w=>(by kernel_rfl)⟩,fun h=>(by cases h),fun w=>(by kernel_rfl),(show Tryz.prog.underlying 4=some .bool by kernel_rfl)⟩⟩
def SZ:TE Tryz.prog:=⟨5,(.int .u8),⟨fun _=>⟨fun w=>(by kernel_rfl),fun w=>(by kernel_rfl)⟩,fun h=>(by cases h),fun w=>(by kernel_rfl),(show Tryz.prog.underlying 5=some (.int .u8) by kernel_rfl)⟩⟩
def SJ:TE Tryz.prog:=⟨9,.str,⟨fun _=>⟨fun w=>(by kernel_rfl),fun w=>(by kernel_rfl)⟩,fun h=>(by cases h),fun w=>(by kernel_rfl),(show Tryz.prog.underlying 9=some .string by kernel_rfl)⟩⟩
def R1:TE Tryz.prog:=⟨12,(.int .u64),⟨fun _=>⟨fun w=>(by kernel_rfl),fun w=>(by kernel_rfl)⟩,fun h=>(by cases h),fun w=>(by kernel_rfl),(show Tryz.prog.underlying 12=some (.int .u64) by kernel_rfl)⟩⟩
def R0:TE Tryz.prog:=⟨22,(.sl (.int .i64)),⟨fun _=>⟨fun w=>(by kernel_rfl),fun w=>(by kernel_rfl)⟩,fun h=>(by cases h),fun w=>(by kernel_rfl),trivial⟩⟩
def R4:TE Tryz.prog:=⟨25,(.sl (.int .u8)),⟨fun _=>⟨fun w=>(by kernel_rfl),fun w=>(by kernel_rfl)⟩,fun h=>(by cases h),fun w=>(by kernel_rfl),trivial⟩⟩
def R_:TE Tryz.prog:=⟨26,(.sl bH),⟨fun _=>⟨fun w=>(by kernel_rfl),fun w=>(by kernel_rfl)⟩,fun h=>(by cases h),fun w=>(by kernel_rfl),trivial⟩⟩
def RT:TE Tryz.prog:=⟨28,aS,⟨fun h=>(by cases h),fun _=>⟨fun w=>(by kernel_rfl),fun w=>(by kernel_rfl)⟩,fun w=>(by kernel_rfl),trivial⟩⟩
def Se:TE Tryz.prog:=⟨30,(.int .i64),⟨fun _=>⟨fun w=>(by kernel_rfl),fun w=>(by kernel_rfl)⟩,fun h=>(by cases h),fun w=>(by kernel_rfl),(show Tryz.prog.underlying 30=some (.int .i64) by kernel_rfl)⟩⟩
def RL:TE Tryz.prog:=⟨33,(.int .u64),⟨fun _=>⟨fun w=>(by kernel_rfl),fun w=>(by kernel_rfl)⟩,fun h=>(by cases h),fun w=>(by kernel_rfl),(show Tryz.prog.underlying 33=some (.int .u64) by kernel_rfl)⟩⟩
def Sa:TE Tryz.prog:=⟨34,(.sl .tree),⟨fun _=>⟨fun w=>(by kernel_rfl),fun w=>(by kernel_rfl)⟩,fun h=>(by cases h),fun w=>(by kernel_rfl),trivial⟩⟩
def RX:TE Tryz.prog:=⟨36,.tree,⟨fun h=>(by cases h),fun _=>⟨fun w=>(by kernel_rfl),fun w=>(by kernel_rfl)⟩,fun w=>(by kernel_rfl),trivial⟩⟩
def RY:TE Tryz.prog:=⟨38,aI,⟨fun h=>(by cases h),fun _=>⟨fun w=>(by kernel_rfl),fun w=>(by kernel_rfl)⟩,fun w=>(by kernel_rfl),trivial⟩⟩
def Sb:TE Tryz.prog:=⟨41,cG,⟨fun h=>(by cases h),fun _=>⟨fun w=>(by kernel_rfl),fun w=>(by kernel_rfl)⟩,fun w=>(by kernel_rfl),trivial⟩⟩
def Rz:TE Tryz.prog:=⟨53,mC,⟨fun h=>(by cases h),fun _=>⟨fun w=>(by kernel_rfl),fun w=>(by kernel_rfl)⟩,fun w=>(by kernel_rfl),trivial⟩⟩
def Rp:TE Tryz.prog:=⟨64,ao,⟨fun h=>(by cases h),fun _=>⟨fun w=>(by kernel_rfl),fun w=>(by kernel_rfl)⟩,fun w=>(by kernel_rfl),trivial⟩⟩
def Rs:TE Tryz.prog:=⟨82,(.int .u64),⟨fun _=>⟨fun w=>(by kernel_rfl),fun w=>(by kernel_rfl)⟩,fun h=>(by cases h),fun w=>(by kernel_rfl),(show Tryz.prog.underlying 82=some (.int .u64) by kernel_rfl)⟩⟩
def RG:TE Tryz.prog:=⟨91,cP,⟨fun h=>(by cases h),fun _=>⟨fun w=>(by kernel_rfl),fun w=>(by kernel_rfl)⟩,fun w=>(by kernel_rfl),trivial⟩⟩
def Sj:TE Tryz.prog:=⟨97,fS,⟨fun h=>(by cases h),fun _=>⟨fun w=>(by kernel_rfl),fun w=>(by kernel_rfl)⟩,fun w=>(by kernel_rfl),trivial⟩⟩
def QD:TE Tryz.prog:=⟨100,bH,⟨fun h=>(by cases h),fun _=>⟨fun w=>(by kernel_rfl),fun w=>(by kernel_rfl)⟩,fun w=>(by kernel_rfl),trivial⟩⟩
def PI:TE Tryz.prog:=⟨124,ij,⟨fun h=>(by cases h),fun _=>⟨fun w=>(by kernel_rfl),fun w=>(by kernel_rfl)⟩,fun w=>(by kernel_rfl),trivial⟩⟩
def P6:TE Tryz.prog:=⟨143,aL,⟨fun h=>(by cases h),fun _=>⟨fun w=>(by kernel_rfl),fun w=>(by kernel_rfl)⟩,fun w=>(by kernel_rfl),trivial⟩⟩
def Qk:TE Tryz.prog:=⟨153,bZ,⟨fun h=>(by cases h),fun _=>⟨fun w=>(by kernel_rfl),fun w=>(by kernel_rfl)⟩,fun w=>(by kernel_rfl),trivial⟩⟩
def Ra:TE Tryz.prog:=⟨158,fh,⟨fun h=>(by cases h),fun _=>⟨fun w=>(by kernel_rfl),fun w=>(by kernel_rfl)⟩,fun w=>(by kernel_rfl),trivial⟩⟩
def PW:TE Tryz.prog:=⟨172,(.sl dL),⟨fun _=>⟨fun w=>(by kernel_rfl),fun w=>(by kernel_rfl)⟩,fun h=>(by cases h),fun w=>(by kernel_rfl),trivial⟩⟩
def Qy:TE Tryz.prog:=⟨174,dL,⟨fun h=>(by cases h),fun _=>⟨fun w=>(by kernel_rfl),fun w=>(by kernel_rfl)⟩,fun w=>(by kernel_rfl),trivial⟩⟩
def P9:TE Tryz.prog:=⟨182,br,⟨fun h=>(by cases h),fun _=>⟨fun w=>(by kernel_rfl),fun w=>(by kernel_rfl)⟩,fun w=>(by kernel_rfl),trivial⟩⟩
def Qg:TE Tryz.prog:=⟨193,.err,⟨fun _=>⟨fun w=>(by kernel_rfl),fun w=>(by kernel_rfl)⟩,fun h=>(by cases h),fun w=>(by kernel_rfl),(NJ (show H9 (Tryz.prog.underlying 193)=true by kernel_rfl))⟩⟩
def QT:TE Tryz.prog:=⟨221,.fl,⟨fun _=>⟨fun w=>(by kernel_rfl),fun w=>(by kernel_rfl)⟩,fun h=>(by cases h),fun w=>(by kernel_rfl),(show Tryz.prog.underlying 221=some (.float .f64) by kernel_rfl)⟩⟩
def QA:TE Tryz.prog:=⟨223,.f4,⟨fun _=>⟨fun w=>(by kernel_rfl),fun w=>(by kernel_rfl)⟩,fun h=>(by cases h),fun w=>(by kernel_rfl),(show Tryz.prog.underlying 223=some (.float .f32) by kernel_rfl)⟩⟩
def P4:TE Tryz.prog:=⟨225,(.int .u32),⟨fun _=>⟨fun w=>(by kernel_rfl),fun w=>(by kernel_rfl)⟩,fun h=>(by cases h),fun w=>(by kernel_rfl),(show Tryz.prog.underlying 225=some (.int .u32) by kernel_rfl)⟩⟩
def QJ:TE Tryz.prog:=⟨227,(.int .u16),⟨fun _=>⟨fun w=>(by kernel_rfl),fun w=>(by kernel_rfl)⟩,fun h=>(by cases h),fun w=>(by kernel_rfl),(show Tryz.prog.underlying 227=some (.int .u16) by kernel_rfl)⟩⟩
def Rm:SE Tryz.prog:=⟨22,3,(.int .i64),8,⟨(by kernel_rfl),ji (by kernel_rfl),(by kernel_rfl),(by decide)⟩,fun w=>(by kernel_rfl),rfl⟩
def Ap:SE Tryz.prog:=⟨25,5,(.int .u8),1,⟨(by kernel_rfl),ji (by kernel_rfl),(by kernel_rfl),(by decide)⟩,fun w=>(by kernel_rfl),rfl⟩
def R5:SE Tryz.prog:=⟨26,100,bH,32,⟨(by kernel_rfl),ji (by kernel_rfl),(by kernel_rfl),(by decide)⟩,fun w=>(by kernel_rfl),rfl⟩
def RF:SE Tryz.prog:=⟨34,36,.tree,64,⟨(by kernel_rfl),ji (by kernel_rfl),(by kernel_rfl),(by decide)⟩,fun w=>(by kernel_rfl),rfl⟩
def RI:SE Tryz.prog:=⟨47,91,cP,64,⟨(by kernel_rfl),ji (by kernel_rfl),(by kernel_rfl),(by decide)⟩,fun w=>(by kernel_rfl),rfl⟩
def P_:SE Tryz.prog:=⟨108,25,(.sl (.int .u8)),24,⟨(by kernel_rfl),ji (by kernel_rfl),(by kernel_rfl),(by decide)⟩,fun w=>(by kernel_rfl),rfl⟩
def Qe:SE Tryz.prog:=⟨120,33,(.int .u64),8,⟨(by kernel_rfl),ji (by kernel_rfl),(by kernel_rfl),(by decide)⟩,fun w=>(by kernel_rfl),rfl⟩
def PM:SE Tryz.prog:=⟨121,124,ij,128,⟨(by kernel_rfl),ji (by kernel_rfl),(by kernel_rfl),(by decide)⟩,fun w=>(by kernel_rfl),rfl⟩
def QL:SE Tryz.prog:=⟨149,9,.str,16,⟨(by kernel_rfl),ji (by kernel_rfl),(by kernel_rfl),(by decide)⟩,fun w=>(by kernel_rfl),rfl⟩
def Qs:SE Tryz.prog:=⟨172,174,dL,152,⟨(by kernel_rfl),ji (by kernel_rfl),(by kernel_rfl),(by decide)⟩,fun w=>(by kernel_rfl),rfl⟩
def Po:FE Tryz.prog:=⟨28,0,0,fun w a=>by kernel_rfl⟩
def Oo:FE Tryz.prog:=⟨28,1,1,fun w a=>by kernel_rfl⟩
def O2:FE Tryz.prog:=⟨28,2,2,fun w a=>by kernel_rfl⟩
def OI:FE Tryz.prog:=⟨28,3,3,fun w a=>by kernel_rfl⟩
def OJ:FE Tryz.prog:=⟨28,4,4,fun w a=>by kernel_rfl⟩
def Of:FE Tryz.prog:=⟨28,5,5,fun w a=>by kernel_rfl⟩
def NS:FE Tryz.prog:=⟨36,0,0,fun w a=>by kernel_rfl⟩
def Pr:FE Tryz.prog:=⟨36,1,1,fun w a=>by kernel_rfl⟩
def O_:FE Tryz.prog:=⟨36,2,2,fun w a=>by kernel_rfl⟩
def Ov:FE Tryz.prog:=⟨36,3,3,fun w a=>by kernel_rfl⟩
def O7:FE Tryz.prog:=⟨38,0,0,fun w a=>by kernel_rfl⟩
def NK:FE Tryz.prog:=⟨38,1,4,fun w a=>by kernel_rfl⟩
def NW:FE Tryz.prog:=⟨41,0,0,fun w a=>by kernel_rfl⟩
def Pg:FE Tryz.prog:=⟨41,1,8,fun w a=>by kernel_rfl⟩
def OQ:FE Tryz.prog:=⟨41,2,9,fun w a=>by kernel_rfl⟩
def Oc:FE Tryz.prog:=⟨53,0,0,fun w a=>by kernel_rfl⟩
def N9:FE Tryz.prog:=⟨53,1,1,fun w a=>by kernel_rfl⟩
def OO:FE Tryz.prog:=⟨53,2,2,fun w a=>by kernel_rfl⟩
def N7:FE Tryz.prog:=⟨64,0,0,fun w a=>by kernel_rfl⟩
def NL:FE Tryz.prog:=⟨64,1,1,fun w a=>by kernel_rfl⟩
def N8:FE Tryz.prog:=⟨91,0,0,fun w a=>by kernel_rfl⟩
def Od:FE Tryz.prog:=⟨91,1,1,fun w a=>by kernel_rfl⟩
def Oy:FE Tryz.prog:=⟨91,2,2,fun w a=>by kernel_rfl⟩
def O6:FE Tryz.prog:=⟨91,3,3,fun w a=>by kernel_rfl⟩
def OW:FE Tryz.prog:=⟨97,0,0,fun w a=>by kernel_rfl⟩
def OA:FE Tryz.prog:=⟨97,1,1,fun w a=>by kernel_rfl⟩
def LV:FE Tryz.prog:=⟨100,0,0,fun w a=>by kernel_rfl⟩
def Mc:FE Tryz.prog:=⟨100,1,1,fun w a=>by kernel_rfl⟩
def M7:FE Tryz.prog:=⟨124,0,0,fun w a=>by kernel_rfl⟩
def Ld:FE Tryz.prog:=⟨124,1,4,fun w a=>by kernel_rfl⟩
def KJ:FE Tryz.prog:=⟨143,0,0,fun w a=>by kernel_rfl⟩
def Ln:FE Tryz.prog:=⟨143,1,1,fun w a=>by kernel_rfl⟩
def K_:FE Tryz.prog:=⟨143,2,2,fun w a=>by kernel_rfl⟩
def KQ:FE Tryz.prog:=⟨153,0,0,fun w a=>by kernel_rfl⟩
def MQ:FE Tryz.prog:=⟨153,1,1,fun w a=>by kernel_rfl⟩
def MR:FE Tryz.prog:=⟨158,0,0,fun w a=>by kernel_rfl⟩
def MY:FE Tryz.prog:=⟨158,1,1,fun w a=>by kernel_rfl⟩
def MA:FE Tryz.prog:=⟨174,0,0,fun w a=>by kernel_rfl⟩
def Lc:FE Tryz.prog:=⟨174,1,1,fun w a=>by kernel_rfl⟩
def LM:FE Tryz.prog:=⟨174,2,5,fun w a=>by kernel_rfl⟩
def LO:FE Tryz.prog:=⟨182,0,0,fun w a=>by kernel_rfl⟩
def Lq:FE Tryz.prog:=⟨182,1,1,fun w a=>by kernel_rfl⟩
def Lv:FE Tryz.prog:=⟨182,2,2,fun w a=>by kernel_rfl⟩
def RZ:BE Tryz.prog:=⟨28,aS,[(0,(.int .i64)),(1,(.int .i64)),(2,(.int .i64)),(3,(.sl (.int .u8))),(4,(.sl bH)),(5,(.sl (.int .u8)))],fun vs=>by kernel_rfl⟩
def RD:BE Tryz.prog:=⟨36,.tree,[(0,(.int .i64)),(1,(.int .u64)),(2,(.sl (.int .u8))),(3,(.sl .tree))],fun vs=>by kernel_rfl⟩
def RO:BE Tryz.prog:=⟨38,aI,[(0,.tree),(4,.tree)],fun vs=>by kernel_rfl⟩
def Sp:BE Tryz.prog:=⟨41,cG,[(0,aI),(8,(.sl (.int .u8))),(9,(.sl (.int .u8)))],fun vs=>by kernel_rfl⟩
def Ru:BE Tryz.prog:=⟨53,mC,[(0,(.int .i64)),(1,.bool),(2,(.int .i64))],fun vs=>by kernel_rfl⟩
def Rn:BE Tryz.prog:=⟨64,ao,[(0,(.sl (.int .i64))),(1,(.int .i64))],fun vs=>by kernel_rfl⟩
def Sc:BE Tryz.prog:=⟨91,cP,[(0,(.int .i64)),(1,(.sl (.int .u8))),(2,(.sl (.int .u8))),(3,(.int .i64))],fun vs=>by kernel_rfl⟩
def Sf:BE Tryz.prog:=⟨97,fS,[(0,(.sl (.int .u8))),(1,.bool)],fun vs=>by kernel_rfl⟩
def PH:BE Tryz.prog:=⟨100,bH,[(0,(.int .i64)),(1,(.sl (.int .u8)))],fun vs=>by kernel_rfl⟩
def P3:BE Tryz.prog:=⟨124,ij,[(0,.tree),(4,.tree)],fun vs=>by kernel_rfl⟩
def Qb:BE Tryz.prog:=⟨143,aL,[(0,.str),(1,(.int .i64)),(2,.bool)],fun vs=>by kernel_rfl⟩
def Qa:BE Tryz.prog:=⟨174,dL,[(0,(.sl (.int .u8))),(1,.tree),(5,.tree)],fun vs=>by kernel_rfl⟩
def P8:BE Tryz.prog:=⟨182,br,[(0,(.sl (.int .u8))),(1,(.int .i64)),(2,(.int .i64))],fun vs=>by kernel_rfl⟩
def SK:List (ME Tryz.prog):=[]
def tes:List (TE Tryz.prog):=[SA,SU,SZ,SJ,R1,R0,R4,R_,RT,Se,RL,Sa,RX,RY,Sb,Rz,Rp,Rs,RG,Sj,QD,PI,P6,Qk,Ra,PW,Qy,P9,Qg,QT,QA,P4,QJ]
def zU:List (SE Tryz.prog):=[Rm,Ap,R5,RF,RI,P_,Qe,PM,QL,Qs]
def SH:List (FE Tryz.prog):=[Po,Oo,O2,OI,OJ,Of,NS,Pr,O_,Ov,O7,NK,NW,Pg,OQ,Oc,N9,OO,N7,NL,N8,Od,Oy,O6,OW,OA,LV,Mc,M7,Ld,KJ,Ln,K_,KQ,MQ,MR,MY,MA,Lc,LM,LO,Lq,Lv]
def Sx:List (BE Tryz.prog):=[RZ,RD,RO,Sp,Ru,Rn,Sc,Sf,PH,P3,Qb,Qa,P8]
def SG:List (FD Tryz.prog):=[]
def SB:List (QE Tryz.prog):=[]
theorem y_ : ∃l:List UInt8,l=(List.range 256).map (fun c=>UInt8.ofNat (Lib.firstT c)):=⟨_,rfl⟩
noncomputable def pD:List UInt8:=Classical.choose y_
theorem yY:pD=(List.range 256).map (fun c=>UInt8.ofNat (Lib.firstT c)):=Classical.choose_spec y_
theorem xl:pD.length=256:=by rw[yY,List.length_map,List.length_range]
theorem zg : ∃l:List (UInt8×UInt8),l=(List.range 16).map (fun c=>(UInt8.ofNat (Lib.accLo c),UInt8.ofNat (Lib.accHi c))):=⟨_,rfl⟩
noncomputable def px:List (UInt8×UInt8):=Classical.choose zg
theorem zb:px=(List.range 16).map (fun c=>(UInt8.ofNat (Lib.accLo c),UInt8.ofNat (Lib.accHi c))):=Classical.choose_spec zg
theorem xJ:px.length=16:=by rw[zb,List.length_map,List.length_range]
theorem Oi : ∀c:Fin 256,Lib.firstT c.1<256:=by decide +kernel
theorem O4 : ∀c:Fin 16,Lib.accLo c.1<256∧Lib.accHi c.1<256:=by decide +kernel
theorem Bb{α β:Type}{f:α→β}{l:List α}{i:Nat}{x:β}(h:(l.map f)[i]?=some x): ∃y,l[i]?=some y∧f y=x:=by
 rw[List.getElem?_map]at h;exact Option.map_eq_some_iff.1 h
noncomputable def SC:GE Tryz.prog where
 id:=156
 gl:=0
 pt:=.int .u8
 xs:=pD
 el:=5
 und:=by
  have h:List.length (α:=den (.int .u8)) pD=256:=xl
  exact h▸(show Tryz.prog.underlying 156=some (.array 256 5) by kernel_rfl)
 sz:=fun w=>show(Go.sizeOf 5).run Tryz.prog w = .ok 1 w by kernel_rfl
 hg:=by decide
 ag:=false
 agk:=fun h=>by cases h
 cells:=fun w0 hF i x hx=>by
  have hx:pD[i]?=some x:=hx
  rw[yY]at hx
  obtain⟨c,hc,rfl⟩:=Bb hx
  obtain⟨hlt,rfl⟩:=List.getElem?_eq_some_iff.1 hc
  rw[List.getElem_range]at *
  rw[List.length_range]at hlt
  have hv:=Oi ⟨i,hlt⟩
  have hv:Lib.firstT i<256:=hv
  refine⟨[.int .u8 ((UInt8.ofNat (Lib.firstT i)).toNat:Int)],fun _ _=>rfl,fun j u hj=>?_⟩
  match j,hj with
  |0,hj=>
   cases hj
   have:=hF.2.1.1 i hlt
   rw[show i*dq (.int .u8)+0=i by show i*1+0=i;omega,this,UInt8.toNat_ofNat',Nat.mod_eq_of_lt (show Lib.firstT i<2^8 from hv)]
noncomputable def SO:GE Tryz.prog where
 id:=159
 gl:=1
 pt:=fh
 xs:=px
 el:=158
 und:=by
  have h:List.length (α:=den fh) px=16:=xJ
  exact h▸(show Tryz.prog.underlying 159=some (.array 16 158) by kernel_rfl)
 sz:=fun w=>show(Go.sizeOf 158).run Tryz.prog w = .ok 2 w by kernel_rfl
 hg:=by decide
 ag:=false
 agk:=fun h=>by cases h
 cells:=fun w0 hF i x hx=>by
  have hx:px[i]?=some x:=hx
  rw[zb]at hx
  obtain⟨c,hc,rfl⟩:=Bb hx
  obtain⟨hlt,rfl⟩:=List.getElem?_eq_some_iff.1 hc
  rw[List.getElem_range]at *
  rw[List.length_range]at hlt
  obtain⟨v1,v2⟩:=O4 ⟨i,hlt⟩
  have v1:Lib.accLo i<256:=v1
  have v2:Lib.accHi i<256:=v2
  refine⟨[.int .u8 ((UInt8.ofNat (Lib.accLo i)).toNat:Int),.int .u8 ((UInt8.ofNat (Lib.accHi i)).toNat:Int)],fun _ _=>⟨[_],[_],rfl,rfl,rfl⟩,fun j u hj=>?_⟩
  obtain⟨h1,h2⟩:=hF.2.1.2 i hlt
  match j,hj with
  |0,hj=>
   cases hj
   rw[show i*dq fh+0=2*i by show i*2+0=2*i;omega,h1,UInt8.toNat_ofNat',Nat.mod_eq_of_lt (show Lib.accLo i<2^8 from v1)]
  |1,hj=>
   cases hj
   rw[show i*dq fh+1=2*i+1 by show i*2+1=2*i+1;omega,h2,UInt8.toNat_ofNat',Nat.mod_eq_of_lt (show Lib.accHi i<2^8 from v2)]
def SP:GE Tryz.prog where
 id:=186
 gl:=2
 pt:=.str
 xs:=[[102,97,108,115,101],[116,114,117,101],[110,117,108,108],[117,110,100,101,102,105,110,101,100]]
 el:=9
 und:=show Tryz.prog.underlying 186=some (.array 4 9) by kernel_rfl
 sz:=fun w=>show(Go.sizeOf 9).run Tryz.prog w = .ok 1 w by kernel_rfl
 hg:=by decide
 ag:=true
 agk:=fun _=>⟨⟨fun w=>by kernel_rfl,fun w=>by kernel_rfl⟩,rfl,rfl,⟨fun w=>by kernel_rfl,fun w=>by kernel_rfl⟩⟩
 cells:=fun w0 hF i x hx=>by
  obtain⟨h0,h1,h2,h3⟩:=hF.2.2.1
  match i,hx with
  |0,hx=>
   cases hx
   refine⟨[eA [102,97,108,115,101]],fun _ _=>rfl,fun j u hj=>?_⟩
   match j,hj with
   |0,hj=>cases hj;exact h0
  |1,hx=>
   cases hx
   refine⟨[eA [116,114,117,101]],fun _ _=>rfl,fun j u hj=>?_⟩
   match j,hj with
   |0,hj=>cases hj;exact h1
  |2,hx=>
   cases hx
   refine⟨[eA [110,117,108,108]],fun _ _=>rfl,fun j u hj=>?_⟩
   match j,hj with
   |0,hj=>cases hj;exact h2
  |3,hx=>
   cases hx
   refine⟨[eA [117,110,100,101,102,105,110,101,100]],fun _ _=>rfl,fun j u hj=>?_⟩
   match j,hj with
   |0,hj=>cases hj;exact h3
noncomputable def Sy:List (GE Tryz.prog):=[SP,SC,SO]
def Qf:XE Tryz.prog:=⟨149,.int .u64,.fl,fun n=>n,fun x v lab w h=>by
 obtain rfl:=bh.int (k:=.u64) h
 refine⟨.float .f64 (UInt64.toNat x),?_,⟨_,rfl,rfl⟩⟩
 have : ∀n:Int,(callFunc 149 #[.int .u64 n]).run Tryz.prog w = .ok (.value (.float .f64 n.toNat)) w:=fun n=>by kernel_rfl
 have h2:=this (eF .u64 x)
 rw[h2]
 rfl⟩
def Q6:XE Tryz.prog:=⟨150,.fl,.int .u64,fun n=>n,fun x v lab w h=>by
 obtain rfl:=bh.fl h
 refine⟨.int .u64 (eF .u64 x),?_,bh.ofInt (k:=.u64) x⟩
 have : ∀n:Nat,(callFunc 150 #[.float .f64 n]).run Tryz.prog w = .ok (.value (.int .u64 (n:Int))) w:=fun n=>by kernel_rfl
 exact this x.toNat⟩
def PZ:XE Tryz.prog:=⟨190,.int .u32,.f4,fun n=>n,fun x v lab w h=>by
 obtain rfl:=bh.int (k:=.u32) h
 refine⟨.float .f32 (UInt32.toNat x),?_,⟨_,rfl,rfl⟩⟩
 have : ∀n:Int,(callFunc 190 #[.int .u32 n]).run Tryz.prog w = .ok (.value (.float .f32 n.toNat)) w:=fun n=>by kernel_rfl
 have h2:=this (eF .u32 x)
 rw[h2]
 rfl⟩
def Sz:List (XE Tryz.prog):=[Qf,Q6,PZ]
theorem RQ:Tryz.prog.follows .mixedOrders=true:=by kernel_rfl
end Go.Proofs.YthejfljhiaeoeaaGreatDoor
