import Derived.Test.YthejfljhiaeoeaaGreatDoorZv
namespace Go.Proofs.YthejfljhiaeoeaaGreatDoor
open Go.Gk Go.RowKit
noncomputable section
set_option maxRecDepth 100000
def tb(cs:List (bW Tryz.prog))(hold:List Nat:=[])(ni:List (Nat×Nat×TypeId):=[])(so:List (Rj Tryz.prog):=[]):mR Tryz.prog:=⟨tes,zU,SH,Sx,cs,hold,SG,ni,SB,Sy,SK,so,Sz⟩
abbrev MF(ps:List PK)(rs:List RK):=dS ps (Option (xZ (rs++iH ps)))
abbrev OF(fid:Nat)(ps:List PK)(rs:List RK)(m:MF ps rs):Prop:=∀a r,GI ps m a=some r→Re Tryz.prog fid ps rs a (io _ r)
def Q5 (fn : Func) : Bool := !(fn.name == "runtime.NumGoroutine") && !fn.body.isNone
def Rl(fn:Func)(ps:List PK)(N:Nat):Bool:=Q5 fn&&(Nat.beq fn.ntmps N&&(Nat.ble ps.length N&&D6 ps))
theorem Su{fid:Nat}{fn:Func}(hf:Tryz.prog.funcs[fid]?=some fn)(e:Q5 fn=true):Pz Tryz.prog fid:=by
 unfold Q5 at e
 obtain⟨a,b⟩:=lS e
 exact ⟨fn, hf, by revert a; cases (fn.name == "runtime.NumGoroutine") <;> simp, by revert b; cases fn.body.isNone <;> simp⟩
theorem G2{fid:Nat}{ps:List PK}{rs:List RK}{fn:Func}(hf:Tryz.prog.funcs[fid]?=some fn){m:MF ps rs}(T:mR Tryz.prog)(N:Nat)(own rng:List Nat)(h:xj)(e:Rl fn ps N=true)(em:(fun a=>Sk T N own rng (z_ fn) h fn.results.toList ps rs a)=fun a=>GI ps m a):OF fid ps rs m:=fun a r hm=>by
 unfold Rl at e
 obtain⟨a0,b⟩:=lS e
 obtain⟨b1,b2⟩:=lS b
 unfold Q5 at a0
 obtain⟨_,a2⟩:=lS a0
 have hb:fn.body=some (z_ fn):=by
  unfold z_
  cases h:fn.body with
  |some c=>rfl
  |none=>rw[h]at a2;cases a2
 exact OS (qs:=fn.results.toList) RQ hf hb b1 (by simp) b2 a r ((congrFun em a).trans hm)
def cZ(fid:Nat)(ps:List PK)(rs:List RK){fn:Func}(hf:Tryz.prog.funcs[fid]?=some fn)(m:MF ps rs)(T:mR Tryz.prog)(N:Nat)(own rng:List Nat)(h:xj)(e:Rl fn ps N=true)(em:(fun a=>Sk T N own rng (z_ fn) h fn.results.toList ps rs a)=fun a=>GI ps m a):bW Tryz.prog:=⟨fid,ps,rs,Su hf (lS e).1,m,G2 hf T N own rng h e em⟩
def xP(fid:Nat)(ps:List PK)(rs:List RK){fn:Func}(hf:Tryz.prog.funcs[fid]?=some fn)(m:MF ps rs)(e:Q5 fn=true)(ok:OF fid ps rs m):bW Tryz.prog:=⟨fid,ps,rs,Su hf e,m,ok⟩
def qV:bW Tryz.prog:=cZ 4 [.d (.sl (.int .i64))] [.p 64 ao] Tryz.func4 mB (tb []) 6 [] [] (.s .n (.s .n .n)) (by kernel_rfl) (by kernel_rfl)
def lu:bW Tryz.prog:=cZ 11 [.d (.int .i64),.d (.int .i64)] [.d (.int .i64)] Tryz.func11 fG (tb []) 15 [] [] (.s .n (.s .n (.j ⟨[.d 5 (.int .i64)],[]⟩ false (.s .n (.c .n .n)) (.s .n .n)))) (by kernel_rfl) (by kernel_rfl)
def bv:bW Tryz.prog:=cZ 22 [.p 64 ao,.d (.int .i64)] [.d (.int .i64)] Tryz.func22 ah (tb [lu]) 35 [] [] (.s .n (.s (.s .n (.c (.s .n .n) .n)) (.s .n (.s .n .n)))) (by kernel_rfl) (by kernel_rfl)
def dG:bW Tryz.prog:=cZ 23 [.p 64 ao,.d (.int .i64)] [.d (.sl (.int .u8))] Tryz.func23 aH (tb [bv]) 22 [20] [] (.s .n (.s .n (.s (.s .n (.b (.l .g ⟨[.o 5 5 (.int .u8),.d 6 (.int .i64),.b 0 64 ao],[0]⟩ (.s (.s .n (.c .n .n)) (.s (.b .n) .n))))) (.s .n .n)))) (by kernel_rfl) (by kernel_rfl)
def ny:bW Tryz.prog:=cZ 61 [] [.d (.sl (.int .i64))] Tryz.func61 dM (tb []) 2 [] [] (.s .n (.s .n .n)) (by kernel_rfl) (by kernel_rfl)
def nK:bW Tryz.prog:=cZ 63 [.d aS,.d (.int .i64)] [.o 25 (.sl (.int .u8))] Tryz.func63 dY (tb []) 27 [24] [10] (.s .n (.s .n (.s (.s .n (.b (.l (.a 11 10) ⟨[.o 5 25 (.sl (.int .u8))],[1,9,10]⟩ (.s .n (.s (.c .n .n) (.j ⟨[.o 5 25 (.sl (.int .u8))],[1,9,10,11]⟩ false (.b (.s .n (.s .n (.c .n .n)))) .n)))))) (.s .n .n)))) (by kernel_rfl) (by kernel_rfl)
def pg:bW Tryz.prog:=cZ 97 [.d aS,.d (.sl bH)] [.d aS] Tryz.func97 eL (tb []) 35 [30] [17] (.s .n (.s .n (.s .n (.s (.s .n (.b (.l (.a 18 17) ⟨[.o 5 100 bH],[2,4,16,17]⟩ (.s .n (.s (.c .n .n) (.s (.b (.s .n .n)) .n)))))) (.s .n (.s .n .n)))))) (by kernel_rfl) (by kernel_rfl)
def p9:bW Tryz.prog:=cZ 62 [.d aS,.d (.int .i64),.d (.sl (.sl (.int .u8)))] [.d aS] Tryz.func62 dP (tb [pg]) 62 [28,41,57] [16,31,45] (.s .n (.s .n (.s (.s .n (.b (.l (.a 17 16) ⟨[.o 7 100 bH],[1,2,3,6,15,16]⟩ (.s .n (.s (.c .n .n) (.j ⟨[.o 7 100 bH],[1,2,3,6,15,16,17]⟩ false (.b (.s .n (.s .n (.c .n .n)))) .n)))))) (.s (.s .n (.b (.l (.a 32 31) ⟨[.o 7 100 bH],[1,3,6,30,31]⟩ (.s .n (.s (.c .n .n) (.s (.b (.s .n .n)) .n)))))) (.s (.s .n (.b (.l (.a 46 45) ⟨[.o 7 100 bH],[1,3,6,44,45]⟩ (.s .n (.s (.c .n .n) (.j ⟨[.o 7 100 bH],[1,3,6,44,45,46]⟩ false (.b (.s .n (.s .n (.c .n .n)))) .n)))))) (.s .n .n)))))) (by kernel_rfl) (by kernel_rfl)
def kV:bW Tryz.prog:=cZ 24 [.p 64 ao,.d (.int .i64)] [.d (.sl bH)] Tryz.func24 dE (tb [bv,ny,nK,dG,p9]) 34 [] [] (.s .n (.s .n (.s (.s .n (.b (.l .g ⟨[.d 6 (.int .i64),.b 0 64 ao,.b 5 28 aS],[0,5]⟩ (.s (.s .n (.c .n .n)) (.s (.b (.s .n .n)) .n))))) (.s .n .n)))) (by kernel_rfl) (by kernel_rfl)
def oW:bW Tryz.prog:=cZ 25 [.d aS] [.d aS] Tryz.func25 gh (tb []) 34 [29] [16] (.s .n (.s .n (.s .n (.s (.s .n (.b (.l (.a 17 16) ⟨[.o 3 100 bH],[1,2,15,16]⟩ (.s .n (.s (.c .n .n) (.s (.b (.s .n .n)) .n)))))) (.s .n (.s .n .n)))))) (by kernel_rfl) (by kernel_rfl)
def kW:bW Tryz.prog:=cZ 5 [.p 64 ao,.d (.int .i64)] [.d aS] Tryz.func5 dw (tb [bv,dG,kV,oW]) 28 [] [] (.s .n (.s .n (.j ⟨[.b 0 64 ao,.b 5 28 aS],[0,4,5]⟩ false (.s .n (.c .n .n)) (.s .n .n)))) (by kernel_rfl) (by kernel_rfl)
def pE:bW Tryz.prog:=cZ 26 [.d aS] [.d .bool] Tryz.func26 gT (tb []) 120 [] [66] (.s .n (.s .n (.s (.j ⟨[.d 43 .bool],[1]⟩ false .n (.c (.s .n .n) .n)) (.s (.j ⟨[.d 63 .bool],[1]⟩ false .n (.c (.s .n .n) .n)) (.s .n (.s (.s .n (.b (.l (.a 67 66) ⟨[.d 4 (.int .i64)],[1,65,66]⟩ (.s .n (.s (.c .n .n) (.s (.b (.s .n (.s (.j ⟨[.d 85 .bool],[1,6,65,66,67]⟩ false .n (.c (.s .n .n) .n)) .n))) .n)))))) (.s (.j ⟨[.d 105 .bool],[1]⟩ false .n (.c (.s .n .n) .n)) (.j ⟨[.d 2 .bool],[]⟩ false .n .n)))))))) (by kernel_rfl) (by kernel_rfl)
def vG:bW Tryz.prog:=cZ 64 [.d (.int .i64)] [.d (.int .u8),.d (.sl (.int .u8))] Tryz.func64 gP (tb []) 24 [] [] (.s .n (.s (.b (.s .n (.c (.s .n .n) (.s .n (.c (.s .n .n) .n))))) (.s .n .n))) (by kernel_rfl) (by kernel_rfl)
def oR:bW Tryz.prog:=cZ 27 [.d aS] [.d (.sl (.int .u8))] Tryz.func27 fR (tb [vG]) 85 [30,34,63,65,67,70,80,83] [37] (.s .n (.s .n (.s .n (.s .n (.s (.s .n (.b (.l (.a 38 37) ⟨[.o 3 5 (.int .u8),.d 4 (.int .i64)],[1,36,37]⟩ (.s .n (.s (.c .n .n) (.s (.b (.s .n (.s .n (.s .n (.s .n .n))))) .n)))))) (.j ⟨[.o 3 5 (.int .u8)],[]⟩ false (.s .n (.c .n .n)) (.s .n .n))))))) (by kernel_rfl) (by kernel_rfl)
def uZ:bW Tryz.prog:=cZ 6 [.d aS] [.d (.sl (.int .u8)),.d (.int .i64)] Tryz.func6 ky (tb [pE,oR]) 14 [] [] (.s .n (.s (.s .n (.c (.s .n .n) .n)) (.s .n (.s (.s .n (.c (.s .n .n) .n)) (.s .n .n))))) (by kernel_rfl) (by kernel_rfl)
def oJ:bW Tryz.prog:=cZ 28 [] [.d aI] Tryz.func28 iB (tb []) 4 [] [] (.s .n (.s .n .n)) (by kernel_rfl) (by kernel_rfl)
def d7:bW Tryz.prog:=cZ 30 [.d (.int .i64)] [.d .tree] Tryz.func30 av (tb []) 12 [] [] (.s .n (.s (.s .n (.c (.s .n .n) .n)) (.s .n .n))) (by kernel_rfl) (by kernel_rfl)
def mg:bW Tryz.prog:=cZ 164 [.d (.sl (.int .u8))] [.d (.int .u64)] Tryz.func164 aq (tb []) 71 [] [] (.s .n (.s (.c (.s .n .n) .n) (.s .n .n))) (by kernel_rfl) (by kernel_rfl)
def gM:bW Tryz.prog:=cZ 133 [.d (.sl (.int .u8))] [.d .bool] Tryz.func133 bk (tb [mg]) 188 [] [] (.s .n (.s .n (.j ⟨[],[]⟩ true (.b (.l .g ⟨[.d 0 (.sl (.int .u8))],[]⟩ (.s (.s .n (.c .n .n)) (.b (.s .n (.s (.s .n (.c (.s .n (.s (.j ⟨[.d 31 .bool],[0]⟩ false .n (.c (.s .n (.j ⟨[.d 46 .bool],[0]⟩ false .n (.c (.s .n (.b (.l .g ⟨[.d 0 (.sl (.int .u8))],[]⟩ (.s (.j ⟨[.d 69 .bool],[0]⟩ false .n (.c .n .n)) (.b .n))))) .n))) .n)) .n)) .n)) (.s .n (.s .n (.s .n (.s .n (.b (.s .n (.c (.s (.j ⟨[.d 103 .bool],[0]⟩ false .n (.c (.s .n .n) .n)) .n) (.s .n (.c (.s (.j ⟨[.d 138 .bool],[0]⟩ false .n (.c (.s .n .n) .n)) .n) (.s .n (.c (.s (.j ⟨[.d 185 .bool],[0]⟩ false .n (.c (.s .n .n) .n)) .n) (.s .n .n)))))))))))))))))) (.s .n .n)))) (by kernel_rfl) (by kernel_rfl)
def gH:bW Tryz.prog:=cZ 105 [.d (.int .u64)] [.d .bool] Tryz.func105 df (tb []) 12 [] [] (.s .n (.j ⟨[.d 2 .bool],[]⟩ false .n .n)) (by kernel_rfl) (by kernel_rfl)
def nw:bW Tryz.prog:=cZ 134 [.d (.int .i64),.d (.int .u64)] [.o 5 (.int .u8)] Tryz.func134 ax (tb []) 66 [12,28,64] [] (.s .n (.s .n (.s .n (.j ⟨[.o 5 5 (.int .u8),.d 6 (.int .i64)],[1]⟩ true (.b (.s .n (.c (.s .n .n) (.s .n (.c .n (.s .n (.c .n (.s .n (.c .n .n))))))))) (.s (.s .n (.b (.l .g ⟨[.o 5 5 (.int .u8),.d 7 (.int .i64)],[1]⟩ (.s (.s .n (.c .n .n)) (.s (.b .n) .n))))) (.s .n .n)))))) (by kernel_rfl) (by kernel_rfl)
def nF:bW Tryz.prog:=cZ 165 [.d (.int .u64),.d (.int .i64),.d (.int .i64)] [.d (.int .u64),.d .bool] Tryz.func165 cB (tb []) 109 [] [] (.s .n (.s .n (.s .n (.s (.b (.s .n (.c (.s .n .n) (.s .n (.c (.s .n .n) .n))))) (.s .n (.s (.b (.s .n (.c (.s .n .n) (.s .n (.c (.s .n .n) .n))))) (.s .n (.s (.s .n (.c (.s .n .n) .n)) (.s .n .n))))))))) (by kernel_rfl) (by kernel_rfl)
def oz:bW Tryz.prog:=cZ 135 [.d (.int .u64)] [.d (.sl (.int .u8))] Tryz.func135 d_ (tb [gH,nF]) 57 [42,55] [] (.s .n (.s (.s .n (.c (.s .n .n) .n)) (.s (.s .n (.s .n (.c (.s .n .n) .n))) (.s (.s .n (.s .n (.c (.s .n .n) .n))) (.s .n (.s (.s .n (.b (.l .g ⟨[.o 7 5 (.int .u8),.d 8 (.int .i64)],[0]⟩ (.s (.s .n (.c .n .n)) (.s (.b .n) .n))))) (.s .n .n))))))) (by kernel_rfl) (by kernel_rfl)
def qQ(mf:MF [.d .tree] [.d (.sl (.int .u8))])(okf:OF 102 [.d .tree] [.d (.sl (.int .u8))] mf):bW Tryz.prog:=xP 102 [.d .tree] [.d (.sl (.int .u8))] Tryz.func102 mf (by kernel_rfl) okf
theorem qP(mf:MF [.d .tree] [.d (.sl (.int .u8))])(okf:OF 102 [.d .tree] [.d (.sl (.int .u8))] mf):OF 102 [.d .tree] [.d (.sl (.int .u8))] (gU mf):=G2 Tryz.func102 (tb [nw,oz,qQ mf okf]) 79 [76] [68] (.s .n (.s .n (.j ⟨[.o 3 5 (.int .u8)],[1]⟩ true (.s .n (.b (.j ⟨[.d 11 .bool],[1,7]⟩ false (.s .n (.c .n .n)) (.c (.s .n .n) (.j ⟨[.d 19 .bool],[1,7]⟩ false (.s .n (.c .n .n)) (.c (.s .n .n) (.s .n (.c .n (.s .n (.c .n (.s .n (.c .n (.s .n (.c (.s (.s .n (.c (.s .n .n) .n)) (.s .n .n)) (.s .n .n))))))))))))))) (.s (.s .n (.b (.l (.a 69 68) ⟨[.o 3 5 (.int .u8)],[67,68]⟩ (.s .n (.s (.c .n .n) (.s (.b (.s .n .n)) .n)))))) (.s .n .n))))) (by kernel_rfl) (by kernel_rfl)
theorem lj : ∀(n:Nat),OF 102 [.d .tree] [.d (.sl (.int .u8))] (gF n)
 |0=>fun a r h=>by cases(show(none:Option _)=some r from h)
 |n+1=>qP (gF n) (lj n)
def iD:bW Tryz.prog:=xP 102 [.d .tree] [.d (.sl (.int .u8))] Tryz.func102 aN (by kernel_rfl) (lj 40)
def fQ:bW Tryz.prog:=cZ 103 [.d (.sl (.int .u8)),.d (.sl (.int .u8))] [.d (.int .i64)] Tryz.func103 aT (tb []) 48 [] [] (.s .n (.s (.s .n (.b (.l .g ⟨[.d 5 (.int .i64)],[0,1]⟩ (.s (.j ⟨[.d 15 .bool],[0,1,5]⟩ false .n (.c .n .n)) (.s (.b (.s .n (.c (.s (.s .n (.c (.s .n .n) .n)) (.s .n .n)) .n))) .n))))) (.s (.b (.s .n (.c (.s .n .n) (.s .n (.c (.s .n .n) .n))))) (.s .n .n)))) (by kernel_rfl) (by kernel_rfl)
def pH(mf:MF [.d .tree,.d (.int .i64),.d (.int .i64)] [.d (.int .i64)])(okf:OF 101 [.d .tree,.d (.int .i64),.d (.int .i64)] [.d (.int .i64)] mf):bW Tryz.prog:=xP 101 [.d .tree,.d (.int .i64),.d (.int .i64)] [.d (.int .i64)] Tryz.func101 mf (by kernel_rfl) okf
theorem pz(mf:MF [.d .tree,.d (.int .i64),.d (.int .i64)] [.d (.int .i64)])(okf:OF 101 [.d .tree,.d (.int .i64),.d (.int .i64)] [.d (.int .i64)] mf):OF 101 [.d .tree,.d (.int .i64),.d (.int .i64)] [.d (.int .i64)] (gk mf):=G2 Tryz.func101 (tb [gM,gH,pH mf okf,iD,fQ]) 197 [] [156] (.s .n (.s (.s .n (.c (.s .n .n) .n)) (.s .n (.j ⟨[.d 7 .bool],[1,2,3]⟩ false .n (.j ⟨[.d 8 .bool],[1,2,3,7]⟩ false .n (.s (.b (.j ⟨[.d 37 .bool],[1,2,3,7]⟩ false (.j ⟨[.d 37 .bool],[1,2,3,7,8]⟩ false .n (.c .n (.j ⟨[.d 37 .bool],[1,2,3,7,8]⟩ false .n (.c .n (.j ⟨[.d 37 .bool],[1,2,3,7,8]⟩ false .n (.c .n .n)))))) (.c (.s .n .n) (.j ⟨[.d 78 .bool],[1,2,3,7]⟩ false (.s .n (.c .n .n)) (.c (.s .n .n) (.j ⟨[.d 92 .bool],[1,2,3,7]⟩ false (.j ⟨[.d 92 .bool],[1,2,3,7]⟩ false .n (.c .n .n)) (.c (.s .n .n) (.j ⟨[.d 124 .bool],[1,2,3]⟩ false (.j ⟨[.d 124 .bool],[1,2,3]⟩ false .n (.c .n (.j ⟨[.d 124 .bool],[1,2,3]⟩ false .n (.c .n (.j ⟨[.d 124 .bool],[1,2,3]⟩ false .n (.c .n .n)))))) (.c (.s .n .n) .n))))))))) (.j ⟨[.d 1 (.int .i64)],[3]⟩ true (.s .n (.b (.l (.a 157 156) ⟨[.d 1 (.int .i64)],[2,3,155,156]⟩ (.s .n (.s (.c .n .n) (.s (.b (.s .n (.s .n (.s .n (.c (.s .n .n) .n))))) .n)))))) (.s (.s .n (.b (.l .g ⟨[.d 11 (.int .i64)],[1,3]⟩ (.s (.j ⟨[.d 178 .bool],[1,3,11]⟩ false .n (.c .n .n)) (.s (.b (.s .n (.c (.s .n .n) .n))) .n))))) (.s .n .n))))))))) (by kernel_rfl) (by kernel_rfl)
theorem kJ : ∀(n:Nat),OF 101 [.d .tree,.d (.int .i64),.d (.int .i64)] [.d (.int .i64)] (f_ n)
 |0=>fun a r h=>by cases(show(none:Option _)=some r from h)
 |n+1=>pz (f_ n) (kJ n)
def pb:bW Tryz.prog:=xP 101 [.d .tree,.d (.int .i64),.d (.int .i64)] [.d (.int .i64)] Tryz.func101 eI (by kernel_rfl) (kJ 40)
def eQ:bW Tryz.prog:=cZ 66 [.d .tree] [.d .bool] Tryz.func66 aW (tb [pb,iD]) 12 [] [] (.s .n (.j ⟨[.d 2 .bool],[]⟩ false .n .n)) (by kernel_rfl) (by kernel_rfl)
def oh:bW Tryz.prog:=cZ 98 [.d .tree] [.d .bool] Tryz.func98 dg (tb []) 21 [] [] (.s .n (.j ⟨[.d 2 .bool],[]⟩ false .n .n)) (by kernel_rfl) (by kernel_rfl)
def pM(mf:MF [.d .tree,.d .tree] [.d .bool])(okf:OF 93 [.d .tree,.d .tree] [.d .bool] mf):bW Tryz.prog:=xP 93 [.d .tree,.d .tree] [.d .bool] Tryz.func93 mf (by kernel_rfl) okf
theorem pZ(mf:MF [.d .tree,.d .tree] [.d .bool])(okf:OF 93 [.d .tree,.d .tree] [.d .bool] mf):OF 93 [.d .tree,.d .tree] [.d .bool] (fY mf):=G2 Tryz.func93 (tb [fQ,pM mf okf]) 53 [] [38] (.s .n (.s (.j ⟨[.d 35 .bool],[2,3]⟩ false .n (.c (.s .n .n) .n)) (.s (.s .n (.b (.l (.a 39 38) ⟨[],[3,37,38]⟩ (.s .n (.s (.c .n .n) (.s (.b (.s .n (.s .n (.c (.s .n .n) .n)))) .n)))))) (.s .n .n)))) (by kernel_rfl) (by kernel_rfl)
theorem kP : ∀(n:Nat),OF 93 [.d .tree,.d .tree] [.d .bool] (f' n)
 |0=>fun a r h=>by cases(show(none:Option _)=some r from h)
 |n+1=>pZ (f' n) (kP n)
def fo:bW Tryz.prog:=xP 93 [.d .tree,.d .tree] [.d .bool] Tryz.func93 aB (by kernel_rfl) (kP 40)
def iY:bW Tryz.prog:=cZ 100 [.d .tree,.d .tree] [.d .tree,.d .bool] Tryz.func100 bm (tb [fo]) 29 [] [] (.s .n (.s (.s .n (.b (.l .g ⟨[.d 6 (.int .i64),.b 4 36 .tree],[2,3,4]⟩ (.s (.s .n (.c .n .n)) (.s (.b (.s .n (.c (.s .n .n) .n))) .n))))) (.s .n .n))) (by kernel_rfl) (by kernel_rfl)
def n7:bW Tryz.prog:=cZ 99 [.d .tree,.d .tree,.d .tree] [.d .bool] Tryz.func99 cL (tb [d7,fo,iY]) 78 [] [50,65] (.s .n (.s (.b (.s .n (.c (.j ⟨[.d 6 .bool],[]⟩ false .n .n) (.s .n (.c (.s (.j ⟨[.d 47 .bool],[4,5]⟩ false .n (.c (.s .n .n) .n)) (.s (.s .n (.b (.l (.a 51 50) ⟨[],[5,49,50]⟩ (.s .n (.s (.c .n .n) (.s (.b (.s .n (.s .n (.s .n (.c (.s .n .n) .n))))) .n)))))) (.s .n .n))) .n))))) (.s (.s .n (.b (.l (.a 66 65) ⟨[],[3,4,64,65]⟩ (.s .n (.s (.c .n .n) (.s (.b (.s .n (.s .n (.c (.s .n .n) .n)))) .n)))))) (.s .n .n)))) (by kernel_rfl) (by kernel_rfl)
def j1:bW Tryz.prog:=cZ 67 [.d aI,.d (.int .i64)] [.d .tree,.d .bool] Tryz.func67 cz (tb [d7,iY]) 25 [] [] (.s .n (.s (.s .n (.s .n (.c (.s .n .n) .n))) (.s .n .n))) (by kernel_rfl) (by kernel_rfl)
end
end Go.Proofs.YthejfljhiaeoeaaGreatDoor
