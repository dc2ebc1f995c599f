import Derived.Test.YthejfljhiaeoeaaGreatDoorC8
namespace Go.Proofs.YthejfljhiaeoeaaGreatDoor
open Go.Gk Go.RowKit
noncomputable section
set_option maxRecDepth 100000
def lh(mf:MF [.p 182 br,.d (.int .i64)] [.d .tree,.d (.int .i64)])(okf:OF 121 [.p 182 br,.d (.int .i64)] [.d .tree,.d (.int .i64)] mf):bW Tryz.prog:=xP 121 [.p 182 br,.d (.int .i64)] [.d .tree,.d (.int .i64)] Tryz.func121 mf (by kernel_rfl) okf
def pj(mf:MF [.p 182 br,.d (.int .i64)] [.d .tree,.d (.int .i64)])(okf:OF 121 [.p 182 br,.d (.int .i64)] [.d .tree,.d (.int .i64)] mf):bW Tryz.prog:=cZ 156 [.p 182 br,.d (.int .u64),.d (.int .i64)] [.d .tree,.d (.int .i64)] Tryz.func156 (iW mf) (tb [lh mf okf,mJ] [8,77] [(17,3,34)]) 79 [76] [] (.s .n (.s .n (.s .n (.s (.s .n (.b (.l .g ⟨[.d 9 (.sl (.int .u8)),.d 10 (.int .u64),.b 0 182 br,.b 6 36 .tree,.h 8 36 .tree 3 36 .tree],[0,1,2,6,8]⟩ (.s (.s .n (.c .n .n)) (.s (.b (.s .n (.s .n (.s (.s .n (.c (.s .n .n) .n)) (.s .n (.j ⟨[.b 6 36 .tree],[0,1,2,6,8,10,12,14]⟩ true (.s .n (.c (.s .n (.b (.s .n (.c (.s .n .n) (.s .n (.c (.s .n .n) .n)))))) .n)) (.s .n (.s .n (.s (.s .n (.c (.s .n .n) .n)) .n))))))))) .n))))) (.s .n .n))))) (by kernel_rfl) (by kernel_rfl)
theorem qR(mf:MF [.p 182 br,.d (.int .i64)] [.d .tree,.d (.int .i64)])(okf:OF 121 [.p 182 br,.d (.int .i64)] [.d .tree,.d (.int .i64)] mf):OF 121 [.p 182 br,.d (.int .i64)] [.d .tree,.d (.int .i64)] (gV mf):=G2 Tryz.func121 (tb [pT,g_,gM,vE,pj mf okf,lh mf okf] [13,163] [(142,3,34)]) 165 [162] [] (.s .n (.s (.s .n (.c (.s .n .n) .n)) (.s .n (.s .n (.s (.s .n (.c (.s .n .n) .n)) (.s .n (.s (.s .n (.b (.j ⟨[.d 43 .bool],[0,1,4,6,7,9,42]⟩ false (.s .n (.c .n .n)) (.c (.s .n .n) (.j ⟨[.d 49 .bool],[0,1,4,6,7,9,42]⟩ false (.s .n (.c .n .n)) (.c (.s (.s .n (.c (.s .n .n) .n)) (.s .n (.s .n (.s (.j ⟨[.d 98 .bool],[0,4,9,10]⟩ false .n (.c (.s .n .n) .n)) (.s .n .n))))) (.s .n (.c (.s .n .n) .n)))))))) (.s (.s .n (.c (.s .n .n) .n)) (.s (.s .n (.b (.s .n (.c (.s .n .n) (.s .n (.c (.s .n (.s (.s .n (.c (.s .n .n) .n)) (.s .n .n))) .n)))))) (.s .n (.j ⟨[.b 0 182 br,.b 4 36 .tree,.h 13 36 .tree 3 36 .tree],[0,4,13]⟩ true (.b (.l .g ⟨[.d 7 (.int .u64),.b 0 182 br,.b 4 36 .tree,.h 13 36 .tree 3 36 .tree],[0,1,4,13]⟩ (.s (.s .n (.c .n .n)) (.s (.b (.s .n (.s (.s .n (.c (.s .n .n) .n)) .n))) .n)))) (.s .n .n)))))))))))) (by kernel_rfl) (by kernel_rfl)
theorem lf : ∀(n:Nat),OF 121 [.p 182 br,.d (.int .i64)] [.d .tree,.d (.int .i64)] (gL n)
 |0=>fun a r h=>by cases(show(none:Option _)=some r from h)
 |n+1=>qR (gL n) (lf n)
def qi:bW Tryz.prog:=xP 121 [.p 182 br,.d (.int .i64)] [.d .tree,.d (.int .i64)] Tryz.func121 bT (by kernel_rfl) (lf 40)
def uY:bW Tryz.prog:=cZ 92 [.d (.sl (.int .u8))] [.d .tree,.d (.int .i64),.d (.int .i64)] Tryz.func92 kx (tb [qi]) 25 [] [] (.s .n (.s .n (.s .n (.s (.s .n (.c (.s .n .n) .n)) (.s .n .n))))) (by kernel_rfl) (by kernel_rfl)
def u5:bW Tryz.prog:=cZ 49 [.d (.sl (.int .u8))] [.d .tree,.d (.int .i64)] Tryz.func49 jh (tb [uY]) 29 [] [] (.s .n (.s (.s .n (.c (.s .n .n) .n)) (.s .n (.s (.b (.s .n (.c (.s .n .n) (.s .n (.c (.s .n .n) .n))))) (.s .n .n))))) (by kernel_rfl) (by kernel_rfl)
def qW:bW Tryz.prog:=cZ 50 [.d .tree] [.d (.int .i64),.d (.sl .tree)] Tryz.func50 iw (tb []) 64 [] [46] (.s .n (.s (.j ⟨[.d 28 .bool],[1]⟩ false .n (.c (.s .n .n) .n)) (.s .n (.j ⟨[.d 4 (.sl (.int .i64))],[1]⟩ false (.s .n (.c .n .n)) (.s .n (.s (.s .n (.c (.s .n .n) .n)) (.s (.s .n (.b (.l (.a 47 46) ⟨[],[1,5,45,46]⟩ (.s .n (.s (.c .n .n) (.s (.b (.s .n (.s .n (.c (.s .n .n) .n)))) .n)))))) (.s .n .n)))))))) (by kernel_rfl) (by kernel_rfl)
def ur:bW Tryz.prog:=cZ 51 [] [.d aI] Tryz.func51 qo (tb []) 4 [] [] (.s .n (.s .n .n)) (by kernel_rfl) (by kernel_rfl)
def qO:bW Tryz.prog:=cZ 15 [.d (.sl (.int .u8))] [.d (.int .i64),.d cG,.d (.int .i64)] Tryz.func15 fJ (tb [u5,qW,ur,gm]) 81 [] [] (.s .n (.s .n (.s (.s .n (.c (.s .n .n) .n)) (.s .n (.s (.s .n (.c (.s .n .n) .n)) (.s .n (.s .n (.j ⟨[.b 3 41 cG,.b 9 41 cG],[3,7,8,9]⟩ true (.s .n (.c (.s .n (.s (.j ⟨[.d 61 .bool],[3,7,8,9,10]⟩ false .n (.c (.s .n .n) .n)) .n)) .n)) (.j ⟨[.b 9 41 cG],[3,7,9]⟩ false (.s .n (.c .n .n)) (.s (.s .n (.c (.s .n .n) .n)) (.s .n .n))))))))))) (by kernel_rfl) (by kernel_rfl)
theorem QK{lab:bg}{w w':World}(t:dv lab w)(f:Fr [] w w')(gl:GL lab w):GL lab w':=gl.keep (Dy t f).keeps
theorem IR{lab:bg}{w:World}(t:dv lab w)(gl:GL lab w): ∀(w1:World),Fr [] w w1→∀(x y:List UInt8) (vx vy:Value),DS w1 vx x→DS w1 vy y→Calls Tryz.prog 55 [vx,vy].toArray w1 fun e w'=>e = .returned (.bool (x==y))∧Fr [] w1 w':=by
 intro w1 f x y vx vy dx dy
 obtain⟨w0,g0,g1⟩:=QK t f gl
 have gl0:GL (fun _=>0) w1:=⟨w0,g0,fun g hg=>⟨(g1 g hg).1,rfl,(g1 g hg).2.2⟩⟩
 obtain⟨ox,cx,rfl,hx⟩:=dx.ex
 obtain⟨oy,cy,rfl,hy⟩:=dy.ex
 have hc:=fx.ok (x,y,()) (x==y) rfl 3 3 0 (fun _=>0) w1 [.slice ox x.length cx,.slice oy y.length cy] (fun _ _=>rfl) gl0 (fun h=>by cases h) (by decide) ⟨bh.ofSl (t:=.int .u8) (dx.sl fun _ _=>rfl),bh.ofSl (t:=.int .u8) (dy.sl fun _ _=>rfl),trivial⟩
 refine hc.mono ?_
 rintro e w' ⟨lab',us,rfl,hs,hr⟩
 match us,hr with
 | [u],⟨hb,_⟩=>
  obtain rfl:=bh.bool hb
  exact⟨rfl,J1 hs⟩
def zK:bW Tryz.prog:=⟨52,[.d (.sl (.int .u8)),.d (.sl (.int .u8)),.d (.sl (.int .u8)),.d (.sl (.int .u8)),.d (.int .i64)],[.d (.sl (.int .u8)),.d (.int .i64)],⟨Tryz.f52,Tryz.func52,by kernel_rfl,by kernel_rfl⟩,nM,by
 intro a r h k kp gp lab w vs t gl _ hk hargs
 match vs,hargs with
 | [v0,v1,v2,v3,v4],⟨h0,h1,h2,h3,h4,_⟩=>
  obtain⟨key,nonce,aad,cip,z,_⟩:=a
  obtain⟨v,hv,hr⟩:=cX (show bnd (eR key nonce z) (fun v=>some (CL v key nonce aad cip z.toNat))=some r from h)
  have hr:CL v key nonce aad cip z.toNat=r:=Option.some.inj hr
  have hV:=Cl hv t gl h0 h1
  obtain⟨o0,c0,rfl,s0⟩:=bh.sl h0
  obtain⟨o1,c1,rfl,s1⟩:=bh.sl h1
  obtain⟨o2,c2,rfl,s2⟩:=bh.sl h2
  obtain⟨o3,c3,rfl,s3⟩:=bh.sl h3
  obtain rfl:v4 = .int .i64 z:=bh.int (k:=.i64) h4
  refine(KW (IR t gl) hV (fun e=>ze (e▸hv)) (DS.ofSL s0) (DS.ofSL s1) (DS.ofSL s2) (DS.ofSL s3)).mono ?_
  rintro e w' ⟨oo,co,rfl,f,ob⟩
  rw[hr]at ob
  rw[hr]
  exact⟨lab,[.slice oo r.1.length co,.int .i64 r.2],rfl,Dy t f,bh.ofSl (t:=.int .u8) (Ni t ob),bh.ofInt (k:=.i64) r.2,trivial⟩⟩
def sx:bW Tryz.prog:=cZ 16 [.d cG,.d (.sl (.int .u8)),.d (.sl (.int .u8)),.d (.sl (.int .u8))] [.d (.sl (.int .u8)),.d (.int .i64)] Tryz.func16 gZ (tb [gm,pB,j3,lU,zK]) 48 [] [] (.s .n (.s (.j ⟨[.d 22 .bool],[1,2,3,4]⟩ false .n (.c (.s .n .n) .n)) (.s .n (.s (.s .n (.c (.s .n .n) .n)) (.s .n (.s (.s .n (.c (.s .n .n) .n)) (.s .n .n))))))) (by kernel_rfl) (by kernel_rfl)
def kQ:bW Tryz.prog:=cZ 53 [.p 97 fS,.d (.int .i64)] [.d (.sl (.int .u8))] Tryz.func53 a_ (tb []) 36 [] [] (.s .n (.s (.s .n (.c (.s .n (.s .n .n)) .n)) (.s .n (.s .n (.s .n .n))))) (by kernel_rfl) (by kernel_rfl)
def nS:bW Tryz.prog:=cZ 54 [.p 97 fS,.d (.int .u8)] [.d (.int .i64)] Tryz.func54 bP (tb [kQ]) 37 [] [] (.s .n (.j ⟨[.b 0 97 fS],[0,1]⟩ true (.s .n (.b (.s .n (.c (.s .n .n) (.s .n (.c (.s .n (.s .n .n)) (.s .n (.c .n .n)))))))) (.s .n .n))) (by kernel_rfl) (by kernel_rfl)
end
end Go.Proofs.YthejfljhiaeoeaaGreatDoor
