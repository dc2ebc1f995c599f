/- A part of the proof of TopChain. No condition. -/
import Derived.Test.YtimjjookppejeaaGreatDoorC5
namespace Go.Proofs.YtimjjookppejeaaGreatDoor
open Go.Gk Go.RowKit
noncomputable section
set_option maxRecDepth 100000
def xz:aW Tryz.prog:=bw 59 [.d .str] [.d .bool] Tryz.func59 pq (tb [fY]) 10 [] [] (.s .n (.j ⟨[.d 2 .bool],[]⟩ false .n .n)) (by kernel_rfl) (by kernel_rfl)
def xK:aW Tryz.prog:=bw 113 [.d (.sl (.int .u8))] [.d .bool] Tryz.func113 ka (tb []) 11 [] [] (.s .n (.j ⟨[.d 2 .bool],[]⟩ false .n .n)) (by kernel_rfl) (by kernel_rfl)
def qy:aW Tryz.prog:=bw 60 [.d dA] [.d .bool] Tryz.func60 l_ (tb [xK]) 82 [] [] (.s .n (.s (.j ⟨[.d 16 .bool],[1]⟩ false .n (.c (.s .n .n) .n)) (.s (.s .n (.b (.s .n (.c (.j ⟨[.d 2 .bool],[]⟩ false .n .n) (.s .n (.c (.j ⟨[.d 2 .bool],[]⟩ false .n .n) .n)))))) (.s .n .n)))) (by kernel_rfl) (by kernel_rfl)
def jk:aW Tryz.prog:=bw 24 [.d aT] [.d .bool] Tryz.func24 cM (tb [xz,qy]) 71 [] [] (.s .n (.s (.j ⟨[.d 17 .bool],[1]⟩ false .n (.c (.s .n .n) .n)) (.s (.j ⟨[.d 47 .bool],[1]⟩ false .n (.c (.s .n .n) .n)) (.j ⟨[.d 2 .bool],[]⟩ false .n .n)))) (by kernel_rfl) (by kernel_rfl)
def xj:aW Tryz.prog:=bw 74 [.d (.int .u64)] [.d .tree] Tryz.func74 t8 (tb []) 5 [] [] (.s .n (.s .n .n)) (by kernel_rfl) (by kernel_rfl)
def cP:aW Tryz.prog:=bw 35 [.d (.int .i64)] [.d .tree] Tryz.func35 ax (tb [xj]) 12 [] [] (.s .n (.s (.s .n (.c (.s .n .n) .n)) (.s .n .n))) (by kernel_rfl) (by kernel_rfl)
theorem DP:Tryz.prog.underlying 26=some (.slice 5):=by kernel_rfl
theorem zG:gv Tryz.prog 26 5 1 1 (.int .u8 0):=⟨by kernel_rfl,j1 (by kernel_rfl),by kernel_rfl,by decide⟩
theorem Dq:mD Tryz.prog 5 (.int .u8 0):=fun w=>by kernel_rfl
theorem mK{lab:bf}{w:World}{a0:List UInt8}{r:List UInt8}(hm:dF a0=some r)(t:cm lab w){oa:Option Addr}{c:Nat}(s:SL bF.u8 lab w oa c a0):
  Calls Tryz.prog 71 [.slice oa a0.length c].toArray w (fun e w'=>∃(oa':Option Addr) (c':Nat),e = .returned (.slice oa' r.length c')∧i7 lab 0 w lab w'∧SL bF.u8 lab w' oa' c' r∧True):=by
 have hm':bnd (app ([]:List UInt8) a0) some=some r:=by unfold dF at hm;rw[hm];rfl
 refine enter Tryz.func71 rfl 8 rfl rfl ?_
 refine CW.sub (G:=[(0,.slice oa a0.length c)]) ⟨rfl,trivial⟩ ?_
 refine CW.seq ?_
 refine CW.region ?_
 refine LW.assign wn rfl rfl ?_
 refine LW.nil ?_
 refine EW.seq_n ?_
 refine CW.seq ?_
 refine CW.seq ?_
 refine CW.region ?_
 refine LW.move wn rfl rfl ?_
 refine LW.eqnil DP wn rfl rfl rfl ?_
 refine LW.nil ?_
 refine EW.seq_n ?_
 refine CW.cond (b:=oa.isNone) rfl (fun hb=>?_) (fun hb=>?_)
 ·cases oa with
  |some _=>cases hb
  |none=>
   have h0:a0 = []:=(SL.flat' s).1 rfl
   subst h0
   have hr:r = []:=by simp[app,bnd,wZ]at hm';exact hm'
   subst hr
   refine CW.seq ?_
   refine CW.region ?_
   refine LW.assign wn rfl rfl ?_
   refine LW.nil ?_
   refine EW.seq_n ?_
   refine CW.ret ?_
   refine EW.seq_r ?_
   exact EW.ret1 rfl rfl ⟨none,0,rfl,⟨rfl,rfl,rfl,Nat.le_refl _,fun _ _ _=>rfl,fun _ _=>rfl,t⟩,SL.nil,trivial⟩
 ·refine CW.skip ?_
  refine EW.seq_n ?_
  refine CW.seq ?_
  refine CW.region ?_
  have cx:=Cx.start t
  replace s:=s.keep bd.lin
  refine LW.buildOwn (k:=2) (ρ:=bF.u8) (vs:=[]) (css:=[]) (xs:=[]) rfl zG Dq (by kernel_rfl) rfl rfl trivial cx.top wn rfl ?_
  intro oa1 c1 lab1 w1 e1 o1
  replace cx:=cx.step e1 rfl;replace s:=s.step e1
  refine LW.move wn rfl rfl ?_
  refine LW.append (ρ:=bF.u8) (xs:=[]) (ys:=a0) hm' o1 (SL.flat' s) cx.top rfl zG rfl wn rfl rfl rfl ?_
  intro zs oa2 c2 lab2 w2 hz e2 o2
  cases hz
  replace cx:=cx.step e2 rfl
  refine LW.assign wn rfl rfl ?_
  refine LW.nil ?_
  refine EW.seq_n ?_
  refine CW.ret ?_
  exact EW.ret1 rfl rfl ⟨_,_,rfl,cx.ste t,o2.sl (cx.keeps t) (cx.own0 t rfl),trivial⟩
def lv:aW Tryz.prog:=⟨71,[.d (.sl (.int .u8))],[.d (.sl (.int .u8))],⟨Tryz.f71,Tryz.func71,by kernel_rfl,by kernel_rfl⟩,dF,by
 intro a r h k kp gp lab w vs t _ _ hk hargs
 match vs,hargs with
 | [v],hargs=>
  obtain⟨hd,_⟩:=hargs
  obtain⟨oa,c,rfl,s⟩:=aV.sl hd
  refine(mK (a0:=a.1) (r:=r) h t s).mono ?_
  rintro e w' ⟨oa',c',rfl,hs,s',_⟩
  exact⟨lab,[_],rfl,hs.stp (.inr rfl),aV.ofSl (t:=.int .u8) s',trivial⟩⟩
def ji:aW Tryz.prog:=bw 32 [.d (.sl (.int .u8))] [.d .tree] Tryz.func32 dc (tb [lv]) 6 [] [] (.s .n (.s .n .n)) (by kernel_rfl) (by kernel_rfl)
def uk:xk Tryz.prog:=P3 200 [(.int .i64),(.sl (.int .u8))] [] 43 ((.sl .tree)) 0 45 .tree Tryz.func200 it (tb [cP,ji] [2]) 19 [15] [] (.s .n (.c .n .n)) (by kernel_rfl) (by kernel_rfl)
def xv:aW Tryz.prog:=bw 142 [.d dA] [.d (.sl .tree)] Tryz.func142 pa (tb [cP] [3,4000003] [] [] [uk]) 57 [9,25,44] [] (.s .n (.s .n (.s .n (.s .y (.j ⟨[.h 3 43 (.sl .tree) 0 45 .tree],[1,3,4]⟩ false (.s .n (.c .n .n)) (.s (.s .n (.c (.s .y (.s .n .n)) .n)) (.s .n (.s .y (.s .y (.s .n .n)))))))))) (by kernel_rfl) (by kernel_rfl)
def lx:aW Tryz.prog:=bw 229 [.d (.sl (.int .u8))] [.d (.int .u64)] Tryz.func229 bq (tb []) 71 [] [] (.s .n (.s (.c (.s .n .n) .n) (.s .n .n))) (by kernel_rfl) (by kernel_rfl)
def fO:aW Tryz.prog:=bw 181 [.d (.sl (.int .u8))] [.d .bool] Tryz.func181 e_ (tb [lx]) 188 [] [] (.s .n (.s .n (.j ⟨[],[]⟩ true (.b (.l .g ⟨[.d 0 (.sl (.int .u8))],[]⟩ (.s (.s .n (.c .n .n)) (.b (.s .n (.s (.s .n (.c (.s .n (.s (.j ⟨[.d 31 .bool],[0]⟩ false .n (.c (.s .n (.j ⟨[.d 46 .bool],[0]⟩ false .n (.c (.s .n (.b (.l .g ⟨[.d 0 (.sl (.int .u8))],[]⟩ (.s (.j ⟨[.d 69 .bool],[0]⟩ false .n (.c .n .n)) (.b .n))))) .n))) .n)) .n)) .n)) (.s .n (.s .n (.s .n (.s .n (.b (.s .n (.c (.s (.j ⟨[.d 103 .bool],[0]⟩ false .n (.c (.s .n .n) .n)) .n) (.s .n (.c (.s (.j ⟨[.d 138 .bool],[0]⟩ false .n (.c (.s .n .n) .n)) .n) (.s .n (.c (.s (.j ⟨[.d 185 .bool],[0]⟩ false .n (.c (.s .n .n) .n)) .n) (.s .n .n)))))))))))))))))) (.s .n .n)))) (by kernel_rfl) (by kernel_rfl)
def wS:aW Tryz.prog:=bw 127 [.d .tree] [.d .bool,.d .bool] Tryz.func127 rV (tb [fO]) 99 [] [] (.s .n (.s (.s .n (.b (.j ⟨[.d 7 .bool],[1,6]⟩ false (.s .n (.c .n .n)) (.c (.j ⟨[.d 2 .bool,.d 3 .bool],[]⟩ false .n .n) (.s .n (.c (.j ⟨[.d 2 .bool,.d 3 .bool],[]⟩ false .n .n) (.s .n (.c (.j ⟨[.d 2 .bool,.d 3 .bool],[]⟩ false .n .n) (.s .n (.c (.j ⟨[.d 2 .bool,.d 3 .bool],[]⟩ false .n .n) (.s .n (.c (.s .n (.j ⟨[.d 2 .bool,.d 3 .bool],[]⟩ false .n .n)) .n)))))))))))) (.s .n .n))) (by kernel_rfl) (by kernel_rfl)
def lz:aW Tryz.prog:=⟨76,[.d (.int .u64)],[.d (.sl (.int .u8))],⟨Tryz.f76,Tryz.func76,by kernel_rfl,by kernel_rfl⟩,kW,fun a r h=>by cases(show(none:Option _)=some r from h)⟩
def lj:aW Tryz.prog:=bw 78 [.d .tree] [.d (.int .u8),.d (.int .u64)] Tryz.func78 kZ (tb []) 34 [] [] (.s .n (.s (.s .n (.b (.j ⟨[.d 6 .bool],[1,5]⟩ false (.s .n (.c .n .n)) (.c (.s .n .n) (.s .n (.c (.s .n .n) (.s .n (.c (.s .n .n) .n)))))))) (.s .n .n))) (by kernel_rfl) (by kernel_rfl)
def j4:aW Tryz.prog:=bw 77 [.d (.int .u8),.d (.int .u64)] [.d (.sl (.int .u8))] Tryz.func77 j_ (tb []) 69 [56,67] [] (.s .n (.s .n (.s (.b (.s .n (.c (.s .n .n) (.s .n (.c (.s .n .n) (.s .n (.c (.s .n .n) (.s .n (.c (.s .n .n) .n))))))))) (.s .n (.s (.s .n (.b (.l .g ⟨[.o 6 5 (.int .u8),.d 7 (.int .i64)],[1]⟩ (.s (.s .n (.c .n .n)) (.s (.b .n) .n))))) (.s .n .n)))))) (by kernel_rfl) (by kernel_rfl)
def nE:aW Tryz.prog:=bw 128 [.p 138 bI,.d .tree] [.d .bool] Tryz.func128 gM (tb [lz,lj,j4]) 61 [] [] (.s .n (.j ⟨[.b 0 138 bI],[0]⟩ false (.s .n (.b (.s .n (.c .n (.s .n (.c (.s .n (.s .n (.c .n .n))) .n)))))) (.s .n .n))) (by kernel_rfl) (by kernel_rfl)
def xy(mf:MF [.r 5 (.int .u8),.d .tree] [.o 5 (.int .u8)])(okf:OF 37 [.r 5 (.int .u8),.d .tree] [.o 5 (.int .u8)] mf):aW Tryz.prog:=Af 37 [.r 5 (.int .u8),.d .tree] [.o 5 (.int .u8)] Tryz.func37 mf (by kernel_rfl) okf
theorem xC(mf:MF [.r 5 (.int .u8),.d .tree] [.o 5 (.int .u8)])(okf:OF 37 [.r 5 (.int .u8),.d .tree] [.o 5 (.int .u8)] mf):OF 37 [.r 5 (.int .u8),.d .tree] [.o 5 (.int .u8)] (rQ mf):=Jr Tryz.func37 (tb [lz,lj,j4,xy mf okf]) 54 [15,30,37,41] [44] (.s .n (.s (.b (.s .n (.c (.s .n .n) (.j ⟨[.d 16 .bool],[0,3]⟩ false .n (.c (.s .n .n) .n))))) (.s .n (.s .n (.s (.s .n (.b (.l (.a 45 44) ⟨[.o 0 5 (.int .u8)],[43,44]⟩ (.s .n (.s (.c .n .n) (.s (.b (.s .n .n)) .n)))))) (.s .n .n)))))) (by kernel_rfl) (by kernel_rfl)
theorem qr : ∀(n:Nat),OF 37 [.r 5 (.int .u8),.d .tree] [.o 5 (.int .u8)] (nt n)
 |0=>fun a r h=>by cases(show(none:Option _)=some r from h)
 |n+1=>xC (nt n) (qr n)
def vg:aW Tryz.prog:=Af 37 [.r 5 (.int .u8),.d .tree] [.o 5 (.int .u8)] Tryz.func37 kY (by kernel_rfl) (qr 40)
def g_:aW Tryz.prog:=bw 37 [.r 5 (.int .u8),.d .tree] [.d (.sl (.int .u8))] Tryz.func37 bS (tb [lz,lj,j4,vg]) 54 [37,41] [44] (.s .n (.s (.b (.s .n (.c (.s .n .n) (.j ⟨[.d 16 .bool],[0,3]⟩ false .n (.c (.s .n .n) .n))))) (.s .n (.s .n (.s (.s .n (.b (.l (.a 45 44) ⟨[.o 0 5 (.int .u8)],[43,44]⟩ (.s .n (.s (.c .n .n) (.s (.b (.s .n .n)) .n)))))) (.s .n .n)))))) (by kernel_rfl) (by kernel_rfl)
theorem oA{P:Program}{lab:bf}{w:World}{oa:Option Addr}{c:Nat}{xs:List UInt8}(s:SL bF.u8 lab w oa c xs):
  (Extern.Bytes.bytesOf (.slice oa xs.length c)).run P w = .ok ⟨xs.toArray⟩ w:=by
 obtain⟨h0,css,h1,h2⟩:=SL.flat' s
 have hcss:css.flatten=xs.map fun x=>Value.int .u8 (x.toNat:Int):=by
  clear h2 s h0
  induction css generalizing xs with
  |nil=>cases xs with
   |nil=>rfl
   |cons _ _=>exact h1.elim
  |cons cs css ih=>cases xs with
   |nil=>exact h1.elim
   |cons x xs=>
    have e:cs = [Value.int .u8 (x.toNat:Int)]:=h1.1
    rw[List.flatten_cons,ih h1.2,e]
    rfl
 cases oa with
 |none=>
  obtain rfl:=h0 rfl
  rfl
 |some ad=>
  have h3 : ∀(j:Nat) (x:Int),(xs.map fun b:UInt8=>(b.toNat:Int))[j]?=some x→w.cell? (ad.add j)=some (.int .u8 x):=by
   intro j x hx
   refine h2 ad rfl j _ ?_
   rw[hcss]
   simp only[List.getElem?_map,Option.map_eq_some_iff]at hx⊢
   obtain⟨b,hb,rfl⟩:=hx
   exact⟨b,hb,rfl⟩
  have h4:=Lib.run_loadBytesX (P:=P) w _ ad .empty h3
  rw[List.length_map]at h4
  show(Extern.Bytes.loadBytes ad xs.length .empty).run P w=_
  rw[h4]
  congr 1
  apply ByteArray.ext
  have e:Lib.bytesOf (xs.map fun b:UInt8=>(b.toNat:Int))=xs:=by
   unfold Lib.bytesOf
   rw[List.map_map]
   refine(List.map_congr_left (g:=id) fun b _=>?_).trans (List.map_id _)
   simp
  rw[e]
  simp[ByteArray.empty,ByteArray.emptyWithCapacity]
  try rfl
theorem Bz{P:Program}{lab:bf}{w:World}{oa ob:Option Addr}{c d:Nat}{xs ys:List UInt8}(s:SL bF.u8 lab w oa c xs)(s':SL bF.u8 lab w ob d ys):
  (Extern.BytealgCompare.compare #[.slice oa xs.length c,.slice ob ys.length d]).run P w = .ok (.int .i64 (Lib.compareBytes xs ys)) w:=by
 change Sem.run P (do pure (goInt (Extern.BytealgCompare.cmp (←Extern.Bytes.bytesOf (.slice oa xs.length c)) (←Extern.Bytes.bytesOf (.slice ob ys.length d))))) w=_
 simp only[Sem.run_bind,oA s,oA s',Sem.run_pure,Result.andThen]
 rw[Lib.cmp_eq]
 rfl
theorem n8{lab:bf}{w:World}{oa ob:Option Addr}{c d:Nat}{xs ys:List UInt8}(s:SL bF.u8 lab w oa c xs)(s':SL bF.u8 lab w ob d ys):
  Calls Tryz.prog 82 [.slice oa xs.length c,.slice ob ys.length d].toArray w fun e w'=>e = .returned (.int .i64 (Lib.compareBytes xs ys))∧w'=w:=by
 refine enter Tryz.func82 rfl 8 rfl rfl ?_
 repeat refine CW.seq ?_
 refine CW.region ?_
 refine LW.assign wn rfl rfl ?_
 refine LW.nil ?_
 refine EW.seq_n ?_
 repeat refine CW.seq ?_
 refine CW.region ?_
 refine LW.move wn rfl rfl ?_
 refine LW.move wn rfl rfl ?_
 refine LW.val (v:=.int .i64 (Lib.compareBytes xs ys)) (w':=w) rfl wn rfl rfl (fun a ha=>?_) ?_
 ·have e1:=ha.eval (x:=.tmp 5) (v:=.slice oa xs.length c) rfl
  have e2:=ha.eval (x:=.tmp 6) (v:=.slice ob ys.length d) rfl
  have e:(#[Operand.tmp 5,Operand.tmp 6].map a.eval) = #[.slice oa xs.length c,.slice ob ys.length d]:=by simp[e1,e2]
  simp only[execOp,resolve,e,Act.eval,Deferred.ofValue,invoke,Sem.run_bind,Sem.run_pure,Result.andThen_ok]
  have e2:(#[] ++ #[.slice oa xs.length c,.slice ob ys.length d] ++ #[]:Array Value) = #[.slice oa xs.length c,.slice ob ys.length d]:=by simp
  rw[e2,run_callFunc_extern (fn:=Tryz.f141) (e:=Extern.BytealgCompare.compare) (by kernel_rfl) (by kernel_rfl) (by kernel_rfl) (by kernel_rfl) (by kernel_rfl),Bz s s']
  rfl
 refine LW.assign wn rfl rfl ?_
 refine LW.nil ?_
 refine EW.seq_n ?_
 refine CW.ret ?_
 repeat refine EW.seq_r ?_
 exact EW.ret1 rfl rfl ⟨rfl,rfl⟩
def gy:aW Tryz.prog:=⟨82,[.d (.sl (.int .u8)),.d (.sl (.int .u8))],[.d (.int .i64)],⟨Tryz.f82,Tryz.func82,by kernel_rfl,by kernel_rfl⟩,eN,by
 intro a r h k kp gp lab w vs t _ _ hk hargs
 match vs,hargs with
 | [v1,v2],hargs=>
  obtain⟨h1,h2,_⟩:=hargs
  obtain⟨oa,c,rfl,s⟩:=aV.sl h1
  obtain⟨ob,d,rfl,s'⟩:=aV.sl h2
  have h:some (Lib.compareBytes a.1 a.2.1)=some r:=h
  cases h
  refine(n8 s s').mono ?_
  rintro e w' ⟨rfl,rfl⟩
  exact⟨lab,[_],rfl,gu.refl t,aV.ofInt (k:=.i64) _,trivial⟩⟩
def qJ:aW Tryz.prog:=bw 129 [.d (.sl .tree)] [.d .bool] Tryz.func129 m_ (tb [g_,gy]) 23 [] [] (.s .n (.s (.s .n (.b (.l .g ⟨[.d 3 (.int .i64)],[0]⟩ (.s (.s .n (.c .n .n)) (.s (.b (.s .n (.c (.s .n .n) .n))) .n))))) (.s .n .n))) (by kernel_rfl) (by kernel_rfl)
end
end Go.Proofs.YtimjjookppejeaaGreatDoor
