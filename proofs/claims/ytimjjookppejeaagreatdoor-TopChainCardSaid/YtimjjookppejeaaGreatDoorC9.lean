/- A part of the proof of TopChain. No condition. -/
import Derived.Test.YtimjjookppejeaaGreatDoorC8
namespace Go.Proofs.YtimjjookppejeaaGreatDoor
open Go.Gk Go.RowKit
noncomputable section
set_option maxRecDepth 100000
def ee:aW Tryz.prog:=bw 61 [.d bp] [.d .bool] Tryz.func61 cz (tb [bK,sQ,oR,io,kz,cP]) 130 [] [28,43,56,106] (.s .n (.j ⟨[],[1]⟩ true (.s .n (.b (.l (.a 29 28) ⟨[],[1,27,28]⟩ (.s .n (.s (.c .n .n) (.j ⟨[],[1,27,28,29]⟩ true (.b (.s .n (.s (.j ⟨[.d 40 .bool],[1,4,27,28,29]⟩ false .n (.c (.s .n .n) .n)) (.s .n (.b (.l (.a 44 43) ⟨[],[1,27,28,29,42,43]⟩ (.s .n (.s (.c .n .n) (.s (.b (.s .n (.s .n (.c (.s .n .n) .n)))) .n))))))))) .n)))))) (.j ⟨[],[1]⟩ true (.s .n (.b (.l (.a 57 56) ⟨[],[1,55,56]⟩ (.s .n (.s (.c .n .n) (.s (.b (.s .n (.s .n (.s .n (.c (.s .n .n) .n))))) .n)))))) (.s .n (.s .n (.s (.s .n (.j ⟨[.d 94 .bool],[1]⟩ false .n (.c (.s .n .n) .n))) (.s .n (.s (.s .n (.c (.s .n .n) .n)) (.j ⟨[],[17]⟩ true (.s .n (.b (.l (.a 107 106) ⟨[],[1,17,105,106]⟩ (.s .n (.s (.c .n .n) (.s (.b (.s .n (.s .n (.s .n (.c (.s .n .n) .n))))) .n)))))) (.j ⟨[.d 2 .bool],[]⟩ false .n .n)))))))))) (by kernel_rfl) (by kernel_rfl)
def qj:aW Tryz.prog:=bw 121 [.d .tree] [.h .tree 3 45 .tree] Tryz.func121 eR (tb [sU] [2,3,2000003]) 12 [] [] (.s .n (.s .n (.s .n .n))) (by kernel_rfl) (by kernel_rfl)
def vE:aW Tryz.prog:=bw 66 [.d bp,.d .bool,.d (.int .i64),.d .tree] [.d bp,.d (.int .i64)] Tryz.func66 kV (tb [ee,bK,kz,qj,cP,i_] [12,1000035,7000038,5000058] [(3000039,3,43)]) 68 [] [] (.s .n (.s (.j ⟨[.d 23 .bool],[1,2,4,7,8]⟩ false .n (.c (.s .n .n) .n)) (.s (.s .n (.s .n (.c (.s .n .n) .n))) (.s .n (.s .n (.s (.s .n (.c .n .n)) (.s .n (.s .n (.s (.j ⟨[.d 65 .bool],[8,12]⟩ false .n (.c (.s .n .n) .n)) (.s .n .n)))))))))) (by kernel_rfl) (by kernel_rfl)
def nf:aW Tryz.prog:=bw 26 [] [.d bp] Tryz.func26 fI (tb [mU,cP,vE]) 10 [] [] (.s .n (.s .n (.s .n .n))) (by kernel_rfl) (by kernel_rfl)
def wR:aW Tryz.prog:=bw 118 [.d bp,.d (.int .i64)] [.d .tree,.d .bool] Tryz.func118 sc (tb [ee,kz]) 15 [] [] (.s .n (.s (.s .n (.c (.s .n .n) .n)) (.s .n .n))) (by kernel_rfl) (by kernel_rfl)
def pb:aW Tryz.prog:=bw 62 [.d bp] [.d (.int .i64)] Tryz.func62 k_ (tb [wR]) 24 [] [] (.s .n (.s .n (.s (.b (.s .n (.c (.s .n .n) (.s .n (.c (.s .n .n) .n))))) (.s .n .n)))) (by kernel_rfl) (by kernel_rfl)
def gN:aW Tryz.prog:=bw 68 [.d bp] [.d (.sl (.int .u8)),.d (.int .i64)] Tryz.func68 dw (tb [ee,dn]) 19 [] [] (.s .n (.s (.b (.s .n (.c (.s .n .n) (.s .n (.c (.s .n .n) .n))))) (.s .n .n))) (by kernel_rfl) (by kernel_rfl)
def oV:aW Tryz.prog:=bw 34 [.d (.sl .tree)] [.d .tree] Tryz.func34 nG (tb [iw] [3,19] [(6,3,43)]) 22 [18] [8] (.s .n (.s .n (.s (.s .n (.b (.l (.a 9 8) ⟨[.h 3 45 .tree 3 45 .tree],[2,3,7,8]⟩ (.s .n (.s (.c .n .n) (.s (.b (.s .n .n)) .n)))))) (.s .n .n)))) (by kernel_rfl) (by kernel_rfl)
def lK:aW Tryz.prog:=bw 63 [.d .str,.d bp,.d (.sl (.int .u8)),.d (.sl (.sl (.int .u8)))] [.d (.sl (.int .u8)),.d (.int .i64)] Tryz.func63 bJ (tb [gN,fY,qA,ji,oV,dn]) 57 [35,46] [37] (.s .n (.s .n (.s (.b (.s .n (.c (.s .n .n) (.s .n (.c (.s .n .n) .n))))) (.s .n (.s (.s .n (.b (.l (.a 38 37) ⟨[.o 12 45 .tree],[36,37]⟩ (.s .n (.s (.c .n .n) (.s (.b (.s .n .n)) .n)))))) (.s .n (.s (.s .n (.c (.s .n .n) .n)) (.s .n .n)))))))) (by kernel_rfl) (by kernel_rfl)
theorem Bp{α:Type}{Q:Nat→α→Prop}: ∀n,(∀i,i<n→∃v,Q i v)→∃vs:List α,vs.length=n∧∀i v,vs[i]?=some v→Q i v
 |0,_=>⟨[],rfl,fun i v h=>by simp at h⟩
 |n+1,h=>by
  obtain⟨vs,h1,h2⟩:=Bp n fun i hi=>h i (by omega)
  obtain⟨v,hv⟩:=h n (by omega)
  refine⟨vs ++ [v],by simp[h1],fun i u hu=>?_⟩
  rcases Nat.lt_trichotomy i n with hi |hi |hi
  ·rw[List.getElem?_append_left (by omega)]at hu;exact h2 i u hu
  ·subst hi
   rw[List.getElem?_append_right (by omega),h1,Nat.sub_self]at hu
   simp at hu;subst hu;exact hv
  ·rw[List.getElem?_eq_none (by simp;omega)]at hu;cases hu
theorem Cc{w:World}{a:Addr}{v:Value}(h:w.cell? a=some v):a=⟨a.block,a.off,none⟩:=by
 obtain⟨b,o,sp⟩:=a
 unfold World.cell? at h
 cases sp with
 |none=>rfl
 |some s=>split at h<;>simp at h
theorem Ba{lab:bf}{w:World}{oa:Option Addr}{c:Nat}{l:List UInt8}(s:SL (bF.kd .u8) lab w oa c l):Lib.HoldsBytes w (.slice oa l.length c) l:=by
 refine⟨oa,c,rfl,fun h=>?_,fun a ha i x hx=>?_⟩
 ·cases l with
  |nil=>rfl
  |cons x r=>obtain⟨ad,_,h2,_⟩:=s.2.2 0 x rfl;rw[h]at h2;cases h2
 ·obtain⟨ad,cs,h1,h2,h3⟩:=s.2.2 i x hx
  rw[ha]at h1;cases h1
  have h2:cs = [.int .u8 (bH .u8 x)]:=h2
  subst h2
  have h4:=(h3 0 _ rfl).2
  rw[bi,show(bF.kd .u8).sz=1 from rfl,Nat.mul_one]at h4
  exact h4
theorem Hv{lab:bf}{w:World}{a:Addr}{c:Nat}{xs:List (List UInt8)}(s:SL (rep (.sl (.int .u8))) lab w (some a) c xs): ∃vs,Lib.PartsAt w a vs xs:=by
 obtain⟨vs,h1,h2⟩:=Bp (Q:=fun i v=>w.cell? (a.add i)=some v∧∀l,xs[i]?=some l→Lib.HoldsBytes w v l) xs.length fun i hi=>by
  obtain⟨ad,cs,e1,e2,e3⟩:=s.2.2 i xs[i] (List.getElem?_eq_getElem hi)
  cases e1
  obtain⟨oa,c',rfl,s'⟩:=e2
  have h4:=(e3 0 _ rfl).2
  rw[bi,show(rep (.sl (.int .u8))).sz=1 from rfl,Nat.mul_one]at h4
  refine⟨_,h4,fun l hl=>?_⟩
  rw[List.getElem?_eq_getElem hi]at hl
  cases hl
  exact Ba s'
 exact⟨vs,h1,fun i v hv=>(h2 i v hv).1,fun i v l hv hl=>(h2 i v hv).2 l hl⟩
theorem Below.stp'{lab:bf}{w w':World}(t:cm lab w)(h:Below w.heap.size w w'):gu [] lab w lab w':=
 ⟨h.os,h.tape,h.output,h.size,fun b hb _=>h.block b hb,fun _ _ _=>rfl,fun b hb=>t b (Nat.le_trans h.size hb)⟩
theorem FV{lab:bf}{w w':World}{v:Value}{l:List UInt8}(t:cm lab w)(h:Lib.FreshBytes w.heap.size w' v l):aV (.sl (.int .u8)) l lab w' v:=by
 obtain⟨g,cap,zs,rfl,h1,h2,h3,h4,h5,h6,h7,_⟩:=h
 refine aV.ofSl (t:=.int .u8) ⟨h2,h3,fun i x hx=>⟨_,[.int .u8 (bH .u8 x)],rfl,rfl,fun j u hj=>?_⟩⟩
 cases j with
 |succ j=>simp at hj
 |zero=>
  simp at hj
  subst hj
  have hx:l[i]?=some x:=hx
  have hi:i<l.length:=(List.getElem?_eq_some_iff.1 hx).1
  rw[ej,bi,bR]
  refine⟨t g h1,?_⟩
  show w'.cell? ⟨g,0+i*1,none⟩=_
  rw[Nat.zero_add,Nat.mul_one,h7 i (by omega)]
  congr 2
  rw[←h6]at hx
  unfold Lib.bytesOf at hx
  rw[List.getElem?_map,List.getElem?_take,if_pos hi]at hx
  obtain⟨z,hz,rfl⟩:=Option.map_eq_some_iff.1 hx
  have:=h5 z (List.mem_of_getElem? hz)
  rw[List.getD,hz]
  show z=((UInt8.ofNat z.toNat).toNat:Int)
  rw[UInt8.toNat_ofNat_of_lt' (by show _<256;omega)]
  omega
theorem Ia{ls:List (List UInt8)}{sep r:List UInt8}(h:fV ls sep=some r): ∃x y q,ls=x::y::q∧Lib.lens ls+sep.length*(ls.length-1)≤140737488355328∧ls.length≤140737488355328∧r=Lib.join ls sep:=by
 match ls,h with
 | [],h=>cases h
 | [_],h=>cases h
 |x::y::q,h=>
  have h:(bif Nat.ble (Lib.lens (x::y::q)+sep.length*(q.length+1)) 140737488355328&&Nat.ble (q.length+2) 140737488355328 then some (Lib.join (x::y::q) sep)else none)=some r:=h
  cases hb:Nat.ble (Lib.lens (x::y::q)+sep.length*(q.length+1)) 140737488355328&&Nat.ble (q.length+2) 140737488355328 with
  |false=>rw[hb]at h;cases h
  |true=>
   rw[hb]at h
   cases h
   rw[Bool.and_eq_true]at hb
   exact⟨x,y,q,rfl,Nat.le_of_ble_eq_true hb.1,Nat.le_of_ble_eq_true hb.2,rfl⟩
def vO:aW Tryz.prog:=⟨176,[.d (.sl (.sl (.int .u8))),.d (.sl (.int .u8))],[.d (.sl (.int .u8))],⟨Tryz.f176,Tryz.func176,by kernel_rfl,by kernel_rfl⟩,fV,by
 intro a r h k kp gp lab w vs t _ _ hk hargs
 match vs,hargs with
 | [v1,v2],hargs=>
  obtain⟨h1,h2,_⟩:=hargs
  obtain⟨oa,c,rfl,s⟩:=aV.sl h1
  obtain⟨ob,d,rfl,s'⟩:=aV.sl h2
  obtain⟨ls,sep,u⟩:=a
  have h:fV ls sep=some r:=h
  obtain⟨x,y,q,rfl,hb1,hb2,rfl⟩:=Ia h
  obtain⟨ad,cs,rfl,_,h5⟩:=s.2.2 0 x rfl
  obtain⟨vs,hP⟩:=Hv (xs:=x::y::q) s
  obtain⟨v0,hv0⟩ : ∃v0,vs[0]?=some v0:=⟨_,List.getElem?_eq_getElem (by rw[hP.1];simp)⟩
  have hsp:=Cc (hP.2.1 0 v0 hv0)
  have hsp2:ad=⟨ad.block,ad.off,none⟩:=by
   rw[bi]at hsp;exact hsp
  rw[hsp2]at hP
  have key:=Tryz.bytes_Join_many ad.block ad.off (x::y::q).length c vs (x::y::q) (.slice ob (List.length (α:=UInt8) sep) d) sep w rfl (by simp) hP s.1 (Ba s') hb2 hb1
  rw[hsp2]
  refine key.mono ?_
  rintro e w' ⟨v',rfl,hf,hbl⟩
  exact⟨lab,[v'],rfl,Below.stp' t hbl,FV t hf,trivial⟩⟩
def pg:aW Tryz.prog:=bw 226 [] [.d (.ar 4 .u64)] Tryz.func226 jD (tb []) 2 [] [] (.s .n (.s .n .n)) (by kernel_rfl) (by kernel_rfl)
def qz:aW Tryz.prog:=bw 177 [.d (.sl (.int .u64))] [.d (.ar 4 .u64)] Tryz.func177 iQ (tb [pg,jy,mN,fG]) 45 [] [] (.s .n (.s .n (.s .n (.s (.s .n (.b (.l .g ⟨[.d 5 (.int .i64),.b 3 63 (.ar 4 .u64)],[0,2,3,4]⟩ (.s (.s .n (.c .n .n)) (.j ⟨[.b 3 63 (.ar 4 .u64)],[0,2,3,4,5]⟩ false (.b (.s .n (.s .n (.s .n (.c .n .n))))) .n))))) (.s .n .n))))) (by kernel_rfl) (by kernel_rfl)
def lA:aW Tryz.prog:=bw 119 [.d (.sl (.sl (.int .u8)))] [.d (.ar 4 .u64)] Tryz.func119 cU (tb [vO,o7,qz]) 32 [] [11] (.s .n (.s .n (.s .n (.s (.s .n (.b (.l (.a 12 11) ⟨[.b 4 160 (.ar 8 .u64)],[2,4,10,11]⟩ (.s .n (.s (.c .n .n) (.s (.b (.s .n .n)) .n)))))) (.s .n .n))))) (by kernel_rfl) (by kernel_rfl)
def uz:aW Tryz.prog:=bw 120 [.d (.ar 4 .u64),.d (.ar 4 .u64),.d (.ar 4 .u64)] [.d (.ar 4 .u64)] Tryz.func120 iu (tb [qo,qz]) 36 [] [] (.s .n (.s .n (.s .n (.s (.s .n (.b (.l .g ⟨[.d 8 (.int .u64),.d 14 (.int .i64),.b 7 160 (.ar 8 .u64)],[5,6,7]⟩ (.s .n (.s (.c .n .n) (.s (.b (.s .n (.s .n (.j ⟨[.d 10 (.int .u64)],[5,6,7,8,9,14]⟩ false (.s .n (.c .n .n)) .n)))) .n)))))) (.s .n .n))))) (by kernel_rfl) (by kernel_rfl)
def tc:aW Tryz.prog:=bw 64 [.d (.sl (.int .u8)),.d (.sl (.int .u8))] [.d (.sl (.int .u8)),.d (.int .i64)] Tryz.func64 fD (tb [jb,lq,gJ,lA,uz,je]) 44 [] [] (.s .n (.s (.s .n (.c (.s .n .n) .n)) (.s .n (.s .n (.s .n (.s .n (.s .n (.s .n (.s .n .n))))))))) (by kernel_rfl) (by kernel_rfl)
def vx:aW Tryz.prog:=bw 65 [.d bp] [.d bp] Tryz.func65 jl (tb [i_]) 24 [] [] (.s .n (.s .n (.s .n (.s .n .n)))) (by kernel_rfl) (by kernel_rfl)
def xh:aW Tryz.prog:=bw 25 [.d bp,.d (.sl (.int .u8)),.d (.sl (.int .u8)),.d (.sl (.int .u8))] [.d cK,.d (.int .i64)] Tryz.func25 mz (tb [ee,pb,lK,tc,vx,cO]) 53 [] [] (.s .n (.s (.b (.j ⟨[.d 14 .bool],[1,2,3,4,8]⟩ false .n (.c (.s .n .n) (.s .n (.c (.s .n .n) .n))))) (.s .n (.s (.s .n (.c (.s .n .n) .n)) (.s .n (.s .n .n)))))) (by kernel_rfl) (by kernel_rfl)
def pX:aW Tryz.prog:=bw 27 [.d (.int .i64),.d cK] [.d (.sl (.int .u8)),.d (.int .i64)] Tryz.func27 gw (tb [gN,ji,dn]) 66 [44,52] [] (.s .n (.s .n (.s (.j ⟨[.d 35 .bool],[0,3,6]⟩ false .n (.c (.s .n .n) .n)) (.s .n (.j ⟨[.o 8 45 .tree],[0]⟩ false (.s .n (.c .n .n)) (.s .n (.s (.s .n (.c (.s .n .n) .n)) (.s .n .n)))))))) (by kernel_rfl) (by kernel_rfl)
def tg:aW Tryz.prog:=bw 9 [.d aT,.d (.sl (.int .u8))] [.d (.sl (.int .u8)),.d (.int .i64)] Tryz.func9 jr (tb [jk,n_,nf,xh,pX]) 42 [] [] (.s .n (.s (.j ⟨[.d 22 .bool],[1,2]⟩ false .n (.c (.s .n .n) .n)) (.s .n (.s .n (.s (.s .n (.c (.s .n .n) .n)) (.s .n .n)))))) (by kernel_rfl) (by kernel_rfl)
def nP:aW Tryz.prog:=bw 228 [.p 200 bj,.d (.int .i64)] [.d (.int .u64),.d .bool] Tryz.func228 j9 (tb []) 56 [] [] (.s .n (.s (.s .n (.c (.s .n .n) .n)) (.s .n (.s (.s .n (.b (.l (.n 37 36) ⟨[.d 6 (.int .u64)],[0,1,35,36]⟩ (.s .n (.s (.c .n .n) (.s (.b (.s .n .n)) .n)))))) (.s .n (.s .n .n)))))) (by kernel_rfl) (by kernel_rfl)
def pd:aW Tryz.prog:=bw 180 [.p 200 bj] [.d (.int .u8),.d (.int .u64),.d (.int .i64)] Tryz.func180 lm (tb [nP,j4]) 68 [] [] (.s .n (.s (.s .n (.c (.s .n .n) .n)) (.s .n (.s .n (.s (.s .n (.c (.s .n .n) .n)) (.s .n (.s (.s .n (.c (.s .n .n) .n)) (.s .n (.s (.s .n (.c (.s .n .n) .n)) (.s (.j ⟨[.d 65 .bool],[0,2,3]⟩ false .n (.c (.s .n .n) .n)) (.s .n .n))))))))))) (by kernel_rfl) (by kernel_rfl)
end
end Go.Proofs.YtimjjookppejeaaGreatDoor
