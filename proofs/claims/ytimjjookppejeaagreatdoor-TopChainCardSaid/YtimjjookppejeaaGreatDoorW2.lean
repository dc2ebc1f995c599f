/- A part of the proof of TopChain. No condition. -/
import Derived.Test.YtimjjookppejeaaGreatDoorZi
import Derived.Test.YtimjjookppejeaaGreatDoorZp
import Derived.Test.YtimjjookppejeaaGreatDoorZx
import Derived.Test.YtimjjookppejeaaGreatDoorZw
import Derived.Test.YtimjjookppejeaaGreatDoorW1
namespace Go.Proofs.YtimjjookppejeaaGreatDoor
open Go.Gk Go.RowKit
set_option maxRecDepth 100000
theorem xW:fS=some true:=by kernel_rfl
theorem En{b:List UInt8}(h:b.length≤4294967296):aI b=some b:=lh (xs:=[]) (by rw[List.length_nil];omega)
theorem JV{x:List UInt8}(hx:x.length=32){f:Nat}(hf:f<20):fL f x=fR f x:=by
 obtain⟨x0,x1,x2,x3,x4,x5,x6,x7,x8,x9,x10,x11,x12,x13,x14,x15,x16,x17,x18,x19,x20,x21,x22,x23,x24,x25,x26,x27,x28,x29,x30,x31,rfl⟩:=tN hx
 match f,hf with
 |0,_=>exact TC x0 x1 x2 x3 x4 x5 x6 x7 x8 x9 x10 x11 x12 x13 x14 x15 x16 x17 x18 x19 x20 x21 x22 x23 x24 x25 x26 x27 x28 x29 x30 x31
 |1,_=>exact Sz x0 x1 x2 x3 x4 x5 x6 x7 x8 x9 x10 x11 x12 x13 x14 x15 x16 x17 x18 x19 x20 x21 x22 x23 x24 x25 x26 x27 x28 x29 x30 x31
 |2,_=>exact TQ x0 x1 x2 x3 x4 x5 x6 x7 x8 x9 x10 x11 x12 x13 x14 x15 x16 x17 x18 x19 x20 x21 x22 x23 x24 x25 x26 x27 x28 x29 x30 x31
 |3,_=>exact To x0 x1 x2 x3 x4 x5 x6 x7 x8 x9 x10 x11 x12 x13 x14 x15 x16 x17 x18 x19 x20 x21 x22 x23 x24 x25 x26 x27 x28 x29 x30 x31
 |4,_=>exact TB x0 x1 x2 x3 x4 x5 x6 x7 x8 x9 x10 x11 x12 x13 x14 x15 x16 x17 x18 x19 x20 x21 x22 x23 x24 x25 x26 x27 x28 x29 x30 x31
 |5,_=>exact S_ x0 x1 x2 x3 x4 x5 x6 x7 x8 x9 x10 x11 x12 x13 x14 x15 x16 x17 x18 x19 x20 x21 x22 x23 x24 x25 x26 x27 x28 x29 x30 x31
 |6,_=>exact SQ x0 x1 x2 x3 x4 x5 x6 x7 x8 x9 x10 x11 x12 x13 x14 x15 x16 x17 x18 x19 x20 x21 x22 x23 x24 x25 x26 x27 x28 x29 x30 x31
 |7,_=>exact SO x0 x1 x2 x3 x4 x5 x6 x7 x8 x9 x10 x11 x12 x13 x14 x15 x16 x17 x18 x19 x20 x21 x22 x23 x24 x25 x26 x27 x28 x29 x30 x31
 |8,_=>exact SF x0 x1 x2 x3 x4 x5 x6 x7 x8 x9 x10 x11 x12 x13 x14 x15 x16 x17 x18 x19 x20 x21 x22 x23 x24 x25 x26 x27 x28 x29 x30 x31
 |9,_=>exact TD x0 x1 x2 x3 x4 x5 x6 x7 x8 x9 x10 x11 x12 x13 x14 x15 x16 x17 x18 x19 x20 x21 x22 x23 x24 x25 x26 x27 x28 x29 x30 x31
 |10,_=>exact QU x0 x1 x2 x3 x4 x5 x6 x7 x8 x9 x10 x11 x12 x13 x14 x15 x16 x17 x18 x19 x20 x21 x22 x23 x24 x25 x26 x27 x28 x29 x30 x31
 |11,_=>exact QX x0 x1 x2 x3 x4 x5 x6 x7 x8 x9 x10 x11 x12 x13 x14 x15 x16 x17 x18 x19 x20 x21 x22 x23 x24 x25 x26 x27 x28 x29 x30 x31
 |12,_=>exact RL x0 x1 x2 x3 x4 x5 x6 x7 x8 x9 x10 x11 x12 x13 x14 x15 x16 x17 x18 x19 x20 x21 x22 x23 x24 x25 x26 x27 x28 x29 x30 x31
 |13,_=>exact Q4 x0 x1 x2 x3 x4 x5 x6 x7 x8 x9 x10 x11 x12 x13 x14 x15 x16 x17 x18 x19 x20 x21 x22 x23 x24 x25 x26 x27 x28 x29 x30 x31
 |14,_=>exact QR x0 x1 x2 x3 x4 x5 x6 x7 x8 x9 x10 x11 x12 x13 x14 x15 x16 x17 x18 x19 x20 x21 x22 x23 x24 x25 x26 x27 x28 x29 x30 x31
 |15,_=>exact R8 x0 x1 x2 x3 x4 x5 x6 x7 x8 x9 x10 x11 x12 x13 x14 x15 x16 x17 x18 x19 x20 x21 x22 x23 x24 x25 x26 x27 x28 x29 x30 x31
 |16,_=>exact Q9 x0 x1 x2 x3 x4 x5 x6 x7 x8 x9 x10 x11 x12 x13 x14 x15 x16 x17 x18 x19 x20 x21 x22 x23 x24 x25 x26 x27 x28 x29 x30 x31
 |17,_=>exact PX x0 x1 x2 x3 x4 x5 x6 x7 x8 x9 x10 x11 x12 x13 x14 x15 x16 x17 x18 x19 x20 x21 x22 x23 x24 x25 x26 x27 x28 x29 x30 x31
 |18,_=>exact Q6 x0 x1 x2 x3 x4 x5 x6 x7 x8 x9 x10 x11 x12 x13 x14 x15 x16 x17 x18 x19 x20 x21 x22 x23 x24 x25 x26 x27 x28 x29 x30 x31
 |19,_=>exact Ro x0 x1 x2 x3 x4 x5 x6 x7 x8 x9 x10 x11 x12 x13 x14 x15 x16 x17 x18 x19 x20 x21 x22 x23 x24 x25 x26 x27 x28 x29 x30 x31
 |f+20,h=>exact absurd h (by omega)
structure CI(C:aq)(b:List UInt8):Prop where
 v:cM C=some true
 e:cZ C=some (b,0)
 d:cJ b=some (C,0)
theorem GC{x:List UInt8}(hx:x.length=32){f u:Nat}(hf:f<20)(h1:20≤u)(h2:u<40):CI (mS f u x) (o6 f u x):=
 let h:=Hs hx (JV hx hf) h1 h2
 ⟨h.1,h.2.1,h.2.2⟩
theorem JO{x:List UInt8}(hx:x.length=32):CI (lO x) (rc x):=
 let h:=Ky hx
 ⟨h.1,h.2.1,h.2.2⟩
theorem I9{x:List UInt8}(hx:x.length=32)(f u:Nat):60≤(o6 f u x).length∧(o6 f u x).length≤63:=by
 unfold o6
 cases Nat.beq f 0<;>cases Nat.blt u 24<;>simp[hx]
theorem Ka(b:List UInt8):(Jl b).length=b.length+19:=by unfold Jl;simp
theorem Hx{b s:List UInt8}(hs:s.length=64):(jz b s).length=b.length+75:=by unfold jz;simp[hs]
structure EI(b s:List UInt8):Prop where
 i:bJ [83,105,103,110,97,116,117,114,101,49] uQ [] [b]=some (Jl b,0)
 e:gw 18 (uQ,(b,s))=some (jz b s,0)
 d:gz (jz b s)=some (18,((uQ,(b,s)),0))
theorem Ng{b s:List UInt8}(h1:60≤b.length)(h2:b.length≤63)(hs:s.length=64):EI b s:=by
 have h:=NA h1 h2 hs
 unfold oh ov at h
 simp only[Prod.mk.injEq]at h
 exact⟨h.1,h.2.1,h.2.2⟩
structure RI(c:List UInt8):Prop where
 r:kR 4 c=some (xl c,0)
 t:ic (xl c)=some (th c,0)
 e:cg (th c)=some (Fk c,0)
 i:iB (Fk c)=some (th c,0)
 v:aG (th c)=some true
 a:bS [] (th c)=some (Fk c)
 p:j5 (th c)=some (xl c)
 s:jc (xl c)=some true
theorem OW{c:List UInt8}(h1:135≤c.length)(h2:c.length≤138):RI c:=by
 have h:=NJ h1 h2
 unfold Dw D5 at h
 simp only[Prod.mk.injEq]at h
 exact⟨h.1,h.2.1,h.2.2.1,h.2.2.2.1,h.2.2.2.2.1,h.2.2.2.2.2.1,h.2.2.2.2.2.2.1,h.2.2.2.2.2.2.2⟩
theorem B'{c:List UInt8}(h:RI c):iA (th c)=some (xl c,0):=by
 unfold iA
 rw[h.v,ae,ao,Bool.not_true,eB,h.p,ae,h.t,ae,ao]
 refine an (y:=false) ?_ ?_
 ·refine uA rfl ?_
  rw[su h.v h.a,ae,ao];rfl
 ·rw[eB]
theorem NU{b s sd tb:List UInt8}(hs:sd.length=32)(hb:b.length≤1000)(hi:bJ [83,105,103,110,97,116,117,114,101,49] uQ [] [b]=some (tb,0))(hg:fD sd tb=some (s,0)):mz uQ [] b sd=some ((uQ,(b,s)),0):=by
 have h0:((sd.length:Int) != 32)=false:=by rw[hs];rfl
 unfold mz
 refine an (y:=false) ?_ ?_
 ·rw[yd,ae,ao,Bool.not_true,eB,ao,h0]
 ·rw[eB,EA,ae,ao]
  refine uA rfl ?_
  rw[hi,ae,ao]
  refine uA rfl ?_
  rw[hg,ae,Kz,ae,En (by omega),ae]
theorem FL{C:aq}{b s sd tb:List UInt8}(hn:(C.1 == [])=false)(hs:sd.length=32)(hb:b.length≤1000)(hc:CI C b)(he:EI b s)(hi:bJ [83,105,103,110,97,116,117,114,101,49] uQ [] [b]=some (tb,0))(hg:fD sd tb=some (s,0)):jr C sd=some (jz b s,0):=by
 have h0:((sd.length:Int) != 32)=false:=by rw[hs];rfl
 unfold jr
 refine an (y:=false) ?_ ?_
 ·rw[hc.v,ae,ao,Bool.not_true,eB,ao,hn,eB,ao,h0]
 ·rw[eB,hc.e,ae,Mm,ae,NU hs hb hi hg,ae,ao]
  refine uA rfl ?_
  rw[he.e,ae]
theorem GI{b s p tb:List UInt8}(hi:bJ [83,105,103,110,97,116,117,114,101,49] uQ [] [b]=some (tb,0))(hv:cV p tb s=some true):j0 (uQ,(b,s)) [] p=some 0:=by
 unfold j0
 rw[yd,ae,ao,Bool.not_true,eB,EA,ae,ao]
 refine uA rfl ?_
 rw[hi,ae,ao]
 refine uA rfl ?_
 rw[hv,ae,ao,Bool.not_true,eB]
theorem G8{C:aq}{b s:List UInt8}(hn:(C.1 == [])=false)(hc:CI C b)(he:EI b s):j7 (jz b s)=some (C,((uQ,(b,s)),0)):=by
 unfold j7
 rw[he.d,ae,ao]
 refine uA rfl ?_
 rw[Be,ae,Mm,ae,Be,ae,hc.d,ae]
 refine an (y:=false) ?_ ?_
 ·rw[ao]
  refine uA rfl ?_
  refine an (y:=true) rfl ?_
  rw[ao,Bool.not_true,eB,ao]
  refine uA rfl ?_
  rw[ao]
  refine uA rfl ?_
  rw[ao,hn]
 ·rw[eB]
theorem LF{C:aq}{b s p tb:List UInt8}(hn:(C.1 == [])=false)(hr:C.1 = [114,111,111,116])(hc:CI C b)(hR:CI (lO p) (rc p))(he:EI b s)(hi:bJ [83,105,103,110,97,116,117,114,101,49] uQ [] [b]=some (tb,0))(hv:cV p tb s=some true):jd (jz b s) (lO p)=some (C,0):=by
 unfold jd
 rw[hR.v,ae,ao,Bool.not_true,eB,G8 hn hc he,ae,ao]
 refine uA rfl ?_
 rw[ao]
 refine uA (by rw[hr];rfl) ?_
 rw[ao]
 refine uA rfl ?_
 refine an (GI hi hv) ?_
 rw[ao]
 rfl
theorem CS(p:List UInt8)(t:Int):df (lO p) t=some true:=by
 unfold df
 refine an (y:=true) ?_ rfl
 rw[ao]
 by_cases h:t<0
 ·rw[decide_eq_true h,pZ]
 ·rw[decide_eq_false h,eB,ao]
  refine Kg (decide_eq_true (by show(0:Int)≤t;omega)) ?_
  rfl
theorem BH{f u:Nat}{x:List UInt8}(t:Int)(hu:20≤u):df (mS f u x) t=some (decide (t<0∨((f:Int)≤t∧t≤(u:Int)))):=by
 unfold df
 refine an (y:=decide (t<0∨((f:Int)≤t∧t≤(u:Int)))) ?_ rfl
 rw[ao]
 by_cases h:t<0
 ·rw[decide_eq_true h,pZ,decide_eq_true (by omega)]
 ·rw[decide_eq_false h,eB,ao]
  by_cases h2:(f:Int)≤t
  ·refine Kg (decide_eq_true h2) ?_
   rw[ao]
   refine uA ?_ ?_
   ·rw[←Bool.not_eq_true,beq_iff_eq]
    show ¬((u:Nat):Int)=0
    omega
   ·rw[ao]
    show some (decide (t≤(u:Int)))=_
    congr 1
    rw[decide_eq_decide]
    omega
  ·refine uA (decide_eq_false h2) ?_
   rw[decide_eq_false (by omega)]
def zC:aq:=([],([],(0,(0,(0,(0,(0,([],([],([],[]))))))))))
theorem Ix{C:aq}{b s p tb:List UInt8}{t:Int}{h:Bool}(hn:(C.1 == [])=false)(hr:C.1 = [114,111,111,116])(hc:CI C b)(hR:CI (lO p) (rc p))(he:EI b s)(hi:bJ [83,105,103,110,97,116,117,114,101,49] uQ [] [b]=some (tb,0))(hv:cV p tb s=some true)(hh:df C t=some h):jZ [lO p] [jz b s] t=some (cond h (C,0) (zC,19)):=by
 have hk:=LF hn hr hc hR he hi hv
 obtain⟨n,hF⟩ : ∃n,bk=n+1+1:=⟨1180591620717411303422,rfl⟩
 unfold jZ
 rw[ao]
 refine an (y:=jz b s) rfl ?_
 rw[G8 hn hc he,ae,ao]
 refine uA rfl ?_
 refine an (y:=0) ?_ ?_
 ·rw[eP,nZ]
  refine an (y:=false) ?_ ?_
  ·rw[ao]
   refine Kg rfl ?_
   refine an (y:=lO p) rfl ?_
   rw[ao]
   refine congrArg some ?_
   show(([114,111,111,116]:List UInt8) != C.1)=false
   rw[hr];rfl
  ·rw[eB]
 rw[ao]
 refine uA rfl ?_
 refine an (y:=lO p) rfl ?_
 rw[CS,ae,ao,hF,nZ,ao]
 refine Kg rfl ?_
 refine an (y:=jz b s) rfl ?_
 show(bnd (jd (jz b s) (lO p)) _)=_
 refine an hk ?_
 rw[ao]
 refine uA rfl ?_
 show(bnd (df C t) _)=_
 refine an hh ?_
 rw[ao,nZ,ao]
 refine uA rfl ?_
 rw[ao]
 cases h<;>rfl
theorem PU:iY []=some ([],true):=rfl
theorem Rz{R:aq}{b:List UInt8}(h:cJ b=some (R,0)):iY [b]=some ([R],true):=by
 unfold iY
 rw[ao]
 refine uA rfl ?_
 rw[vn,h,ae,ao]
 refine uA rfl ?_
 rw[lh (by simp only[List.length_nil,List.length_cons];omega),ae,Fi]
 rfl
theorem EV{C:aq}{b s p tb:List UInt8}{t:Int}{h:Bool}(hl:(jz b s).length≤1000)(hn:(C.1 == [])=false)(hr:C.1 = [114,111,111,116])(hc:CI C b)(hR:CI (lO p) (rc p))(he:EI b s)(hri:RI (jz b s))(hi:bJ [83,105,103,110,97,116,117,114,101,49] uQ [] [b]=some (tb,0))(hv:cV p tb s=some true)(hh:df C t=some h):
  jg ([],[rc p]) (xl (jz b s)) t=some (cond h (C,(jz b s,0)) (zC,([],19))):=by
 unfold jg
 rw[PU,ae,Rz hR.d,ae]
 refine an (y:=false) ?_ ?_
 ·rw[ao,Bool.not_true,eB,ao,eB,hri.s,ae,ao,Bool.not_true]
 rw[eB,ao]
 refine Kg rfl ?_
 refine an (Ix hn hr hc hR he hi hv hh) ?_
 rw[ao]
 cases h with
 |false=>rfl
 |true=>
  refine uA rfl ?_
  refine an (y:=jz b s) rfl ?_
  rw[En (by omega),ae]
  rfl
theorem MI(k:aY):fo k k=some true:=by
 unfold fo
 simp only[ao,beq_self_eq_true,pZ,ae]
theorem N0(c:aq):fu c c=some true:=by
 unfold fu
 simp only[ao,beq_self_eq_true,pZ,ae,MI]
set_option maxRecDepth 100000
theorem xA(a0:List Int)(a1:Int)(a2:Int)(h0:a0.length≤maxLen):gn a0 a1 a2=some true:=by
 obtain⟨f',d1,e1,l1,l2,k1⟩:=yR (KO h0) (n:=20) (by omega) (by omega)
 obtain⟨v',d2,e2,n1,n2,_⟩:=yR k1 (n:=20) (by omega) (by omega)
 obtain⟨f,rfl⟩ : ∃f:Nat,f'=(f:Int):=⟨f'.toNat,by omega⟩
 obtain⟨v,rfl⟩ : ∃v:Nat,v'=(v:Int):=⟨v'.toNat,by omega⟩
 have hu:aP (20+((v:Int),d2).1)=((20+v:Nat):Int):=by
  show aP (20+(v:Int))=_
  rw[qP (by omega) (by omega)];omega
 obtain⟨sd,s1,s2⟩:=Dr a1
 obtain⟨x,x1,x2⟩:=Ha (aP (a1+5))
 obtain⟨y1,y2⟩:=I9 x2 f (20+v)
 obtain⟨p,g,p1,p2,g1,g2,hv⟩:=LA (seed:=sd) (msg:=Jl (o6 f (20+v) x)) s2 (by rw[Ka];omega)
 have he:=Ng y1 y2 g2
 have hc:=GC x2 (f:=f) (u:=20+v) (by omega) (by omega) (by omega)
 have hR:=JO p2
 have hl:=Hx (b:=o6 f (20+v) x) g2
 have hri:=OW (c:=jz (o6 f (20+v) x) g) (by omega) (by omega)
 obtain⟨m,m1,m2,m3⟩:=Bu a2 (m:=60) (by omega) (by omega)
 have hm:aP (m-1)=m-1:=qP (by omega) (by omega)
 have hres:=EV (C:=mS f (20+v) x) (by omega) rfl rfl hc hR he hri he.i hv (BH (m-1) (by omega))
 unfold gn
 refine an (y:=(a0,0)) rfl ?_
 refine an e1 ?_
 refine an e2 ?_
 rw[ao,hu]
 refine an s1 ?_
 refine an p1 ?_
 rw[ao]
 refine an x1 ?_
 refine an s1 ?_
 refine an (FL (C:=mS f (20+v) x) rfl s2 (by omega) hc he he.i g1) ?_
 refine an hri.r ?_
 refine an hri.t ?_
 refine an hri.e ?_
 refine an hri.i ?_
 refine an (B' hri) ?_
 refine an hR.e ?_
 refine an (y:=false) rfl ?_
 rw[eB]
 refine an m1 ?_
 rw[ao,hm]
 refine an hres ?_
 by_cases hh:m-1<0∨((f:Int)≤m-1∧m-1≤((20+v:Nat):Int))
 ·rw[decide_eq_true hh,pZ]
  refine an (y:=false) ?_ ?_
  ·rw[ao]
   by_cases h:0≤m-1
   ·rw[decide_eq_true h,pZ,ao]
    refine uA (decide_eq_false (by show ¬m-1<(f:Int);omega)) ?_
    rw[ao]
    exact congrArg some (decide_eq_false (by omega))
   ·rw[decide_eq_false h,eB]
  ·rw[eB]
   refine an (y:=true) ?_ rfl
   rw[ao]
   refine Kg rfl ?_
   refine an (N0 (mS f (20+v) x)) ?_
   rw[pZ,ao]
   refine Kg (beq_self_eq_true _) ?_
   rw[xW,ae]
 ·rw[decide_eq_false hh,eB]
  refine an (y:=true) ?_ ?_
  ·rw[ao,decide_eq_true (by omega),pZ,ao]
   by_cases h:m-1<(f:Int)
   ·exact Kg (decide_eq_true h) rfl
   ·refine uA (decide_eq_false h) ?_
    rw[ao]
    exact congrArg some (decide_eq_true (by omega))
  ·rw[pZ]
   refine an (y:=true) ?_ rfl
   rw[ao]
   refine Kg rfl ?_
   rw[xW,ae]
end Go.Proofs.YtimjjookppejeaaGreatDoor
