/- A part of the proof of TopChain. No condition. -/
import Derived.Test.YtimjjookppejeaaGreatDoorZh
namespace Go.Proofs.YtimjjookppejeaaGreatDoor
open Go.Gk Go.RowKit
open Go.Ed (K kv iv dK t6 jH pO uB bP nB Ex jq)
set_option maxRecDepth 100000
theorem Gq{a b:List UInt8}(h:a.length+b.length≤60000):fV [a,b] []=some (a++b):=by
 have e:Lib.join [a,b] []=a++b:=by rw[Lib.join_cons];simp[Lib.joinTail]
 have e2:Lib.lens [a,b]=a.length+b.length:=by simp[Lib.lens]
 show(bif Nat.ble (Lib.lens [a,b]+0*(0+1)) 140737488355328&&Nat.ble (0+2) 140737488355328 then some (Lib.join [a,b] [])else none)=_
 rw[e,e2,Nat.ble_eq_true_of_le (by omega),Nat.ble_eq_true_of_le (by omega)];rfl
theorem GD{a b c:List UInt8}(h:a.length+b.length+c.length≤60000):fV [a,b,c] []=some (a++(b++c)):=by
 have e:Lib.join [a,b,c] []=a++(b++c):=by rw[Lib.join_cons];simp[Lib.joinTail]
 have e2:Lib.lens [a,b,c]=a.length+b.length+c.length:=by simp[Lib.lens];omega
 show(bif Nat.ble (Lib.lens [a,b,c]+0*(1+1)) 140737488355328&&Nat.ble (1+2) 140737488355328 then some (Lib.join [a,b,c] [])else none)=_
 rw[e,e2,Nat.ble_eq_true_of_le (by omega),Nat.ble_eq_true_of_le (by omega)];rfl
theorem KM{a b:List UInt8}(h:a.length+b.length≤60000): ∃r,cU [a,b]=some r∧r.length=4:=by
 obtain⟨s,s1,s2⟩:=td (b:=a++b) (by rw[List.length_append];omega)
 exact HR (Gq h) s1 s2
theorem LT{a b c:List UInt8}(h:a.length+b.length+c.length≤60000): ∃r,cU [a,b,c]=some r∧r.length=4:=by
 obtain⟨s,s1,s2⟩:=td (b:=a++(b++c)) (by rw[List.length_append,List.length_append];omega)
 exact HR (GD h) s1 s2
theorem Tq(x:UInt8):(aj (bits .and .u8 (UInt8.toNat x) (UInt8.toNat 248))).toNat%8=0:=by
 have : ∀n:Fin 256,(aj (bits .and .u8 ((UInt8.ofNat n.1).toNat:Int) (UInt8.toNat 248))).toNat%8=0:=by decide +kernel
 have h:=this ⟨x.toNat,x.toNat_lt⟩
 rw[UInt8.ofNat_toNat]at h
 exact h
theorem Ud(x:UInt8):64≤(aj (bits .or .u8 (UInt8.toNat (aj (bits .and .u8 (UInt8.toNat x) (UInt8.toNat 127)))) (UInt8.toNat 64))).toNat∧(aj (bits .or .u8 (UInt8.toNat (aj (bits .and .u8 (UInt8.toNat x) (UInt8.toNat 127)))) (UInt8.toNat 64))).toNat<128:=by
 have : ∀n:Fin 256,64≤(aj (bits .or .u8 (UInt8.toNat (aj (bits .and .u8 ((UInt8.ofNat n.1).toNat:Int) (UInt8.toNat 127)))) (UInt8.toNat 64))).toNat∧(aj (bits .or .u8 (UInt8.toNat (aj (bits .and .u8 ((UInt8.ofNat n.1).toNat:Int) (UInt8.toNat 127)))) (UInt8.toNat 64))).toNat<128:=by decide +kernel
 have h:=this ⟨x.toNat,x.toNat_lt⟩
 rw[UInt8.ofNat_toNat]at h
 exact h
theorem KW{x y:UInt8}{m:List UInt8}(hm:m.length=30)(hx:x.toNat%8=0)(hy:64≤y.toNat)(hy2:y.toNat<128):bn (x::(m ++ [y]))%8=0∧0<bn (x::(m ++ [y]))∧bn (x::(m ++ [y]))<57896044618658097711785492504343953926634992332820282019728792003956564819968:=by
 have hx2:=x.toNat_lt
 have h:=HS m
 show(x.toNat+256*bn (m ++ [y]))%8=0∧0<x.toNat+256*bn (m ++ [y])∧x.toNat+256*bn (m ++ [y])<_
 rw[uI,hm]
 rw[hm]at h
 have h256:(256:Nat)^30=1766847064778384329583297500742918515827483896875618958121606201292619776:=by decide +kernel
 rw[h256]at h⊢
 omega
theorem MV{b:List UInt8}(h:b.length=32): ∃x m y,b=x::(m ++ [y])∧m.length=30:=by
 obtain⟨x0,x1,x2,x3,x4,x5,x6,x7,x8,x9,x10,x11,x12,x13,x14,x15,x16,x17,x18,x19,x20,x21,x22,x23,x24,x25,x26,x27,x28,x29,x30,x31,rfl⟩:=tN h
 exact⟨x0,[x1,x2,x3,x4,x5,x6,x7,x8,x9,x10,x11,x12,x13,x14,x15,x16,x17,x18,x19,x20,x21,x22,x23,x24,x25,x26,x27,x28,x29,x30],x31,rfl,rfl⟩
theorem FC{seed:List UInt8}(h:seed.length≤60000): ∃s p,eh seed=some (s,p)∧s.length=4∧p.length=32∧vl s%8=0∧0<vl s∧vl s<57896044618658097711785492504343953926634992332820282019728792003956564819968:=by
 obtain⟨d,d1,d2⟩:=td h
 obtain⟨c,c1,c2⟩:=wM (xs:=d) (lo:=0) (hi:=32) (by omega) (by omega)
 obtain⟨e,e1,e2⟩:=wM (xs:=d) (lo:=32) (hi:=d.length) (by omega) (by omega)
 have c1:Gk.cut d 0 32=some c:=c1
 have e1:Gk.cut d 32 (d.length:Int)=some e:=e1
 obtain⟨x,m,y,rfl,hm⟩:=MV (b:=c) (by omega)
 obtain⟨f,f1,f2,f3⟩:=Ar (b:=aj (bits .and .u8 (UInt8.toNat x) (UInt8.toNat 248))::(m ++ [aj (bits .or .u8 (UInt8.toNat (aj (bits .and .u8 (UInt8.toNat y) (UInt8.toNat 127)))) (UInt8.toNat 64))])) (by simp[hm])
 have hb:=KW hm (Tq x) (Ud y).1 (Ud y).2
 rw[←f3]at hb
 refine⟨f,e,?_,f2,by omega,hb⟩
 have q0:b_ 32 0=some 0:=rfl
 have q1:b_ 32 31=some 31:=rfl
 have q2 : ∀(a b:UInt8),az (a::(m ++ [b])) (0+((0:Nat):Int))=some a:=fun a b=>rfl
 have q3 : ∀(a b:UInt8),az (a::(m ++ [b])) (0+((31:Nat):Int))=some b:=fun a b=>by
  rw[Int.zero_add]
  refine g8 ?_
  rw[show(31:Nat)=m.length+1 by omega,List.getElem?_cons_succ];simp
 have q4 : ∀(a b c:UInt8),(a::(m ++ [b])).set (0+0) c=c::(m ++ [b]):=fun a b c=>rfl
 have q5 : ∀(a b c:UInt8),(a::(m ++ [b])).set (0+31) c=a::(m ++ [c]):=fun a b c=>by
  rw[Nat.zero_add,show(31:Nat)=m.length+1 by omega,List.set_cons_succ];simp
 have q6 : ∀(a b:UInt8),mP 32 (a::(m ++ [b]))=some (a::(m ++ [b])):=fun a b=>by
  unfold mP
  have hl:(a::(m ++ [b])).length=32:=by simp[hm]
  rw[hl]
  show some ((a::(m ++ [b])).take 32)=_
  rw[List.take_of_length_le (by omega)]
 unfold eh
 rw[d1,ae,c1,ae,q6,ae,q0,ae,q2,ae,ao,ae,q2,ae,ao,q4,q1,ae,q3,ae,ao,ao,ae,q3,ae,ao,q5,f1,ae,e1,ae]
theorem ER{seed:List UInt8}(h:seed.length=32): ∃s p b,eh seed=some (s,p)∧fC seed=some (b,0)∧b.length=32∧s.length=4∧p.length=32∧bn b=enc (nB (vl s))∧vl s%8=0∧0<vl s∧vl s<57896044618658097711785492504343953926634992332820282019728792003956564819968:=by
 obtain⟨s,p,s1,s2,s3,s4⟩:=FC (seed:=seed) (by omega)
 obtain⟨g,g1,g2⟩:=AR
 obtain⟨b,b1,b2,b3⟩:=zT g2 s2
 refine⟨s,p,b,s1,?_,b2,s2,s3,b3,s4⟩
 have h0:((seed.length:Int) != 32)=false:=by rw[h];rfl
 unfold fC
 rw[ao,h0,eB,s1,ae,g1,ae,b1,ae]
theorem NW(h s r:Nat):jH (nB ((h*s+r)%Go.Ed.pL)) (nB (h*((Go.Ed.pL-1)*s)))=nB r:=by
 rw[Go.Ed.nB_mod,Go.Ed.nB_add]
 have e:h*s+r+h*((Go.Ed.pL-1)*s)=r+Go.Ed.pL*(h*s):=by
  have:h*((Go.Ed.pL-1)*s)+h*s=Go.Ed.pL*(h*s):=by
   rw[←Nat.mul_add,Nat.sub_mul,Nat.one_mul,Nat.sub_add_cancel (Nat.le_mul_of_pos_left s (by decide)),Nat.mul_left_comm]
  omega
 rw[e,←Go.Ed.nB_mod,Nat.add_mul_mod_self_left,Go.Ed.nB_mod]
theorem sV{b:List UInt8}(h:b.length=32):mP 32 b=some b:=by
 unfold mP
 rw[h]
 show some (b.take 32)=_
 rw[List.take_of_length_le (by omega)]
theorem Dh(b:List UInt8):ci b b=some true:=by
 show some (b==b)=_
 rw[beq_self_eq_true]
theorem LA{seed msg:List UInt8}(h:seed.length=32)(hm:msg.length≤50000): ∃b g,fC seed=some (b,0)∧b.length=32∧fD seed msg=some (g,0)∧g.length=64∧cV b msg g=some true:=by
 obtain⟨s,p,b,s1,b1,b2,s2,p2,b3,a8,a0,a1⟩:=ER h
 obtain⟨g,g1,g2⟩:=AR
 obtain⟨b',b1',b2',b3'⟩:=zT g2 s2
 obtain rfl:b=b':=B6 (by omega) (by omega)
 obtain⟨r,r1,r2⟩:=KM (a:=p) (b:=msg) (by omega)
 obtain⟨R,R1,R2,R3⟩:=zT g2 r2
 obtain⟨k,k1,k2⟩:=LT (a:=R) (b:=b) (c:=msg) (by omega)
 obtain⟨S,S1,S2,S3⟩:=F9 k2 s2 r2
 obtain⟨B,B1,B2,B3⟩:=wG S2
 have hap:JR R B=some (R++B):=by
  cases B with
  |nil=>cases B2
  |cons x l=>exact lh (by rw[R2,B2];omega)
 have h0:((seed.length:Int) != 32)=false:=by rw[h];rfl
 refine⟨b,R++B,b1,b2,?_,by rw[List.length_append];omega,?_⟩
 ·unfold fD
  rw[ao,h0,eB,g1,ae,s1,ae,b1',ae,r1,ae,R1,ae,k1,ae,S1,ae,B1,ae,hap,ae]
 ·obtain⟨A,A1,A2⟩:=tI g2 b2 b3 (Go.Ed.on_nB _)
  obtain⟨f,f1,f2,f3⟩:=Ar B2
  obtain⟨bb,c1,c2,c3⟩:=Eg
  obtain⟨P,P1,P2⟩:=tI g2 c2 c3 Go.Ed.on_B
  rw[←Go.Ed.nB_1]at P2
  obtain⟨T,T1,T2⟩:=wD g2 f2 P2
  obtain⟨n,n1,n2⟩:=Kk A2
  rw[OL]at n2
  obtain⟨U,U1,U2⟩:=wD g2 k2 n2
  obtain⟨V,V1,V2⟩:=py g2 T2 U2 (Go.Ed.on_nB _) (Go.Ed.on_nB _)
  have hvf:vl f=(vl k*vl s+vl r)%Go.Ed.pL:=by rw[f3,B3,S3]
  rw[Nat.mul_one,hvf,NW]at V2
  obtain⟨E,E1,E2,E3⟩:=yo V2
  obtain rfl:E=R:=B6 (by omega) (by omega)
  have hL:decide (vl f<Go.Ed.pL)=true:=decide_eq_true (by rw[hvf];exact Nat.mod_lt _ (by decide))
  have l1:((b.length:Int) != 32)=false:=by rw[b2];rfl
  have l2:(((E++B).length:Int) != 64)=false:=by rw[List.length_append,E2,B2];rfl
  have t1:Gk.cut (E++B) 32 ((E++B).length:Int)=some B:=by
   rw[show(32:Int)=((32:Nat):Int)from rfl,tF (by rw[List.length_append];omega) (Nat.le_refl _),List.take_length,←E2,List.drop_left]
  have t2:Gk.cut (E++B) 0 32=some E:=by
   rw[show(32:Int)=((32:Nat):Int)from rfl,show(0:Int)=((0:Nat):Int)from rfl,tF (by omega) (by rw[List.length_append];omega),←E2,List.take_left,List.drop_zero]
  have z1:(bnd (β:=Bool) (letm (((b.length:Int) != 32)) fun x3=>cond x3 (some true) (letm ((((E++B).length:Int) != 64)) fun x4=>some x4)))=fun K:Bool→Option Bool=>K false:=by
   rw[ao,l1,eB,ao,l2];rfl
  have z2:(letm ((!true)) fun x12=>cond x12 (some true) (bnd (cH g A) fun x13=>cond x13 (some true) (bnd (jD) fun x14=>
    bnd (eU f x14) fun x15=>letm ((!x15)) fun x16=>some x16)))=some false:=by
   rw[ao,Bool.not_true,eB,Jk g2 A2 a8 a0 a1,ae,eB,DC,ae,uV (g:=[6346243789798364141,1503914060200516822,0,1152921504606846976]) f2 rfl,ae,zo,hL,ao,Bool.not_true]
  unfold cV
  rw[z1]
  show cond false _ _=_
  rw[eB,g1,ae,sV b2,ae,A1,ae,t1,ae,sV B2,ae,f1,ae]
  refine an z2 ?_
  rw[eB,c1,ae,P1,ae,t2,ae,k1,ae,T1,ae,n1,ae,U1,ae,V1,ae,E1,ae,ae,Dh,ae]
end Go.Proofs.YtimjjookppejeaaGreatDoor
