import Derived.Test.YthejfljhiaeoeaaGreatDoorZs
import Derived.Test.YthejfljhiaeoeaaGreatDoorZq
namespace Go.Proofs.YthejfljhiaeoeaaGreatDoor
open Go.Gk Go.RowKit
set_option maxRecDepth 100000
theorem ch:lX Tryz.prog 5:=⟨fun w=>by kernel_rfl,fun w=>by kernel_rfl⟩
theorem pL:tx Tryz.prog 163 5 16 1:=⟨by kernel_rfl,fun w=>by kernel_rfl⟩
theorem sO:mP Tryz.prog 163 16:=⟨fun w=>by kernel_rfl,fun w=>by kernel_rfl⟩
def nL(b k:List UInt8)(i:Nat):List UInt8:=(List.range i).foldl (fun s j=>s.set j (s.getD j 0 ^^^ k.getD j 0)) b
theorem nA(b k:List UInt8)(i:Nat):nL b k (i+1)=(nL b k i).set i ((nL b k i).getD i 0 ^^^ k.getD i 0):=by simp[nL,List.range_succ]
theorem i7(b k:List UInt8): ∀i,(nL b k i).length=b.length
 |0=>rfl
 |i+1=>by rw[nA,List.length_set,i7 b k i]
theorem D4{w:World}{G T':Nat}{b k:List UInt8}(hb:b.length=16)(hk:k.length=16)(bx:ed w G T' (bd b)):
  Calls Tryz.prog 166 [.pointer (some ⟨G,0,none⟩),.agg (bd k).toArray].toArray w fun e w'=>e = .returned (.tuple #[])∧Fr [G] w w'∧ed w' G T' (bd (nL b k 16)):=by
 refine enter Tryz.func166 rfl 20 rfl rfl ?_
 refine CW.seq ?_
 refine CW.region ?_
 refine LW.boxC (bd k) rfl rfl rfl fun w1 f1 ck hs=>?_
 have c1:=bx.fr f1 (by simp)
 have hne:w.heap.size≠G:=fun e=>by have:=bx.lt;omega
 refine LW.nil ?_
 refine EW.seq_n ?_
 refine CW.seq ?_
 refine CW.region ?_
 refine LW.move wn rfl rfl ?_
 refine LW.nil ?_
 refine EW.seq_n ?_
 refine CW.block ?_
 refine CW.loop (fun n0 F0 w0=>∃i,n0=16-i∧i≤16∧sub [(5,.int .i64 (i:Int)),(3,.pointer (some ⟨w.heap.size,0,none⟩)),(0,.pointer (some ⟨G,0,none⟩))] F0∧Fr [G] w1 w0∧ed w0 G T' (bd (nL b k i))∧ed w0 w.heap.size 163 (bd k)) 16 ⟨0,rfl,by omega,⟨rfl,rfl,rfl,trivial⟩,Fr.refl,c1,ck⟩ ?_
 rintro n0 F0 w0 ⟨i0,rfl,hi0,hs0,f2,c2,ck2⟩
 refine CW.sub hs0 ?_
 refine CW.seq ?_
 refine CW.region ?_
 refine LW.lss_lit (tv:=decide (i0<16)) (Rk i0 16) wn rfl rfl rfl ?_
 refine LW.nil ?_
 refine EW.seq_n ?_
 refine CW.seq ?_
 refine CW.cond (b:=decide (i0<16)) rfl (fun hc0=>?_) (fun hc0=>?_)
 ·have hlt0:i0<16:=of_decide_eq_true hc0
  have hl:(nL b k i0).length=16:=by rw[i7,hb]
  refine CW.skip ?_
  refine EW.seq_n ?_
  refine CW.seq ?_
  refine CW.block ?_
  refine CW.seq ?_
  refine CW.region ?_
  refine LW.move wn rfl rfl ?_
  refine LW.assign wn rfl rfl ?_
  refine LW.nil ?_
  refine EW.seq_n ?_
  refine CW.still 11 (by decide) (by kernel_rfl) ?_
  refine LS.st (aG.move rfl) rfl ?_
  refine LS.st (aG.move rfl) rfl ?_
  refine LS.st (aG.nilCheck rfl) rfl ?_
  refine LS.st (aG.idx0 pL hlt0 rfl rfl) rfl ?_
  refine LS.st (aG.loadC (c2.drawn _) ch (b_ (by rw[hl];omega)) rfl) rfl ?_
  refine LS.st (aG.move rfl) rfl ?_
  refine LS.st (aG.idx0 pL hlt0 rfl rfl) rfl ?_
  refine LS.st (aG.loadC (ck2.drawn _) ch (b_ (by rw[hk];omega)) rfl) rfl ?_
  refine LS.st (aG.bin (kZ _ _) rfl rfl rfl) rfl ?_
  refine LS.st (aG.nilCheck rfl) rfl ?_
  refine LS.st (aG.idx0 pL hlt0 rfl rfl) rfl ?_
  refine LS.nil ?_
  refine LW.store1 (c2.drawn _) ch (by rw[an,hl];omega) rfl rfl rfl rfl fun w3 f3 c3=>?_
  rw[iQ,←nA]at c3
  refine LW.nil ?_
  refine EW.block_n ?_
  refine EW.seq_n ?_
  refine CW.region ?_
  refine LW.add_lit (c:=((i0+1:Nat):Int)) (sD (by omega)) wn rfl rfl rfl ?_
  refine LW.move wn rfl rfl ?_
  refine LW.nil ?_
  exact EW.join_n ⟨16-(i0+1),by omega,i0+1,rfl,by omega,⟨rfl,rfl,rfl,trivial⟩,f2.tr f3.ofDraw,c3,(ck2.drawn _).fr f3 (by simpa using hne)⟩
 ·have hge0:i0=16:=by have:=of_decide_eq_false hc0;omega
  subst hge0
  refine CW.exit ?_
  refine EW.seq_x ?_
  refine EW.join_x ?_
  refine EW.block_x ?_
  exact EW.end_nil rfl ⟨rfl,(f1.weak).tr f2,c2⟩
set_option maxRecDepth 100000
def xT(a:UInt8):UInt8:=if a &&& 128=0 then Gy a 1 else Gy a 1 ^^^ 27
theorem BH(a b:UInt8):(((a.toNat:Int) != (b.toNat:Int)):Bool)=decide (a≠b):=by
 rw[Bool.eq_iff_iff,bne_iff_ne,decide_eq_true_eq]
 exact not_congr ⟨fun h=>UInt8.toNat_inj.1 (by omega),fun h=>by rw[h]⟩
theorem I2(a b:UInt8):(((a.toNat:Int)==(b.toNat:Int)):Bool)=decide (a=b):=by
 rw[Bool.eq_iff_iff,beq_iff_eq,decide_eq_true_eq]
 exact⟨fun h=>UInt8.toNat_inj.1 (by omega),fun h=>by rw[h]⟩
theorem AH(a:UInt8)(w:World):Calls Tryz.prog 139 [.int .u8 (a.toNat:Int)].toArray w fun e w'=>e = .returned (.int .u8 ((xT a).toNat:Int))∧w'=w:=by
 refine enter Tryz.func139 rfl 11 rfl rfl ?_
 refine CW.seq ?_
 refine CW.region ?_
 refine LW.assign wn rfl rfl ?_
 refine LW.nil ?_
 refine EW.seq_n ?_
 refine CW.seq ?_
 refine CW.seq ?_
 refine CW.region ?_
 refine LW.move wn rfl rfl ?_
 refine LW.st (aG.bin (J8 a 128) rfl rfl rfl) rfl ?_
 refine LW.st (aG.bin (Jb (BH (a &&& 128) 0)) rfl rfl rfl) rfl ?_
 refine LW.nil ?_
 refine EW.seq_n ?_
 refine CW.cond (b:=decide (a &&& 128≠0)) rfl (fun hc0=>?_) (fun hc0=>?_)
 ·have h0:=of_decide_eq_true hc0
  refine CW.seq ?_
  refine CW.region ?_
  refine LW.move wn rfl rfl ?_
  refine LW.st (aG.bin (zZ a (n:=1) (by decide)) rfl rfl rfl) rfl ?_
  refine LW.st (aG.bin (kZ (Gy a 1) 27) rfl rfl rfl) rfl ?_
  refine LW.assign wn rfl rfl ?_
  refine LW.nil ?_
  refine EW.seq_n ?_
  refine CW.ret ?_
  refine EW.seq_r ?_
  exact EW.ret1 rfl rfl ⟨(by rw[xT,if_neg h0];first |done |rfl),rfl⟩
 ·have h0:=of_decide_eq_false hc0
  refine CW.skip ?_
  refine EW.seq_n ?_
  refine CW.seq ?_
  refine CW.region ?_
  refine LW.move wn rfl rfl ?_
  refine LW.st (aG.bin (zZ a (n:=1) (by decide)) rfl rfl rfl) rfl ?_
  refine LW.assign wn rfl rfl ?_
  refine LW.nil ?_
  refine EW.seq_n ?_
  refine CW.ret ?_
  exact EW.ret1 rfl rfl ⟨by rw[xT,if_pos (Classical.not_not.1 h0)];rfl,rfl⟩
def zO:Nat→UInt8→UInt8→UInt8→UInt8
 |0,_,_,p=>p
 |n+1,a,b,p=>if b=0 then p else zO n (xT a) (Du b 1) (if b &&& 1=1 then p ^^^ a else p)
theorem H1{b:UInt8}{m:Nat}(h:b.toNat<2^(m+1)):(Du b 1).toNat<2^m:=by
 have:(Du b 1).toNat=b.toNat/2:=by
  have h:b.toNat/2<256:=by have:=b.toNat_lt;omega
  show(UInt8.ofNat (b.toNat/2^min 1 8)).toNat=_
  exact UInt8.toNat_ofNat_of_lt' h
 rw[this]
 rw[Nat.pow_succ]at h
 omega
theorem OV(a0 b0:UInt8)(w:World):Calls Tryz.prog 211 [.int .u8 (a0.toNat:Int),.int .u8 (b0.toNat:Int)].toArray w fun e w'=>e = .returned (.int .u8 ((zO 9 a0 b0 0).toNat:Int))∧w'=w:=by
 refine enter Tryz.func211 rfl 19 rfl rfl ?_
 refine CW.seq ?_
 refine CW.region ?_
 refine LW.assign wn rfl rfl ?_
 refine LW.nil ?_
 refine EW.seq_n ?_
 refine CW.seq ?_
 refine CW.region ?_
 refine LW.assign wn rfl rfl ?_
 refine LW.nil ?_
 refine EW.seq_n ?_
 refine CW.seq ?_
 refine CW.block ?_
 refine CW.loop (fun n F' w'=>∃a b p,b.toNat<2^n∧zO (n+1) a b p=zO 9 a0 b0 0∧sub [(5,.int .u8 (p.toNat:Int)),(0,.int .u8 (a.toNat:Int)),(1,.int .u8 (b.toNat:Int))] F'∧w'=w) 8 ⟨a0,b0,0,b0.toNat_lt,rfl,⟨rfl,rfl,rfl,trivial⟩,rfl⟩ ?_
 rintro n F' w' ⟨a,b,p,hb,hp,hs,rfl⟩
 refine CW.sub hs ?_
 refine CW.seq ?_
 refine CW.seq ?_
 refine CW.region ?_
 refine LW.move wn rfl rfl ?_
 refine LW.st (aG.bin (Jb (BH b 0)) rfl rfl rfl) rfl ?_
 refine LW.nil ?_
 refine EW.seq_n ?_
 refine CW.cond (b:=decide (b≠0)) rfl (fun hc0=>?_) (fun hc0=>?_)
 ·have h0:=of_decide_eq_true hc0
  refine CW.skip ?_
  refine EW.seq_n ?_
  refine CW.seq ?_
  refine CW.block ?_
  refine CW.seq ?_
  refine CW.seq ?_
  refine CW.region ?_
  refine LW.move wn rfl rfl ?_
  refine LW.st (aG.bin (J8 b 1) rfl rfl rfl) rfl ?_
  refine LW.st (aG.bin (OG (I2 (b &&& 1) 1)) rfl rfl rfl) rfl ?_
  refine LW.nil ?_
  refine EW.seq_n ?_
  refine CW.cond (b:=decide (b &&& 1=1)) rfl (fun hc1=>?_) (fun hc1=>?_)
  ·have h1:=of_decide_eq_true hc1
   refine CW.region ?_
   refine LW.move wn rfl rfl ?_
   refine LW.move wn rfl rfl ?_
   refine LW.st (aG.bin (kZ p a) rfl rfl rfl) rfl ?_
   refine LW.assign wn rfl rfl ?_
   refine LW.nil ?_
   refine EW.seq_n ?_
   refine CW.region ?_
   refine LW.move wn rfl rfl ?_
   refine LW.call ⟨Tryz.f139,Tryz.func139,by kernel_rfl,by kernel_rfl⟩ (AH a _) wn rfl rfl ?_
   rintro e w' ⟨rfl,rfl⟩
   refine⟨_,rfl,?_⟩
   refine LW.assign wn rfl rfl ?_
   refine LW.nil ?_
   refine EW.block_n ?_
   refine EW.seq_n ?_
   refine CW.region ?_
   refine LW.move wn rfl rfl ?_
   refine LW.st (aG.bin (AJ b (n:=1) (by decide)) rfl rfl rfl) rfl ?_
   refine LW.assign wn rfl rfl ?_
   refine LW.nil ?_
   have hn:n≠0:=fun e=>by
    subst e
    exact h0 (UInt8.toNat_inj.1 (by simpa using hb))
   obtain⟨m,rfl⟩ : ∃m,n=m+1:=⟨n-1,by omega⟩
   rw[zO,if_neg h0,if_pos h1]at hp
   exact EW.join_n ⟨m,by omega,_,_,_,H1 hb,hp,⟨rfl,rfl,rfl,trivial⟩,rfl⟩
  ·have h1:=of_decide_eq_false hc1
   refine CW.skip ?_
   refine EW.seq_n ?_
   refine CW.region ?_
   refine LW.move wn rfl rfl ?_
   refine LW.call ⟨Tryz.f139,Tryz.func139,by kernel_rfl,by kernel_rfl⟩ (AH a _) wn rfl rfl ?_
   rintro e w' ⟨rfl,rfl⟩
   refine⟨_,rfl,?_⟩
   refine LW.assign wn rfl rfl ?_
   refine LW.nil ?_
   refine EW.block_n ?_
   refine EW.seq_n ?_
   refine CW.region ?_
   refine LW.move wn rfl rfl ?_
   refine LW.st (aG.bin (AJ b (n:=1) (by decide)) rfl rfl rfl) rfl ?_
   refine LW.assign wn rfl rfl ?_
   refine LW.nil ?_
   have hn:n≠0:=fun e=>by
    subst e
    exact h0 (UInt8.toNat_inj.1 (by simpa using hb))
   obtain⟨m,rfl⟩ : ∃m,n=m+1:=⟨n-1,by omega⟩
   rw[zO,if_neg h0,if_neg h1]at hp
   exact EW.join_n ⟨m,by omega,_,_,_,H1 hb,hp,⟨rfl,rfl,rfl,trivial⟩,rfl⟩
 ·have h0:=Classical.not_not.1 (of_decide_eq_false hc0)
  subst h0
  refine CW.exit ?_
  refine EW.seq_x ?_
  refine EW.join_x ?_
  refine EW.block_x ?_
  refine EW.seq_n ?_
  refine CW.seq ?_
  refine CW.region ?_
  refine LW.move wn rfl rfl ?_
  refine LW.assign wn rfl rfl ?_
  refine LW.nil ?_
  refine EW.seq_n ?_
  refine CW.ret ?_
  exact EW.ret1 rfl rfl ⟨by rw[←hp];rw[zO,if_pos rfl],rfl⟩
set_option maxRecDepth 100000
theorem nc:tx Tryz.prog 156 5 256 1:=⟨by kernel_rfl,fun w=>by kernel_rfl⟩
theorem M8:tx Tryz.prog 205 5 4 1:=⟨by kernel_rfl,fun w=>by kernel_rfl⟩
theorem DP:gO Tryz.prog 163 (.agg (bd (List.replicate 16 0)).toArray):=fun w=>by kernel_rfl
def Ps(by_ j:Nat):Nat:=j%4+4*((j/4+by_*(j%4))%4)
def Gc(box np:List UInt8)(by_:Nat)(b:List UInt8)(i:Nat):List UInt8:=(List.range i).foldl (fun s j=>s.set j (box.getD (np.getD (Ps by_ j) 0).toNat 0)) b
theorem Bd(box np:List UInt8)(q:Nat)(b:List UInt8)(i:Nat):Gc box np q b (i+1)=(Gc box np q b i).set i (box.getD (np.getD (Ps q i) 0).toNat 0):=by simp[Gc,List.range_succ]
theorem vf(box np:List UInt8)(q:Nat)(b:List UInt8): ∀i,(Gc box np q b i).length=b.length
 |0=>rfl
 |i+1=>by rw[Bd,List.length_set,vf box np q b i]
theorem eT{bs:List UInt8}(h:bs.length=16):((bd bs).drop 0).take 16=bd bs:=by rw[List.drop_zero,List.take_of_length_le (by rw[an];omega)]
theorem eO{a b:List Value}{n:Nat}(ha:a.length=n):a.take 0++b++a.drop (0+n)=b:=by simp[←ha]
theorem Ja{w:World}{G T' C TC:Nat}{b cb:List UInt8}(hb:b.length=16)(hc:256≤cb.length)(bx:ed w G T' (bd b))(cx:ed w C TC (bd cb))(hGC:C≠G):
  Calls Tryz.prog 167 [.pointer (some ⟨G,0,none⟩),.pointer (some ⟨C,0,none⟩),.int .i64 ((1:Nat):Int)].toArray w fun e w'=>e = .returned (.tuple #[])∧Fr [G] w w'∧ed w' G T' (bd (Gc cb b 1 b 16)):=by
 refine enter Tryz.func167 rfl 40 rfl rfl ?_
 refine CW.seq ?_
 refine CW.region ?_
 refine LW.move wn rfl rfl ?_
 refine LW.st (aG.nilCheck rfl) rfl ?_
 refine LW.st (aG.loadCn bx sO (by rw[an,hb]) (eT hb) rfl) rfl ?_
 refine LW.allocC (bd (List.replicate 16 0)) DP rfl rfl fun w1 f1 co hs1=>?_
 have hne:w.heap.size≠G:=fun e=>by have:=bx.lt;omega
 have hneC:C≠w.heap.size:=fun e=>by have:=cx.lt;omega
 refine LW.storeN (n:=16) co sO (by rw[an,hb]) (by rw[an];decide) (dB _) rfl rfl fun w2 f2 co2=>?_
 rw[eO (by rw[an];decide)]at co2
 have bx2:=(bx.fr f1 (by simp)).fr f2 (by simpa using hne.symm)
 have cx2:=(cx.fr f1 (by simp)).fr f2 (by simpa using hneC)
 refine LW.nil ?_
 refine EW.seq_n ?_
 refine CW.seq ?_
 refine CW.region ?_
 refine LW.move wn rfl rfl ?_
 refine LW.nil ?_
 refine EW.seq_n ?_
 refine CW.block ?_
 refine CW.loop (fun n F' w'=>∃i,n=16-i∧i≤16∧sub [(13,.int .i64 (i:Int)),(6,.pointer (some ⟨w.heap.size,0,none⟩)),(0,.pointer (some ⟨G,0,none⟩)),(1,.pointer (some ⟨C,0,none⟩)),(2,.int .i64 ((1:Nat):Int))] F'∧Fr [G] w2 w'∧ed w' G T' (bd (Gc cb b 1 b i))∧ed w' w.heap.size 163 (bd b)∧ed w' C TC (bd cb)) 16 ⟨0,rfl,by omega,⟨rfl,rfl,rfl,rfl,rfl,trivial⟩,Fr.refl,bx2,co2,cx2⟩ ?_
 rintro n0 F0 w3 ⟨i,rfl,hi0,hs0,f3,bx3,co3,cx3⟩
 refine CW.sub hs0 ?_
 refine CW.seq ?_
 refine CW.region ?_
 refine LW.st (aG.bin (gQ (a:=i) (b:=16)) rfl rfl rfl) rfl ?_
 refine LW.nil ?_
 refine EW.seq_n ?_
 refine CW.seq ?_
 refine CW.cond (b:=decide (i<16)) rfl (fun hc0=>?_) (fun hc0=>?_)
 ·have hlt0:i<16:=of_decide_eq_true hc0
  have hl:(Gc cb b 1 b i).length=16:=by rw[vf,hb]
  refine CW.skip ?_
  refine EW.seq_n ?_
  refine CW.seq ?_
  refine CW.block ?_
  refine CW.seq ?_
  refine CW.region ?_
  refine LW.move wn rfl rfl ?_
  refine LW.assign wn rfl rfl ?_
  refine LW.nil ?_
  refine EW.seq_n ?_
  refine CW.seq ?_
  refine CW.region ?_
  refine LW.move wn rfl rfl ?_
  refine LW.st (aG.bin (og (a:=i) (b:=4) (by decide)) rfl rfl rfl) rfl ?_
  refine LW.move wn rfl rfl ?_
  refine LW.st (aG.bin (vp (a:=i) (b:=4) (by decide) (by omega)) rfl rfl rfl) rfl ?_
  refine LW.assign wn rfl rfl ?_
  refine LW.assign wn rfl rfl ?_
  refine LW.nil ?_
  refine EW.seq_n ?_
  refine CW.still 19 (by decide) (by kernel_rfl) ?_
  refine LS.st (aG.move rfl) rfl ?_
  refine LS.st (aG.move rfl) rfl ?_
  refine LS.st (aG.move rfl) rfl ?_
  refine LS.st (aG.move rfl) rfl ?_
  refine LS.st (aG.move rfl) rfl ?_
  refine LS.st (aG.move rfl) rfl ?_
  refine LS.st (aG.move rfl) rfl ?_
  refine LS.st (aG.bin (vd (a:=1) (b:=i%4) (by omega)) rfl rfl rfl) rfl ?_
  refine LS.st (aG.bin (lB (a:=i/4) (b:=1*(i%4)) (by omega)) rfl rfl rfl) rfl ?_
  refine LS.st (aG.bin (og (a:=i/4+1*(i%4)) (b:=4) (by decide)) rfl rfl rfl) rfl ?_
  refine LS.st (aG.bin (vd (a:=4) (b:=(i/4+1*(i%4))%4) (by omega)) rfl rfl rfl) rfl ?_
  refine LS.st (aG.bin (lB (a:=i%4) (b:=4*((i/4+1*(i%4))%4)) (by omega)) rfl rfl rfl) rfl ?_
  refine LS.st (aG.idx0 (i:=Ps 1 i) pL (by unfold Ps;omega) rfl rfl) rfl ?_
  refine LS.st (aG.loadC (co3.drawn _) ch (b_ (by rw[hb];unfold Ps;omega)) rfl) rfl ?_
  refine LS.st (aG.nilCheck rfl) rfl ?_
  refine LS.st (aG.idx0 (i:=(b.getD (Ps 1 i) 0).toNat) nc (UInt8.toNat_lt _) rfl rfl) rfl ?_
  refine LS.st (aG.loadC (cx3.drawn _) ch (b_ (Nat.lt_of_lt_of_le (UInt8.toNat_lt _) hc)) rfl) rfl ?_
  refine LS.st (aG.nilCheck rfl) rfl ?_
  refine LS.st (aG.idx0 (i:=i) pL hlt0 rfl rfl) rfl ?_
  refine LS.nil ?_
  refine LW.store1 (bx3.drawn _) ch (by rw[an,hl];omega) rfl rfl rfl rfl fun w4 f4 bx4=>?_
  rw[iQ,←Bd]at bx4
  refine LW.nil ?_
  refine EW.block_n ?_
  refine EW.seq_n ?_
  refine CW.region ?_
  refine LW.add_lit (c:=((i+1:Nat):Int)) (sD (by omega)) wn rfl rfl rfl ?_
  refine LW.move wn rfl rfl ?_
  refine LW.nil ?_
  exact EW.join_n ⟨16-(i+1),by omega,i+1,rfl,by omega,⟨rfl,rfl,rfl,rfl,rfl,trivial⟩,f3.tr f4.ofDraw,bx4,(co3.drawn _).fr f4 (by simpa using hne),(cx3.drawn _).fr f4 (by simpa using hGC)⟩
 ·have hge0:i=16:=by have:=of_decide_eq_false hc0;omega
  subst hge0
  refine CW.exit ?_
  refine EW.seq_x ?_
  refine EW.join_x ?_
  refine EW.block_x ?_
  exact EW.end_nil rfl ⟨rfl,(f1.weak.trans f2 (by simp)).tr f3,bx3⟩
def PD(i k:Nat):Nat:=4*(i/4)+(i%4+k)%4
def KE(np m s:List UInt8)(i k:Nat):List UInt8:=(List.range k).foldl (fun s k=>s.set i (s.getD i 0 ^^^ zO 9 (np.getD (PD i k) 0) (m.getD k 0) 0)) (s.set i 0)
theorem BC(np m s:List UInt8)(i k:Nat):KE np m s i (k+1)=(KE np m s i k).set i ((KE np m s i k).getD i 0 ^^^ zO 9 (np.getD (PD i k) 0) (m.getD k 0) 0):=by simp[KE,List.range_succ]
theorem AG(np m s:List UInt8)(i:Nat): ∀k,(KE np m s i k).length=s.length
 |0=>by simp[KE]
 |k+1=>by rw[BC,List.length_set,AG np m s i k]
def Kp(np m b:List UInt8)(i:Nat):List UInt8:=(List.range i).foldl (fun s i=>KE np m s i 4) b
theorem Cb(np m b:List UInt8)(i:Nat):Kp np m b (i+1)=KE np m (Kp np m b i) i 4:=by simp[Kp,List.range_succ]
theorem sP(np m b:List UInt8): ∀i,(Kp np m b i).length=b.length
 |0=>rfl
 |i+1=>by rw[Cb,AG,sP np m b i]
theorem NN{w:World}{G T':Nat}{b m:List UInt8}(hb:b.length=16)(hm:m.length=4)(bx:ed w G T' (bd b)):
  Calls Tryz.prog 168 [.pointer (some ⟨G,0,none⟩),.agg (bd m).toArray].toArray w fun e w'=>e = .returned (.tuple #[])∧Fr [G] w w'∧ed w' G T' (bd (Kp b m b 16)):=by
 refine enter Tryz.func168 rfl 49 rfl rfl ?_
 refine CW.seq ?_
 refine CW.region ?_
 refine LW.boxC (bd m) rfl rfl rfl fun w0 f0 cm hs0=>?_
 have bx0:=bx.fr f0 (by simp)
 have hnm:w.heap.size≠G:=fun e=>by have:=bx.lt;omega
 refine LW.nil ?_
 refine EW.seq_n ?_
 refine CW.seq ?_
 refine CW.region ?_
 refine LW.move wn rfl rfl ?_
 refine LW.st (aG.nilCheck rfl) rfl ?_
 refine LW.st (aG.loadCn bx0 sO (by rw[an,hb]) (eT hb) rfl) rfl ?_
 refine LW.allocC (bd (List.replicate 16 0)) DP rfl rfl fun w1 f1 co hs1=>?_
 have hne:w0.heap.size≠G:=fun e=>by have:=bx0.lt;omega
 have hmo:w.heap.size≠w0.heap.size:=fun e=>by have:=cm.lt;omega
 refine LW.storeN (n:=16) co sO (by rw[an,hb]) (by rw[an];decide) (dB _) rfl rfl fun w2 f2 co2=>?_
 rw[eO (by rw[an];decide)]at co2
 have bx2:=(bx0.fr f1 (by simp)).fr f2 (by simpa using hne.symm)
 have cm2:=(cm.fr f1 (by simp)).fr f2 (by simpa using hmo)
 refine LW.nil ?_
 refine EW.seq_n ?_
 refine CW.seq ?_
 refine CW.region ?_
 refine LW.move wn rfl rfl ?_
 refine LW.nil ?_
 refine EW.seq_n ?_
 refine CW.block ?_
 refine CW.loop (fun n F' w'=>∃i,n=16-i∧i≤16∧sub [(12,.int .i64 (i:Int)),(3,.pointer (some ⟨w.heap.size,0,none⟩)),(4,.pointer (some ⟨w0.heap.size,0,none⟩)),(0,.pointer (some ⟨G,0,none⟩))] F'∧Fr [G] w2 w'∧ed w' G T' (bd (Kp b m b i))∧ed w' w0.heap.size 163 (bd b)∧ed w' w.heap.size 205 (bd m)) 16 ⟨0,rfl,by omega,⟨rfl,rfl,rfl,rfl,trivial⟩,Fr.refl,bx2,co2,cm2⟩ ?_
 rintro n0 F0 w3 ⟨i,rfl,hi0,hs0,f3,bx3,co3,cm3⟩
 refine CW.sub hs0 ?_
 refine CW.seq ?_
 refine CW.region ?_
 refine LW.st (aG.bin (gQ (a:=i) (b:=16)) rfl rfl rfl) rfl ?_
 refine LW.nil ?_
 refine EW.seq_n ?_
 refine CW.seq ?_
 refine CW.cond (b:=decide (i<16)) rfl (fun hc0=>?_) (fun hc0=>?_)
 ·have hlt0:i<16:=of_decide_eq_true hc0
  have hl:(Kp b m b i).length=16:=by rw[sP,hb]
  refine CW.skip ?_
  refine EW.seq_n ?_
  refine CW.seq ?_
  refine CW.block ?_
  refine CW.seq ?_
  refine CW.region ?_
  refine LW.move wn rfl rfl ?_
  refine LW.assign wn rfl rfl ?_
  refine LW.nil ?_
  refine EW.seq_n ?_
  refine CW.seq ?_
  refine CW.region ?_
  refine LW.move wn rfl rfl ?_
  refine LW.st (aG.bin (og (a:=i) (b:=4) (by decide)) rfl rfl rfl) rfl ?_
  refine LW.move wn rfl rfl ?_
  refine LW.st (aG.bin (vp (a:=i) (b:=4) (by decide) (by omega)) rfl rfl rfl) rfl ?_
  refine LW.assign wn rfl rfl ?_
  refine LW.assign wn rfl rfl ?_
  refine LW.nil ?_
  refine EW.seq_n ?_
  refine CW.seq ?_
  refine CW.region ?_
  refine LW.move wn rfl rfl ?_
  refine LW.move wn rfl rfl ?_
  refine LW.st (aG.nilCheck rfl) rfl ?_
  refine LW.st (aG.idx0 (i:=i) pL hlt0 rfl rfl) rfl ?_
  refine LW.store1 (v:=.int .u8 ((0:UInt8).toNat:Int)) bx3 ch (by rw[an,hl];omega) rfl rfl rfl rfl fun w4 f4 bx4=>?_
  rw[iQ]at bx4
  have co4:=co3.fr f4 (by simpa using hne)
  have cm4:=cm3.fr f4 (by simpa using hnm)
  refine LW.nil ?_
  refine EW.seq_n ?_
  refine CW.seq ?_
  refine CW.region ?_
  refine LW.move wn rfl rfl ?_
  refine LW.nil ?_
  refine EW.seq_n ?_
  refine CW.block ?_
  refine CW.loop (fun n F' w'=>∃kk,n=4-kk∧kk≤4∧sub [(23,.int .i64 (kk:Int)),(12,.int .i64 (i:Int)),(5,.int .i64 (i:Int)),(6,.int .i64 ((i%4:Nat):Int)),(7,.int .i64 ((i/4:Nat):Int)),(3,.pointer (some ⟨w.heap.size,0,none⟩)),(4,.pointer (some ⟨w0.heap.size,0,none⟩)),(0,.pointer (some ⟨G,0,none⟩))] F'∧Fr [G] w4 w'∧ed w' G T' (bd (KE b m (Kp b m b i) i kk))∧ed w' w0.heap.size 163 (bd b)∧ed w' w.heap.size 205 (bd m)) 4 ⟨0,rfl,by omega,⟨rfl,rfl,rfl,rfl,rfl,rfl,rfl,rfl,trivial⟩,Fr.refl,bx4,co4,cm4⟩ ?_
  rintro n1 F1 w5 ⟨k,rfl,hi1,hs1,f5,bx5,co5,cm5⟩
  refine CW.sub hs1 ?_
  refine CW.seq ?_
  refine CW.region ?_
  refine LW.st (aG.bin (gQ (a:=k) (b:=4)) rfl rfl rfl) rfl ?_
  refine LW.nil ?_
  refine EW.seq_n ?_
  refine CW.seq ?_
  refine CW.cond (b:=decide (k<4)) rfl (fun hc1=>?_) (fun hc1=>?_)
  ·have hlt1:k<4:=of_decide_eq_true hc1
   have hl2:(KE b m (Kp b m b i) i k).length=16:=by rw[AG,sP,hb]
   refine CW.skip ?_
   refine EW.seq_n ?_
   refine CW.seq ?_
   refine CW.block ?_
   refine CW.seq ?_
   refine CW.region ?_
   refine LW.move wn rfl rfl ?_
   refine LW.assign wn rfl rfl ?_
   refine LW.nil ?_
   refine EW.seq_n ?_
   refine CW.still 21 (by decide) (by kernel_rfl) ?_
   refine LS.st (aG.move rfl) rfl ?_
   refine LS.st (aG.move rfl) rfl ?_
   refine LS.st (aG.nilCheck rfl) rfl ?_
   refine LS.st (aG.idx0 (i:=i) pL hlt0 rfl rfl) rfl ?_
   refine LS.st (aG.loadC (bx5.drawn _) ch (b_ (by rw[hl2];omega)) rfl) rfl ?_
   refine LS.st (aG.move rfl) rfl ?_
   refine LS.st (aG.bin (vd (a:=4) (b:=i/4) (by omega)) rfl rfl rfl) rfl ?_
   refine LS.st (aG.move rfl) rfl ?_
   refine LS.st (aG.move rfl) rfl ?_
   refine LS.st (aG.bin (lB (a:=i%4) (b:=k) (by omega)) rfl rfl rfl) rfl ?_
   refine LS.st (aG.bin (og (a:=i%4+k) (b:=4) (by decide)) rfl rfl rfl) rfl ?_
   refine LS.st (aG.bin (lB (a:=4*(i/4)) (b:=(i%4+k)%4) (by omega)) rfl rfl rfl) rfl ?_
   refine LS.st (aG.idx0 (i:=PD i k) pL (by unfold PD;omega) rfl rfl) rfl ?_
   refine LS.st (aG.loadC (co5.drawn _) ch (b_ (by rw[hb];unfold PD;omega)) rfl) rfl ?_
   refine LS.st (aG.move rfl) rfl ?_
   refine LS.st (aG.idx0 (i:=k) M8 hlt1 rfl rfl) rfl ?_
   refine LS.st (aG.loadC (cm5.drawn _) ch (b_ (by rw[hm];exact hlt1)) rfl) rfl ?_
   refine LS.call ⟨Tryz.f211,Tryz.func211,by kernel_rfl,by kernel_rfl⟩ (OV (b.getD (PD i k) 0) (m.getD k 0) _) rfl rfl ?_
   refine LS.st (aG.bin (kZ _ _) rfl rfl rfl) rfl ?_
   refine LS.st (aG.nilCheck rfl) rfl ?_
   refine LS.st (aG.idx0 (i:=i) pL hlt0 rfl rfl) rfl ?_
   refine LS.nil ?_
   refine LW.store1 (bx5.drawn _) ch (by rw[an,hl2];omega) rfl rfl rfl rfl fun w6 f6 bx6=>?_
   rw[iQ,←BC]at bx6
   refine LW.nil ?_
   refine EW.block_n ?_
   refine EW.seq_n ?_
   refine CW.region ?_
   refine LW.add_lit (c:=((k+1:Nat):Int)) (sD (by omega)) wn rfl rfl rfl ?_
   refine LW.move wn rfl rfl ?_
   refine LW.nil ?_
   exact EW.join_n ⟨4-(k+1),by omega,k+1,rfl,by omega,⟨rfl,rfl,rfl,rfl,rfl,rfl,rfl,rfl,trivial⟩,f5.tr f6.ofDraw,bx6,(co5.drawn _).fr f6 (by simpa using hne),(cm5.drawn _).fr f6 (by simpa using hnm)⟩
  ·have hge1:k=4:=by have:=of_decide_eq_false hc1;omega
   subst hge1
   refine CW.exit ?_
   refine EW.seq_x ?_
   refine EW.join_x ?_
   refine EW.block_x ?_
   refine EW.block_n ?_
   refine EW.seq_n ?_
   refine CW.region ?_
   refine LW.add_lit (c:=((i+1:Nat):Int)) (sD (by omega)) wn rfl rfl rfl ?_
   refine LW.move wn rfl rfl ?_
   refine LW.nil ?_
   rw[←Cb]at bx5
   exact EW.join_n ⟨16-(i+1),by omega,i+1,rfl,by omega,⟨rfl,rfl,rfl,rfl,trivial⟩,f3.tr (f4.tr f5),bx5,co5,cm5⟩
 ·have hge0:i=16:=by have:=of_decide_eq_false hc0;omega
  subst hge0
  refine CW.exit ?_
  refine EW.seq_x ?_
  refine EW.join_x ?_
  refine EW.block_x ?_
  exact EW.end_nil rfl ⟨rfl,((f0.weak.tr f1.weak).trans f2 (fun q hq=>.inr (by have:q=w0.heap.size:=(by simpa using hq);rw[this];exact f0.size))).tr f3,bx3⟩
set_option maxRecDepth 100000
theorem Ds:tx Tryz.prog 164 163 11 16:=⟨by kernel_rfl,fun w=>by kernel_rfl⟩
theorem lO:mP Tryz.prog 132 16:=⟨fun w=>by kernel_rfl,fun w=>by kernel_rfl⟩
theorem mU:gO Tryz.prog 132 (.agg (bd (List.replicate 16 0)).toArray):=fun w=>by kernel_rfl
theorem yw:rl Tryz.prog 161 0 0:=fun w a=>by kernel_rfl
theorem vF:rl Tryz.prog 166 0 0:=fun w a=>by kernel_rfl
theorem QP:rl Tryz.prog 166 1 512:=fun w a=>by kernel_rfl
def Nx(cb:List UInt8)(i:Nat):List UInt8:=(cb.drop (512+i*16)).take 16
theorem qL{cb:List UInt8}(h:cb.length=688){i:Nat}(hi:i<11):(Nx cb i).length=16:=by simp[Nx,h];omega
def ON:List UInt8:=[2,3,1,1]
def FP(cb s:List UInt8)(i:Nat):List UInt8:=nL (if i<10 then Kp (Gc cb s 1 s 16) ON (Gc cb s 1 s 16) 16 else Gc cb s 1 s 16) (Nx cb i) 16
def my(cb b:List UInt8)(n:Nat):List UInt8:=(List.range n).foldl (fun s i=>FP cb s (i+1)) (nL b (Nx cb 0) 16)
theorem FA(cb b:List UInt8):my cb b 0=nL b (Nx cb 0) 16:=by simp[my]
theorem uu(cb b:List UInt8)(n:Nat):my cb b (n+1)=FP cb (my cb b n) (n+1):=by simp[my,List.range_succ]
theorem Ha(cb s:List UInt8)(i:Nat):(FP cb s i).length=s.length:=by
 unfold FP
 split<;>simp[i7,sP,vf]
theorem tf(cb b:List UInt8): ∀n,(my cb b n).length=b.length
 |0=>by simp[my,i7]
 |n+1=>by rw[uu,Ha,tf cb b n]
set_option maxHeartbeats 1000000 in
theorem Dd{w:World}{G T' C TC:Nat}{b cb:List UInt8}(hb:b.length=16)(hc:cb.length=688)(bx:ed w G T' (bd b))(cx:ed w C TC (bd cb))(hGC:C≠G):
  Calls Tryz.prog 141 [.pointer (some ⟨C,0,none⟩),.pointer (some ⟨C,512,none⟩),.pointer (some ⟨G,0,none⟩)].toArray w fun e w'=>e = .returned (.tuple #[])∧Fr [G] w w'∧ed w' G T' (bd (my cb b 10)):=by
 refine enter Tryz.func141 rfl 34 rfl rfl ?_
 refine CW.seq ?_
 refine CW.region ?_
 refine LW.move wn rfl rfl ?_
 refine LW.move wn rfl rfl ?_
 refine LW.st (aG.nilCheck rfl) rfl ?_
 refine LW.st (aG.idxM (i:=0) Ds (by decide) rfl rfl) rfl ?_
 refine LW.st (aG.loadCn (vs:=bd (Nx cb 0)) cx sO (by rw[an,qL hc (by decide)]) (tX cb _ 16) rfl) rfl ?_
 refine LW.call ⟨Tryz.f166,Tryz.func166,by kernel_rfl,by kernel_rfl⟩ (D4 hb (qL hc (by decide)) bx) wn rfl rfl ?_
 rintro e1 w1 ⟨rfl,f1,bx1⟩
 refine⟨_,rfl,?_⟩
 rw[←FA]at bx1
 have cx1:=cx.fr f1 (by simpa using hGC)
 refine LW.nil ?_
 refine EW.seq_n ?_
 refine CW.seq ?_
 refine CW.region ?_
 refine LW.assign wn rfl rfl ?_
 refine LW.nil ?_
 refine EW.seq_n ?_
 refine CW.block ?_
 refine CW.loop (fun n F' w'=>∃i,n=10-i∧i≤10∧sub [(6,.int .i64 ((i+1:Nat):Int)),(0,.pointer (some ⟨C,0,none⟩)),(1,.pointer (some ⟨C,512,none⟩)),(2,.pointer (some ⟨G,0,none⟩))] F'∧Fr [G] w w'∧ed w' G T' (bd (my cb b i))∧ed w' C TC (bd cb)) 10 ⟨0,rfl,by omega,⟨rfl,rfl,rfl,rfl,trivial⟩,f1,bx1,cx1⟩ ?_
 rintro n0 F0 w2 ⟨i,rfl,hi0,hs0,f2,bx2,cx2⟩
 refine CW.sub hs0 ?_
 have hl:(my cb b i).length=16:=by rw[tf,hb]
 refine CW.seq ?_
 refine CW.seq ?_
 refine CW.region ?_
 refine LW.move wn rfl rfl ?_
 refine LW.st (aG.bin (gQ (a:=i+1) (b:=11)) rfl rfl rfl) rfl ?_
 refine LW.nil ?_
 refine EW.seq_n ?_
 refine CW.cond (b:=decide (i+1<11)) rfl (fun hc0=>?_) (fun hc0=>?_)
 ·have hlt0:i+1<11:=of_decide_eq_true hc0
  have hl3:(Gc cb (my cb b i) 1 (my cb b i) 16).length=16:=by rw[vf,hl]
  refine CW.skip ?_
  refine EW.seq_n ?_
  refine CW.seq ?_
  refine CW.block ?_
  refine CW.seq ?_
  refine CW.region ?_
  refine LW.move wn rfl rfl ?_
  refine LW.move wn rfl rfl ?_
  refine LW.st (aG.nilCheck rfl) rfl ?_
  refine LW.st (aG.fldC yw rfl) rfl ?_
  refine LW.call ⟨Tryz.f167,Tryz.func167,by kernel_rfl,by kernel_rfl⟩ (Ja hl (by omega) bx2 cx2 hGC) wn rfl rfl ?_
  rintro e3 w3 ⟨rfl,f3,bx3⟩
  refine⟨_,rfl,?_⟩
  have cx3:=cx2.fr f3 (by simpa using hGC)
  refine LW.nil ?_
  refine EW.seq_n ?_
  refine CW.seq ?_
  refine CW.seq ?_
  refine CW.region ?_
  refine LW.move wn rfl rfl ?_
  refine LW.st (aG.bin (gQ (a:=i+1) (b:=10)) rfl rfl rfl) rfl ?_
  refine LW.nil ?_
  refine EW.seq_n ?_
  refine CW.cond (b:=decide (i+1<10)) rfl (fun hc1=>?_) (fun hc1=>?_)
  ·have hm:i+1<10:=of_decide_eq_true hc1
   have hl4:(Kp (Gc cb (my cb b i) 1 (my cb b i) 16) ON (Gc cb (my cb b i) 1 (my cb b i) 16) 16).length=16:=by rw[sP,hl3]
   refine CW.region ?_
   refine LW.move wn rfl rfl ?_
   refine LW.st (v:=.agg (bd ON).toArray) (fun a ha=>by kernel_rfl) rfl ?_
   refine LW.call ⟨Tryz.f168,Tryz.func168,by kernel_rfl,by kernel_rfl⟩ (NN hl3 rfl bx3) wn rfl rfl ?_
   rintro e4 w4 ⟨rfl,f4,bx4⟩
   refine⟨_,rfl,?_⟩
   have cx4:=cx3.fr f4 (by simpa using hGC)
   refine LW.nil ?_
   refine EW.seq_n ?_
   refine CW.region ?_
   refine LW.move wn rfl rfl ?_
   refine LW.move wn rfl rfl ?_
   refine LW.move wn rfl rfl ?_
   refine LW.st (aG.nilCheck rfl) rfl ?_
   refine LW.st (aG.idxM (i:=i+1) Ds (by omega) rfl rfl) rfl ?_
   refine LW.st (aG.loadCn (vs:=bd (Nx cb (i+1))) cx4 sO (by rw[an,qL hc (by omega)]) (tX cb _ 16) rfl) rfl ?_
   refine LW.call ⟨Tryz.f166,Tryz.func166,by kernel_rfl,by kernel_rfl⟩ (D4 hl4 (qL hc (by omega)) bx4) wn rfl rfl ?_
   rintro e5 w5 ⟨rfl,f5,bx5⟩
   refine⟨_,rfl,?_⟩
   have cx5:=cx4.fr f5 (by simpa using hGC)
   refine LW.nil ?_
   refine EW.block_n ?_
   refine EW.seq_n ?_
   refine CW.region ?_
   refine LW.move wn rfl rfl ?_
   refine LW.add_lit (c:=((i+1+1:Nat):Int)) (sD (by omega)) wn rfl rfl rfl ?_
   refine LW.assign wn rfl rfl ?_
   refine LW.nil ?_
   have he:my cb b (i+1)=_:=(uu cb b i).trans (by rw[FP,if_pos hm])
   rw[←he]at bx5
   exact EW.join_n ⟨10-(i+1),by omega,i+1,rfl,by omega,⟨rfl,rfl,rfl,rfl,trivial⟩,((f2.tr f3).tr f4).tr f5,bx5,cx5⟩
  ·have hm : ¬i+1<10:=of_decide_eq_false hc1
   refine CW.skip ?_
   refine EW.seq_n ?_
   refine CW.region ?_
   refine LW.move wn rfl rfl ?_
   refine LW.move wn rfl rfl ?_
   refine LW.move wn rfl rfl ?_
   refine LW.st (aG.nilCheck rfl) rfl ?_
   refine LW.st (aG.idxM (i:=i+1) Ds (by omega) rfl rfl) rfl ?_
   refine LW.st (aG.loadCn (vs:=bd (Nx cb (i+1))) cx3 sO (by rw[an,qL hc (by omega)]) (tX cb _ 16) rfl) rfl ?_
   refine LW.call ⟨Tryz.f166,Tryz.func166,by kernel_rfl,by kernel_rfl⟩ (D4 hl3 (qL hc (by omega)) bx3) wn rfl rfl ?_
   rintro e5 w5 ⟨rfl,f5,bx5⟩
   refine⟨_,rfl,?_⟩
   have cx5:=cx3.fr f5 (by simpa using hGC)
   refine LW.nil ?_
   refine EW.block_n ?_
   refine EW.seq_n ?_
   refine CW.region ?_
   refine LW.move wn rfl rfl ?_
   refine LW.add_lit (c:=((i+1+1:Nat):Int)) (sD (by omega)) wn rfl rfl rfl ?_
   refine LW.assign wn rfl rfl ?_
   refine LW.nil ?_
   have he:my cb b (i+1)=_:=(uu cb b i).trans (by rw[FP,if_neg hm])
   rw[←he]at bx5
   exact EW.join_n ⟨10-(i+1),by omega,i+1,rfl,by omega,⟨rfl,rfl,rfl,rfl,trivial⟩,(f2.tr f3).tr f5,bx5,cx5⟩
 ·have hge0:i=10:=by have:=of_decide_eq_false hc0;omega
  subst hge0
  refine CW.exit ?_
  refine EW.seq_x ?_
  refine EW.join_x ?_
  refine EW.block_x ?_
  exact EW.end_nil rfl ⟨rfl,f2,bx2⟩
set_option maxHeartbeats 1000000 in
theorem JF{w:World}{C TC:Nat}{b cb:List UInt8}(hb:b.length=16)(hc:cb.length=688)(cx:ed w C TC (bd cb)):
  Calls Tryz.prog 112 [.pointer (some ⟨C,0,none⟩),.agg (bd b).toArray].toArray w fun e w'=>e = .returned (.agg (bd (my cb b 10)).toArray)∧Fr [] w w':=by
 refine enter Tryz.func112 rfl 15 rfl rfl ?_
 refine CW.seq ?_
 refine CW.region ?_
 refine LW.boxC (bd b) rfl rfl rfl fun w1 f1 c1 hs1=>?_
 refine LW.allocC (bd (List.replicate 16 0)) mU rfl rfl fun w2 f2 c2 hs2=>?_
 have c1b:=c1.fr f2 (by simp)
 refine LW.nil ?_
 refine EW.seq_n ?_
 refine CW.seq ?_
 refine CW.region ?_
 refine LW.st (aG.loadCn c1b lO (by rw[an,hb]) (eT hb) rfl) rfl ?_
 refine LW.allocC (bd (List.replicate 16 0)) DP rfl rfl fun w3 f3 c3 hs3=>?_
 have c2b:=c2.fr f3 (by simp)
 refine LW.storeN (n:=16) c3 sO (by rw[an,hb]) (by rw[an];decide) (dB _) rfl rfl fun w4 f4 c4=>?_
 rw[eO (by rw[an];decide)]at c4
 have hC:C<w.heap.size:=cx.lt
 have h12:=f1.size
 have h23:=f2.size
 have cx4:=(((cx.fr f1 (by simp)).fr f2 (by simp)).fr f3 (by simp)).fr f4 (by have:C≠w2.heap.size:=(by omega);simpa using this)
 have c2d:=c2b.fr f4 (by have:w1.heap.size≠w2.heap.size:=(by omega);simpa using this)
 refine LW.nil ?_
 refine EW.seq_n ?_
 refine CW.seq ?_
 refine CW.still 6 (by decide) (by kernel_rfl) ?_
 refine LS.st (aG.move rfl) rfl ?_
 refine LS.st (aG.nilCheck rfl) rfl ?_
 refine LS.st (aG.fldC vF rfl) rfl ?_
 refine LS.st (aG.move rfl) rfl ?_
 refine LS.st (aG.nilCheck rfl) rfl ?_
 refine LS.st (aG.fldC QP rfl) rfl ?_
 refine LS.nil ?_
 refine LW.call ⟨Tryz.f141,Tryz.func141,by kernel_rfl,by kernel_rfl⟩ (Dd hb hc (c4.drawn _) (cx4.drawn _) (by omega)) wn rfl rfl ?_
 rintro e5 w5 ⟨rfl,f5,c5⟩
 refine⟨_,rfl,?_⟩
 have hl:(my cb b 10).length=16:=by rw[tf,hb]
 have c2e:=(c2d.drawn _).fr f5 (by have:w1.heap.size≠w2.heap.size:=(by omega);simpa using this)
 refine LW.nil ?_
 refine EW.seq_n ?_
 refine CW.seq ?_
 refine CW.region ?_
 refine LW.st (aG.loadCn c5 sO (by rw[an,hl]) (eT hl) rfl) rfl ?_
 refine LW.storeN (n:=16) c2e lO (by rw[an,hl]) (by rw[an];decide) (dB _) rfl rfl fun w6 f6 c6=>?_
 rw[eO (by rw[an];decide)]at c6
 refine LW.nil ?_
 refine EW.seq_n ?_
 refine CW.ret ?_
 refine EW.retc rfl (c6.box.rv lO (by rw[an,hl];rfl) rfl) ⟨rfl,?_⟩
 exact((((f1.tr f2).tr f3).trans f4 (fun q hq=>.inr (by have:q=w2.heap.size:=(by simpa using hq);omega))).trans f5.ofDraw (fun q hq=>.inr (by have:q=w2.heap.size:=(by simpa using hq);omega))).trans f6 (fun q hq=>.inr (by have:q=w1.heap.size:=(by simpa using hq);omega))
set_option maxRecDepth 100000
theorem O8:mP Tryz.prog 161 512:=⟨fun w=>by kernel_rfl,fun w=>by kernel_rfl⟩
theorem NB:gO Tryz.prog 161 (.agg (bd (List.replicate 512 0)).toArray):=fun w=>by kernel_rfl
theorem QG:gO Tryz.prog 156 (.agg (bd (List.replicate 256 0)).toArray):=fun w=>by kernel_rfl
theorem MG:rl Tryz.prog 161 1 256:=fun w a=>by kernel_rfl
def Pf(b:UInt8)(k:Nat):UInt8:=Gy b (k:Int).toNat ||| Du b (8-(k:Int)).toNat
theorem SR:yG Tryz.prog 82 .u64:=by show Tryz.prog.underlying 82=some (.int .u64);kernel_rfl
theorem Rw : ∀k:Nat,k<8→bits .and .u64 (k:Int) 7=(k:Int):=by decide
theorem Ot(b:UInt8){k:Nat}(hk:k<8)(w:World):Calls Tryz.prog 140 [.int .u8 (b.toNat:Int),.int .i64 (k:Int)].toArray w fun e w'=>e = .returned (.int .u8 ((Pf b k).toNat:Int))∧w'=w:=by
 refine enter Tryz.func140 rfl 17 rfl rfl ?_
 refine CW.seq ?_
 refine CW.region ?_
 refine LW.assign wn rfl rfl ?_
 refine LW.nil ?_
 refine EW.seq_n ?_
 refine CW.seq ?_
 refine CW.region ?_
 refine LW.move wn rfl rfl ?_
 refine LW.st (v:=.int .u64 (k:Int)) (fun a ha=>by simp only[execOp,ha.eval (show ev _ (.tmp 6)=some (.int .i64 (k:Int))from rfl),Sem.run_bind,lI (P:=Tryz.prog) (S:=3) (by kernel_rfl) SR,Result.andThen_ok,Sem.run_pure];rw[show IntKind.u64.wrap (k:Int)=(k:Int) by rw[IntKind.wrap_u64];omega]) rfl ?_
 refine LW.st (aG.bin (q:=.int .u64 (k:Int)) (by rw[binOp_and,intBits_and,Rw k hk];simp) rfl rfl rfl) rfl ?_
 refine LW.assign wn rfl rfl ?_
 refine LW.nil ?_
 refine EW.seq_n ?_
 refine CW.seq ?_
 refine CW.region ?_
 refine LW.move wn rfl rfl ?_
 refine LW.move wn rfl rfl ?_
 refine LW.st (aG.bin (zZ b (n:=(k:Int)) (by omega)) rfl rfl rfl) rfl ?_
 refine LW.move wn rfl rfl ?_
 refine LW.move wn rfl rfl ?_
 refine LW.st (aG.bin (q:=.int .u64 (8-(k:Int))) (by have:IntKind.u64.wrap (8-(k:Int))=8-(k:Int):=(by rw[IntKind.wrap_u64];omega);simp[binOp,Op.intArith,this]) rfl rfl rfl) rfl ?_
 refine LW.st (aG.bin (AJ b (n:=8-(k:Int)) (by omega)) rfl rfl rfl) rfl ?_
 refine LW.st (aG.bin (Qw _ _) rfl rfl rfl) rfl ?_
 refine LW.assign wn rfl rfl ?_
 refine LW.nil ?_
 refine EW.seq_n ?_
 refine CW.ret ?_
 exact EW.ret1 rfl rfl ⟨rfl,rfl⟩
def Fw(i:Nat):List UInt8×UInt8:=(List.range i).foldl (fun s j=>(s.1.set j s.2,s.2 ^^^ xT s.2)) (List.replicate 256 0,1)
theorem BN(i:Nat):Fw (i+1)=((Fw i).1.set i (Fw i).2,(Fw i).2 ^^^ xT (Fw i).2):=by simp[Fw,List.range_succ]
theorem Ai : ∀i,(Fw i).1.length=256
 |0=>by simp[Fw]
 |i+1=>by rw[BN,List.length_set,Ai i]
def KG(b:UInt8)(k:Nat):UInt8:=(List.range k).foldl (fun c j=>c ^^^ Pf b (j+1)) (b ^^^ 99)
theorem HO(b:UInt8)(k:Nat):KG b (k+1)=KG b k ^^^ Pf b (k+1):=by simp[KG,List.range_succ]
def KB(pw:List UInt8)(i:Nat):UInt8:=if i<255 then pw.getD i 0 else 0
def F7(pw:List UInt8)(i:Nat):UInt8:=if i<255 then pw.getD ((255-i)%255) 0 else 0
def KD(pw:List UInt8)(i:Nat):List UInt8:=(List.range i).foldl (fun s j=>(s.set (KB pw j).toNat (KG (F7 pw j) 4)).set (256+(KG (F7 pw j) 4).toNat) (KB pw j)) (List.replicate 512 0)
theorem BT(pw:List UInt8)(i:Nat):KD pw (i+1)=((KD pw i).set (KB pw i).toNat (KG (F7 pw i) 4)).set (256+(KG (F7 pw i) 4).toNat) (KB pw i):=by simp[KD,List.range_succ]
theorem mL(pw:List UInt8): ∀i,(KD pw i).length=512
 |0=>by simp[KD]
 |i+1=>by rw[BT,List.length_set,List.length_set,mL pw i]
def vV:List UInt8:=KD (Fw 255).1 256
set_option maxHeartbeats 1000000 in
theorem wL(w:World):Calls Tryz.prog 110 [].toArray w fun e w'=>e = .returned (.agg (bd vV).toArray)∧Fr [] w w':=by
 refine enter Tryz.func110 rfl 55 rfl rfl ?_
 refine CW.seq ?_
 refine CW.region ?_
 refine LW.allocC (bd (List.replicate 512 0)) NB rfl rfl fun w1 f1 c1 hs1=>?_
 refine LW.nil ?_
 refine EW.seq_n ?_
 refine CW.seq ?_
 refine CW.region ?_
 refine LW.allocC (bd (List.replicate 256 0)) QG rfl rfl fun w2 f2 c2 hs2=>?_
 have c1b:=c1.fr f2 (by simp)
 have hR : ∃R,R=w.heap.size:=⟨_,rfl⟩
 obtain⟨R,hR⟩:=hR
 have hW : ∃W,W=w1.heap.size:=⟨_,rfl⟩
 obtain⟨W,hW⟩:=hW
 rw[←hR]at c1b⊢
 rw[←hW]at c2⊢
 have hRW:R≠W:=by omega
 refine LW.nil ?_
 refine EW.seq_n ?_
 refine CW.seq ?_
 refine CW.region ?_
 refine LW.assign wn rfl rfl ?_
 refine LW.nil ?_
 refine EW.seq_n ?_
 refine CW.seq ?_
 refine CW.seq ?_
 refine CW.region ?_
 refine LW.move wn rfl rfl ?_
 refine LW.nil ?_
 refine EW.seq_n ?_
 refine CW.block ?_
 refine CW.loop (fun n F' w'=>∃i,n=255-i∧i≤255∧sub [(10,.int .i64 (i:Int)),(2,.int .u8 ((Fw i).2.toNat:Int)),(0,.pointer (some ⟨R,0,none⟩)),(1,.pointer (some ⟨W,0,none⟩))] F'∧Fr [W] w2 w'∧ed w' W 156 (bd (Fw i).1)∧ed w' R 161 (bd (List.replicate 512 0))) 255 ⟨0,rfl,by omega,⟨rfl,rfl,rfl,rfl,trivial⟩,Fr.refl,c2,c1b⟩ ?_
 rintro n0 F0 w3 ⟨i,rfl,hi0,hs0,f3,c3,r3⟩
 refine CW.sub hs0 ?_
 refine CW.seq ?_
 refine CW.region ?_
 refine LW.st (aG.bin (gQ (a:=i) (b:=255)) rfl rfl rfl) rfl ?_
 refine LW.nil ?_
 refine EW.seq_n ?_
 refine CW.seq ?_
 refine CW.cond (b:=decide (i<255)) rfl (fun hc0=>?_) (fun hc0=>?_)
 ·have hlt0:i<255:=of_decide_eq_true hc0
  refine CW.skip ?_
  refine EW.seq_n ?_
  refine CW.seq ?_
  refine CW.block ?_
  refine CW.seq ?_
  refine CW.region ?_
  refine LW.move wn rfl rfl ?_
  refine LW.assign wn rfl rfl ?_
  refine LW.nil ?_
  refine EW.seq_n ?_
  refine CW.seq ?_
  refine CW.region ?_
  refine LW.move wn rfl rfl ?_
  refine LW.move wn rfl rfl ?_
  refine LW.st (aG.idx0 (i:=i) nc (by omega) rfl rfl) rfl ?_
  refine LW.store1 c3 ch (by rw[an,Ai];omega) rfl rfl rfl rfl fun w4 f4 c4=>?_
  rw[iQ]at c4
  have r4:=r3.fr f4 (by simpa using hRW)
  refine LW.nil ?_
  refine EW.seq_n ?_
  refine CW.region ?_
  refine LW.move wn rfl rfl ?_
  refine LW.move wn rfl rfl ?_
  refine LW.call ⟨Tryz.f139,Tryz.func139,by kernel_rfl,by kernel_rfl⟩ (AH (Fw i).2 _) wn rfl rfl ?_
  rintro e w' ⟨rfl,rfl⟩
  refine⟨_,rfl,?_⟩
  refine LW.st (aG.bin (kZ _ _) rfl rfl rfl) rfl ?_
  refine LW.assign wn rfl rfl ?_
  refine LW.nil ?_
  refine EW.block_n ?_
  refine EW.seq_n ?_
  refine CW.region ?_
  refine LW.add_lit (c:=((i+1:Nat):Int)) (sD (by omega)) wn rfl rfl rfl ?_
  refine LW.move wn rfl rfl ?_
  refine LW.nil ?_
  have e1:=BN i
  refine EW.join_n ⟨255-(i+1),by omega,i+1,rfl,by omega,?_,f3.tr f4,?_,r4⟩
  ·rw[e1];exact⟨rfl,rfl,rfl,rfl,trivial⟩
  ·rw[e1];exact c4
 ·have hge0:i=255:=by have:=of_decide_eq_false hc0;omega
  subst hge0
  refine CW.exit ?_
  refine EW.seq_x ?_
  refine EW.join_x ?_
  refine EW.block_x ?_
  refine EW.seq_n ?_
  refine CW.seq ?_
  refine CW.region ?_
  refine LW.allocC (bd (List.replicate 512 0)) NB rfl rfl fun w5 f5 c5 hs5=>?_
  have p5:=c3.fr f5 (by simp)
  have r5:=r3.fr f5 (by simp)
  have hSW:w3.heap.size≠W:=fun e=>by have:=c3.lt;omega
  have hSR:w3.heap.size≠R:=fun e=>by have:=r3.lt;omega
  have hSg : ∃S,S=w3.heap.size:=⟨_,rfl⟩
  obtain⟨S,hSg⟩:=hSg
  rw[←hSg]at c5 hSW hSR⊢
  obtain⟨pw,hpw⟩ : ∃pw,pw=(Fw 255).1:=⟨_,rfl⟩
  rw[←hpw]at p5
  have hpl:pw.length=256:=by rw[hpw,Ai]
  refine LW.nil ?_
  refine EW.seq_n ?_
  refine CW.seq ?_
  refine CW.seq ?_
  refine CW.region ?_
  refine LW.move wn rfl rfl ?_
  refine LW.nil ?_
  refine EW.seq_n ?_
  refine CW.block ?_
  refine CW.loop (fun n F' w'=>∃i,n=256-i∧i≤256∧sub [(21,.int .i64 (i:Int)),(0,.pointer (some ⟨R,0,none⟩)),(1,.pointer (some ⟨W,0,none⟩)),(4,.pointer (some ⟨S,0,none⟩))] F'∧Fr [S] w5 w'∧ed w' W 156 (bd pw)∧ed w' R 161 (bd (List.replicate 512 0))∧ed w' S 161 (bd (KD pw i))) 256 ⟨0,rfl,by omega,⟨rfl,rfl,rfl,rfl,trivial⟩,Fr.refl,p5,r5,c5⟩ ?_
  rintro n1 F1 w6 ⟨i,rfl,hi1,hs1',f6,p6,r6,s6⟩
  refine CW.sub hs1' ?_
  refine CW.seq ?_
  refine CW.region ?_
  refine LW.st (aG.bin (gQ (a:=i) (b:=256)) rfl rfl rfl) rfl ?_
  refine LW.nil ?_
  refine EW.seq_n ?_
  refine CW.seq ?_
  refine CW.cond (b:=decide (i<256)) rfl (fun hc1=>?_) (fun hc1=>?_)
  ·have hlt1:i<256:=of_decide_eq_true hc1
   refine CW.skip ?_
   refine EW.seq_n ?_
   refine CW.seq ?_
   refine CW.block ?_
   refine CW.seq ?_
   refine CW.region ?_
   refine LW.move wn rfl rfl ?_
   refine LW.assign wn rfl rfl ?_
   refine LW.nil ?_
   refine EW.seq_n ?_
   refine CW.seq ?_
   refine CW.region ?_
   refine LW.assign wn rfl rfl ?_
   refine LW.assign wn rfl rfl ?_
   refine LW.nil ?_
   refine EW.seq_n ?_
   refine CW.seq_join (fun F' w'=>sub [(6,.int .u8 ((KB pw i).toNat:Int)),(7,.int .u8 ((F7 pw i).toNat:Int)),(21,.int .i64 (i:Int)),(0,.pointer (some ⟨R,0,none⟩)),(1,.pointer (some ⟨W,0,none⟩)),(4,.pointer (some ⟨S,0,none⟩))] F'∧Fr [S] w5 w'∧ed w' W 156 (bd pw)∧ed w' R 161 (bd (List.replicate 512 0))∧ed w' S 161 (bd (KD pw i))) ?_ ?_
   ·skip
    refine CW.seq ?_
    refine CW.region ?_
    refine LW.move wn rfl rfl ?_
    refine LW.st (aG.bin (gQ (a:=i) (b:=255)) rfl rfl rfl) rfl ?_
    refine LW.nil ?_
    refine EW.seq_n ?_
    refine CW.cond (b:=decide (i<255)) rfl (fun hc2=>?_) (fun hc2=>?_)
    ·have hb2:i<255:=of_decide_eq_true hc2
     have ea:KB pw i=pw.getD i 0:=if_pos hb2
     have eb:F7 pw i=pw.getD ((255-i)%255) 0:=if_pos hb2
     refine CW.still 9 (by decide) (by kernel_rfl) ?_
     refine LS.st (aG.move rfl) rfl ?_
     refine LS.st (aG.idx0 (i:=i) nc (by omega) rfl rfl) rfl ?_
     refine LS.st (aG.loadC (p6.drawn _) ch (b_ (by rw[hpl];omega)) rfl) rfl ?_
     refine LS.st (aG.move rfl) rfl ?_
     refine LS.st (aG.bin (lF (a:=255) (b:=i) (by omega) (by omega)) rfl rfl rfl) rfl ?_
     refine LS.st (aG.bin (og (a:=255-i) (b:=255) (by decide)) rfl rfl rfl) rfl ?_
     refine LS.st (aG.idx0 (i:=(255-i)%255) nc (by omega) rfl rfl) rfl ?_
     refine LS.st (aG.loadC (p6.drawn _) ch (b_ (by rw[hpl];omega)) rfl) rfl ?_
     refine LS.st (aG.assign rfl) rfl ?_
     refine LS.nil ?_
     refine LW.assign wn rfl rfl ?_
     refine LW.nil ?_
     exact EW.join_n ⟨by rw[ea,eb];exact⟨rfl,rfl,rfl,rfl,rfl,rfl,trivial⟩,f6.tr (Fr.draw _ _).weak,p6.drawn _,r6.drawn _,s6.drawn _⟩
    ·have hb2 : ¬i<255:=of_decide_eq_false hc2
     have ea:KB pw i=0:=if_neg hb2
     have eb:F7 pw i=0:=if_neg hb2
     refine CW.skip ?_
     exact EW.join_n ⟨by rw[ea,eb];exact⟨rfl,rfl,rfl,rfl,rfl,rfl,trivial⟩,f6,p6,r6,s6⟩
   ·rintro F9 w7 ⟨hs9,f7,p7,r7,s7⟩
    refine CW.sub hs9 ?_
    refine CW.seq ?_
    refine CW.region ?_
    refine LW.move wn rfl rfl ?_
    refine LW.st (aG.bin (kZ (F7 pw i) 99) rfl rfl rfl) rfl ?_
    refine LW.assign wn rfl rfl ?_
    refine LW.nil ?_
    refine EW.seq_n ?_
    refine CW.seq ?_
    refine CW.seq ?_
    refine CW.region ?_
    refine LW.assign wn rfl rfl ?_
    refine LW.nil ?_
    refine EW.seq_n ?_
    refine CW.block ?_
    refine CW.loop (fun n F' w'=>∃k,n=4-k∧k≤4∧sub [(9,.int .i64 ((k+1:Nat):Int)),(8,.int .u8 ((KG (F7 pw i) k).toNat:Int)),(7,.int .u8 ((F7 pw i).toNat:Int)),(6,.int .u8 ((KB pw i).toNat:Int)),(21,.int .i64 (i:Int)),(0,.pointer (some ⟨R,0,none⟩)),(1,.pointer (some ⟨W,0,none⟩)),(4,.pointer (some ⟨S,0,none⟩))] F'∧w'=w7) 4 ⟨0,rfl,by omega,⟨rfl,rfl,rfl,rfl,rfl,rfl,rfl,rfl,trivial⟩,rfl⟩ ?_
    rintro n2 F2 w' ⟨k,rfl,hk2,hs2',hww⟩
    subst hww
    refine CW.sub hs2' ?_
    refine CW.seq ?_
    refine CW.seq ?_
    refine CW.region ?_
    refine LW.move wn rfl rfl ?_
    refine LW.st (aG.bin (Lp (a:=k+1) (b:=4)) rfl rfl rfl) rfl ?_
    refine LW.nil ?_
    refine EW.seq_n ?_
    refine CW.cond (b:=decide (k+1≤4)) rfl (fun hc3=>?_) (fun hc3=>?_)
    ·have hlt3:k+1≤4:=of_decide_eq_true hc3
     refine CW.skip ?_
     refine EW.seq_n ?_
     refine CW.seq ?_
     refine CW.block ?_
     refine CW.region ?_
     refine LW.move wn rfl rfl ?_
     refine LW.move wn rfl rfl ?_
     refine LW.move wn rfl rfl ?_
     refine LW.call ⟨Tryz.f140,Tryz.func140,by kernel_rfl,by kernel_rfl⟩ (Ot (F7 pw i) (k:=k+1) (by omega) _) wn rfl rfl ?_
     rintro e w' ⟨rfl,rfl⟩
     refine⟨_,rfl,?_⟩
     refine LW.st (aG.bin (kZ _ _) rfl rfl rfl) rfl ?_
     refine LW.assign wn rfl rfl ?_
     refine LW.nil ?_
     refine EW.block_n ?_
     refine EW.seq_n ?_
     refine CW.region ?_
     refine LW.move wn rfl rfl ?_
     refine LW.add_lit (c:=((k+1+1:Nat):Int)) (sD (by omega)) wn rfl rfl rfl ?_
     refine LW.assign wn rfl rfl ?_
     refine LW.nil ?_
     rw[←HO]
     exact EW.join_n ⟨4-(k+1),by omega,k+1,rfl,by omega,⟨rfl,rfl,rfl,rfl,rfl,rfl,rfl,rfl,trivial⟩,rfl⟩
    ·have hge3:k=4:=by have:=of_decide_eq_false hc3;omega
     subst hge3
     refine CW.exit ?_
     refine EW.seq_x ?_
     refine EW.join_x ?_
     refine EW.block_x ?_
     refine EW.seq_n ?_
     refine CW.region ?_
     refine LW.move wn rfl rfl ?_
     refine LW.move wn rfl rfl ?_
     refine LW.move wn rfl rfl ?_
     refine LW.move wn rfl rfl ?_
     refine LW.st (aG.fldC yw rfl) rfl ?_
     refine LW.st (aG.idxC (i:=(KB pw i).toNat) nc (UInt8.toNat_lt _) rfl rfl) rfl ?_
     refine LW.store1 s7 ch (by rw[an,mL];have:=(KB pw i).toNat_lt;omega) rfl rfl rfl rfl fun w8 f8 s8=>?_
     rw[iQ]at s8
     refine LW.st (aG.fldC MG rfl) rfl ?_
     refine LW.st (aG.idxC (i:=(KG (F7 pw i) 4).toNat) nc (UInt8.toNat_lt _) rfl rfl) rfl ?_
     refine LW.store1 s8 ch (by rw[an,List.length_set,mL];have:=(KG (F7 pw i) 4).toNat_lt;omega) rfl rfl rfl rfl fun w9 f9 s9=>?_
     rw[iQ]at s9
     refine LW.nil ?_
     refine EW.block_n ?_
     refine EW.seq_n ?_
     refine CW.region ?_
     refine LW.add_lit (c:=((i+1:Nat):Int)) (sD (by omega)) wn rfl rfl rfl ?_
     refine LW.move wn rfl rfl ?_
     refine LW.nil ?_
     simp only[Nat.zero_add]at s9
     rw[←BT]at s9
     exact EW.join_n ⟨256-(i+1),by omega,i+1,rfl,by omega,⟨rfl,rfl,rfl,rfl,trivial⟩,(f7.tr f8).tr f9,(p7.fr f8 (by simpa using hSW.symm)).fr f9 (by simpa using hSW.symm),(r7.fr f8 (by simpa using hSR.symm)).fr f9 (by simpa using hSR.symm),s9⟩
  ·have hge1:i=256:=by have:=of_decide_eq_false hc1;omega
   subst hge1
   refine CW.exit ?_
   refine EW.seq_x ?_
   refine EW.join_x ?_
   refine EW.block_x ?_
   refine EW.seq_n ?_
   refine CW.seq ?_
   refine CW.region ?_
   refine LW.st (aG.loadCn (vs:=bd (KD pw 256)) s6 O8 (by rw[an,mL]) (by rw[List.drop_zero,List.take_of_length_le (by rw[an,mL];omega)]) rfl) rfl ?_
   refine LW.storeN (vs:=bd (KD pw 256)) (n:=512) r6 O8 (by rw[an,mL]) (by rw[an,List.length_replicate];decide) (dB _) rfl rfl fun w10 f10 c10=>?_
   rw[eO (by rw[an,List.length_replicate])]at c10
   refine LW.nil ?_
   refine EW.seq_n ?_
   refine CW.ret ?_
   refine EW.retc rfl (c10.box.rv O8 (by rw[an,mL];rfl) rfl) ⟨by rw[vV,←hpw],?_⟩
   exact(((f1.tr f2).trans f3 (fun q hq=>.inr (by have:q=W:=(by simpa using hq);omega))).trans (f5.weak.tr f6) (fun q hq=>.inr (by have:q=S:=(by simpa using hq);have:=f3.size;have:=f2.size;have:=f1.size;omega))).trans f10 (fun q hq=>.inr (by have:q=R:=(by simpa using hq);omega))
end Go.Proofs.YthejfljhiaeoeaaGreatDoor
