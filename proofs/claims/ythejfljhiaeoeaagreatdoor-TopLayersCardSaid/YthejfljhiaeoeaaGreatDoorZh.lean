import Derived.Test.YthejfljhiaeoeaaGreatDoorZg
namespace Go.Proofs.YthejfljhiaeoeaaGreatDoor
open Go.Gk Go.RowKit
set_option maxRecDepth 100000
theorem fv:Tryz.prog.underlying 25=some (.slice 5):=by kernel_rfl
theorem Og:(Tryz.prog.info? 5).map (·.size)=some 1:=by kernel_rfl
theorem LU:mP Tryz.prog 164 176:=⟨fun w=>by kernel_rfl,fun w=>by kernel_rfl⟩
theorem Sl:mP Tryz.prog 205 4:=⟨fun w=>by kernel_rfl,fun w=>by kernel_rfl⟩
theorem PV:gO Tryz.prog 164 (.agg (bd (List.replicate 176 0)).toArray):=fun w=>by kernel_rfl
theorem PG:gO Tryz.prog 205 (.agg (bd (List.replicate 4 0)).toArray):=fun w=>by kernel_rfl
theorem Ng:Tryz.prog.underlying 163=some (.array (Tryz.prog.arrayLen 163) (Tryz.prog.elem 163)):=by kernel_rfl
theorem NE:Tryz.prog.arrayLen 163=16:=by kernel_rfl
theorem QZ(w:World):(sizeOf (Tryz.prog.elem 163)).run Tryz.prog w = .ok 1 w:=by kernel_rfl
theorem NQ(a b c d:Value)(ha:a.cells = #[a])(hb:b.cells = #[b])(hc:c.cells = #[c])(hd:d.cells = #[d]):Tryz.prog.built 205 [(0,a),(1,b),(2,c),(3,d)]=some [a,b,c,d].toArray:=by
 have h : ∀vs,Tryz.prog.built 205 vs=Instr.fill (fun i=>some (i*1,1)) (bd [0,0,0,0]).toArray vs:=fun vs=>by kernel_rfl
 rw[h]
 simp[Instr.fill,ha,hb,hc,hd,bd]
def xY(key:List UInt8):List UInt8:=key++List.replicate 160 0
def uQ(sk:List UInt8)(i k:Nat):UInt8:=sk.getD (0+i*16+12+k) 0
def KC(to sk:List UInt8)(pw:UInt8)(i:Nat):List UInt8:=[to.getD (0+0+(uQ sk i 1).toNat) 0 ^^^ pw,to.getD (0+0+(uQ sk i 2).toNat) 0,to.getD (0+0+(uQ sk i 3).toNat) 0,to.getD (0+0+(uQ sk i 0).toNat) 0]
def Rh(s:List UInt8×List UInt8)(i j:Nat):UInt8:=s.1.getD (j%4) 0 ^^^ s.2.getD (0+i*16+j) 0
def CM(t sk:List UInt8)(i j:Nat):List UInt8×List UInt8:=(List.range j).foldl (fun s j=>(s.1.set (j%4) (Rh s i j),s.2.set (0+(i+1)*16+j) ((s.1.set (j%4) (Rh s i j)).getD (j%4) 0))) (t,sk)
theorem CD(t sk:List UInt8)(i j:Nat):CM t sk i (j+1)=((CM t sk i j).1.set (j%4) (Rh (CM t sk i j) i j),(CM t sk i j).2.set (0+(i+1)*16+j) (((CM t sk i j).1.set (j%4) (Rh (CM t sk i j) i j)).getD (j%4) 0)):=by simp[CM,List.range_succ]
theorem tE(t sk:List UInt8)(i:Nat): ∀j,(CM t sk i j).1.length=t.length∧(CM t sk i j).2.length=sk.length
 |0=>⟨rfl,rfl⟩
 |j+1=>by rw[CD];exact⟨by rw[List.length_set,(tE t sk i j).1],by rw[List.length_set,(tE t sk i j).2]⟩
def yn(to key:List UInt8)(n:Nat):List UInt8×UInt8:=(List.range n).foldl (fun s i=>((CM (KC to s.1 s.2 i) s.1 i 16).2,xT s.2)) (xY key,1)
theorem xw(to key:List UInt8):yn to key 0=(xY key,1):=by simp[yn]
theorem Co(to key:List UInt8)(n:Nat):yn to key (n+1)=((CM (KC to (yn to key n).1 (yn to key n).2 n) (yn to key n).1 n 16).2,xT (yn to key n).2):=by simp[yn,List.range_succ]
theorem lz{to key:List UInt8}(hk:key.length=16): ∀n,(yn to key n).1.length=176
 |0=>by rw[xw];simp[xY,hk]
 |n+1=>by rw[Co,(tE _ _ _ _).2,lz hk n]
set_option maxHeartbeats 4000000 in
theorem Bu{w:World}{C TC:Nat}{key to:List UInt8}{kv:Value}(hk:key.length=16)(ht:512≤to.length)(cx:ed w C TC (bd to))(ds:DS w kv key):
  Calls Tryz.prog 111 [.pointer (some ⟨C,0,none⟩),kv].toArray w fun e w'=>e = .returned (.agg (bd (yn to key 10).1).toArray)∧Fr [] w w':=by
 obtain⟨oa,kc,rfl,hkc,hks⟩:=ds.ex
 refine enter Tryz.func111 rfl 84 rfl rfl ?_
 refine CW.seq ?_
 refine CW.region ?_
 refine LW.allocC (bd (List.replicate 176 0)) PV rfl rfl fun w1 f1 b1 hs1=>?_
 have cx1:=cx.fr f1 (by simp)
 obtain⟨B,hB⟩ : ∃B,B=w.heap.size:=⟨_,rfl⟩
 rw[←hB]at b1⊢
 have hCB:C≠B:=fun e=>by have:=cx.lt;omega
 obtain⟨ad,rfl,hbl,_⟩:=hks 0 _ (r_ (by omega))
 refine LW.nil ?_
 refine EW.seq_n ?_
 refine CW.seq ?_
 refine CW.region ?_
 refine LW.st (aG.idxM (i:=0) Ds (by decide) rfl rfl) rfl ?_
 refine LW.st (aG.sliceAll Ng NE (by decide) QZ rfl) rfl ?_
 refine LW.move wn rfl rfl ?_
 refine LW.copyA (vs:=bd key) (n:=16) b1 fv Og (by rw[an,hk]) (by rw[hk];rfl) (fun j v hj=>?_) (by rw[an,List.length_replicate];decide) (dB _) rfl rfl rfl fun w2 f2 b2=>?_
 ·obtain⟨ad2,h1,h2,h3⟩:=hks j v hj
  cases h1
  rw[World.cell?_of_block (w:=w) (by rw[jA];exact f1.block _ h2 (by simp))];exact h3
 have hini:(bd (List.replicate 176 (0:UInt8))).take (0+0*16)++bd key++(bd (List.replicate 176 0)).drop (0+0*16+16)=bd (yn to key 0).1:=by rw[xw];simp[xY,bd]
 rw[hini]at b2
 have cx2:=cx1.fr f2 (by simpa using hCB)
 refine LW.nil ?_
 refine EW.seq_n ?_
 refine CW.seq ?_
 refine CW.region ?_
 refine LW.assign wn rfl rfl ?_
 refine LW.nil ?_
 refine EW.seq_n ?_
 refine CW.seq ?_
 refine CW.seq ?_
 refine CW.region ?_
 refine LW.assign wn rfl rfl ?_
 refine LW.nil ?_
 refine EW.seq_n ?_
 refine CW.block ?_
 refine CW.loop (fun n F' w'=>∃i,n=10-i∧i≤10∧sub [(6,.int .i64 ((i+1:Nat):Int)),(5,.int .u8 ((yn to key i).2.toNat:Int)),(4,.pointer (some ⟨B,0,none⟩)),(0,.pointer (some ⟨C,0,none⟩))] F'∧Fr [B] w2 w'∧ed w' B 164 (bd (yn to key i).1)∧ed w' C TC (bd to)) 10 ⟨0,rfl,by omega,by rw[xw];exact⟨rfl,rfl,rfl,rfl,trivial⟩,Fr.refl,b2,cx2⟩ ?_
 rintro n0 F0 w3 ⟨i,rfl,hi0,hs0,f3,b3,cx3⟩
 refine CW.sub hs0 ?_
 refine CW.seq ?_
 refine CW.seq ?_
 refine CW.region ?_
 refine LW.move wn rfl rfl ?_
 refine LW.st (aG.bin (gQ (a:=i+1) (b:=11)) rfl rfl rfl) rfl ?_
 refine LW.nil ?_
 refine EW.seq_n ?_
 refine CW.cond (b:=decide (i+1<11)) rfl (fun hc0=>?_) (fun hc0=>?_)
 ·have hlt0:i+1<11:=of_decide_eq_true hc0
  have hsc:=Co to key i
  have hsk:=lz (to:=to) hk i
  generalize (yn to key i).1=sk at b3 hsk hsc
  generalize (yn to key i).2=pw at hs0 hsc⊢
  refine CW.skip ?_
  refine EW.seq_n ?_
  refine CW.seq ?_
  refine CW.block ?_
  refine CW.seq ?_
  refine CW.region ?_
  refine LW.move wn rfl rfl ?_
  refine LW.st (aG.bin (q:=.int .i64 (i:Int)) (lF (a:=i+1) (b:=1) (by omega) (by omega)) rfl rfl rfl) rfl ?_
  refine LW.st (aG.idxM (i:=i) Ds (by omega) rfl rfl) rfl ?_
  refine LW.st (aG.sliceLow (l:=12) Ng NE (by decide) QZ rfl rfl) rfl ?_
  refine LW.assign wn rfl rfl ?_
  refine LW.nil ?_
  refine EW.seq_n ?_
  refine CW.seq ?_
  refine CW.drawV 36 35 8 [.pointer (some ⟨C,0,none⟩),.slice (some ⟨B,0+i*16+12,none⟩) 4 4,.pointer (some ⟨B,0+i*16+12+1,none⟩),.int .u8 ((uQ sk i 1).toNat:Int),.pointer (some ⟨C,0,none⟩),.pointer (some ⟨C,0+0,none⟩),.pointer (some ⟨C,0+0+(uQ sk i 1).toNat,none⟩),.int .u8 ((to.getD (0+0+(uQ sk i 1).toNat) 0).toNat:Int),.int .u8 ((pw).toNat:Int),.int .u8 ((to.getD (0+0+(uQ sk i 1).toNat) 0 ^^^ pw).toNat:Int),.pointer (some ⟨C,0,none⟩),.slice (some ⟨B,0+i*16+12,none⟩) 4 4,.pointer (some ⟨B,0+i*16+12+2,none⟩),.int .u8 ((uQ sk i 2).toNat:Int),.pointer (some ⟨C,0,none⟩),.pointer (some ⟨C,0+0,none⟩),.pointer (some ⟨C,0+0+(uQ sk i 2).toNat,none⟩),.int .u8 ((to.getD (0+0+(uQ sk i 2).toNat) 0).toNat:Int),.pointer (some ⟨C,0,none⟩),.slice (some ⟨B,0+i*16+12,none⟩) 4 4,.pointer (some ⟨B,0+i*16+12+3,none⟩),.int .u8 ((uQ sk i 3).toNat:Int),.pointer (some ⟨C,0,none⟩),.pointer (some ⟨C,0+0,none⟩),.pointer (some ⟨C,0+0+(uQ sk i 3).toNat,none⟩),.int .u8 ((to.getD (0+0+(uQ sk i 3).toNat) 0).toNat:Int),.pointer (some ⟨C,0,none⟩),.slice (some ⟨B,0+i*16+12,none⟩) 4 4,.pointer (some ⟨B,0+i*16+12+0,none⟩),.int .u8 ((uQ sk i 0).toNat:Int),.pointer (some ⟨C,0,none⟩),.pointer (some ⟨C,0+0,none⟩),.pointer (some ⟨C,0+0+(uQ sk i 0).toNat,none⟩),.int .u8 ((to.getD (0+0+(uQ sk i 0).toNat) 0).toNat:Int),.agg (bd (KC to sk pw i)).toArray] (by decide) (by kernel_rfl) rfl (by decide) PG rfl rfl fun w4 f4=>⟨?_,?_⟩
  ·have hB:=b3.both (ob:=.cells (bd (List.replicate 4 0)).toArray 205) f4 (by simp)
   have hC:=cx3.both (ob:=.cells (bd (List.replicate 4 0)).toArray 205) f4 (by simp)
   exact aR (aR (aR (aR (aR (aR (aR (aR (aR (aR (aR (aR (aR (aR (aR (aR (aR (aR (aR (aR (aR (aR (aR (aR (aR (aR (aR (aR (aR (aR (aR (aR (aR (aR (aR (aR (I5) (fun _=>⟨_,_,_,rfl,rfl,rfl,rfl,rfl,fun F w2 hw hF hV=>aG.move (hF 0 _ rfl)⟩)) (fun _=>⟨_,_,_,rfl,rfl,rfl,rfl,rfl,fun F w2 hw hF hV=>aG.move (hF 7 _ rfl)⟩)) (fun _=>⟨_,_,_,rfl,rfl,rfl,rfl,rfl,fun F w2 hw hF hV=>aG.idxSC (i:=1) fv (fun w=>by kernel_rfl) (by decide) (hV 1 (by decide) (by decide) (by kernel_rfl)) rfl⟩)) (fun _=>⟨_,_,_,rfl,rfl,rfl,rfl,rfl,fun F w2 hw hF hV=>aG.loadC (hB w2 hw) ch (b_ (by omega)) (hV 2 (by decide) (by decide) (by kernel_rfl))⟩)) (fun _=>⟨_,_,_,rfl,rfl,rfl,rfl,rfl,fun F w2 hw hF hV=>aG.nilCheck (hV 0 (by decide) (by decide) (by kernel_rfl))⟩)) (fun _=>⟨_,_,_,rfl,rfl,rfl,rfl,rfl,fun F w2 hw hF hV=>aG.fldC yw (hV 4 (by decide) (by decide) (by kernel_rfl))⟩)) (fun _=>⟨_,_,_,rfl,rfl,rfl,rfl,rfl,fun F w2 hw hF hV=>aG.idxC (i:=(uQ sk i 1).toNat) nc (UInt8.toNat_lt _) (hV 5 (by decide) (by decide) (by kernel_rfl)) (hV 3 (by decide) (by decide) (by kernel_rfl))⟩)) (fun _=>⟨_,_,_,rfl,rfl,rfl,rfl,rfl,fun F w2 hw hF hV=>aG.loadC (hC w2 hw) ch (b_ (by have:=(uQ sk i 1).toNat_lt;omega)) (hV 6 (by decide) (by decide) (by kernel_rfl))⟩)) (fun _=>⟨_,_,_,rfl,rfl,rfl,rfl,rfl,fun F w2 hw hF hV=>aG.move (hF 5 _ rfl)⟩)) (fun _=>⟨_,_,_,rfl,rfl,rfl,rfl,rfl,fun F w2 hw hF hV=>aG.bin (kZ _ _) rfl (hV 7 (by decide) (by decide) (by kernel_rfl)) (hV 8 (by decide) (by decide) (by kernel_rfl))⟩)) (fun _=>⟨_,_,_,rfl,rfl,rfl,rfl,rfl,fun F w2 hw hF hV=>aG.move (hF 0 _ rfl)⟩)) (fun _=>⟨_,_,_,rfl,rfl,rfl,rfl,rfl,fun F w2 hw hF hV=>aG.move (hF 7 _ rfl)⟩)) (fun _=>⟨_,_,_,rfl,rfl,rfl,rfl,rfl,fun F w2 hw hF hV=>aG.idxSC (i:=2) fv (fun w=>by kernel_rfl) (by decide) (hV 11 (by decide) (by decide) (by kernel_rfl)) rfl⟩)) (fun _=>⟨_,_,_,rfl,rfl,rfl,rfl,rfl,fun F w2 hw hF hV=>aG.loadC (hB w2 hw) ch (b_ (by omega)) (hV 12 (by decide) (by decide) (by kernel_rfl))⟩)) (fun _=>⟨_,_,_,rfl,rfl,rfl,rfl,rfl,fun F w2 hw hF hV=>aG.nilCheck (hV 10 (by decide) (by decide) (by kernel_rfl))⟩)) (fun _=>⟨_,_,_,rfl,rfl,rfl,rfl,rfl,fun F w2 hw hF hV=>aG.fldC yw (hV 14 (by decide) (by decide) (by kernel_rfl))⟩)) (fun _=>⟨_,_,_,rfl,rfl,rfl,rfl,rfl,fun F w2 hw hF hV=>aG.idxC (i:=(uQ sk i 2).toNat) nc (UInt8.toNat_lt _) (hV 15 (by decide) (by decide) (by kernel_rfl)) (hV 13 (by decide) (by decide) (by kernel_rfl))⟩)) (fun _=>⟨_,_,_,rfl,rfl,rfl,rfl,rfl,fun F w2 hw hF hV=>aG.loadC (hC w2 hw) ch (b_ (by have:=(uQ sk i 2).toNat_lt;omega)) (hV 16 (by decide) (by decide) (by kernel_rfl))⟩)) (fun _=>⟨_,_,_,rfl,rfl,rfl,rfl,rfl,fun F w2 hw hF hV=>aG.move (hF 0 _ rfl)⟩)) (fun _=>⟨_,_,_,rfl,rfl,rfl,rfl,rfl,fun F w2 hw hF hV=>aG.move (hF 7 _ rfl)⟩)) (fun _=>⟨_,_,_,rfl,rfl,rfl,rfl,rfl,fun F w2 hw hF hV=>aG.idxSC (i:=3) fv (fun w=>by kernel_rfl) (by decide) (hV 19 (by decide) (by decide) (by kernel_rfl)) rfl⟩)) (fun _=>⟨_,_,_,rfl,rfl,rfl,rfl,rfl,fun F w2 hw hF hV=>aG.loadC (hB w2 hw) ch (b_ (by omega)) (hV 20 (by decide) (by decide) (by kernel_rfl))⟩)) (fun _=>⟨_,_,_,rfl,rfl,rfl,rfl,rfl,fun F w2 hw hF hV=>aG.nilCheck (hV 18 (by decide) (by decide) (by kernel_rfl))⟩)) (fun _=>⟨_,_,_,rfl,rfl,rfl,rfl,rfl,fun F w2 hw hF hV=>aG.fldC yw (hV 22 (by decide) (by decide) (by kernel_rfl))⟩)) (fun _=>⟨_,_,_,rfl,rfl,rfl,rfl,rfl,fun F w2 hw hF hV=>aG.idxC (i:=(uQ sk i 3).toNat) nc (UInt8.toNat_lt _) (hV 23 (by decide) (by decide) (by kernel_rfl)) (hV 21 (by decide) (by decide) (by kernel_rfl))⟩)) (fun _=>⟨_,_,_,rfl,rfl,rfl,rfl,rfl,fun F w2 hw hF hV=>aG.loadC (hC w2 hw) ch (b_ (by have:=(uQ sk i 3).toNat_lt;omega)) (hV 24 (by decide) (by decide) (by kernel_rfl))⟩)) (fun _=>⟨_,_,_,rfl,rfl,rfl,rfl,rfl,fun F w2 hw hF hV=>aG.move (hF 0 _ rfl)⟩)) (fun _=>⟨_,_,_,rfl,rfl,rfl,rfl,rfl,fun F w2 hw hF hV=>aG.move (hF 7 _ rfl)⟩)) (fun _=>⟨_,_,_,rfl,rfl,rfl,rfl,rfl,fun F w2 hw hF hV=>aG.idxSC (i:=0) fv (fun w=>by kernel_rfl) (by decide) (hV 27 (by decide) (by decide) (by kernel_rfl)) rfl⟩)) (fun _=>⟨_,_,_,rfl,rfl,rfl,rfl,rfl,fun F w2 hw hF hV=>aG.loadC (hB w2 hw) ch (b_ (by omega)) (hV 28 (by decide) (by decide) (by kernel_rfl))⟩)) (fun _=>⟨_,_,_,rfl,rfl,rfl,rfl,rfl,fun F w2 hw hF hV=>aG.nilCheck (hV 26 (by decide) (by decide) (by kernel_rfl))⟩)) (fun _=>⟨_,_,_,rfl,rfl,rfl,rfl,rfl,fun F w2 hw hF hV=>aG.fldC yw (hV 30 (by decide) (by decide) (by kernel_rfl))⟩)) (fun _=>⟨_,_,_,rfl,rfl,rfl,rfl,rfl,fun F w2 hw hF hV=>aG.idxC (i:=(uQ sk i 0).toNat) nc (UInt8.toNat_lt _) (hV 31 (by decide) (by decide) (by kernel_rfl)) (hV 29 (by decide) (by decide) (by kernel_rfl))⟩)) (fun _=>⟨_,_,_,rfl,rfl,rfl,rfl,rfl,fun F w2 hw hF hV=>aG.loadC (hC w2 hw) ch (b_ (by have:=(uQ sk i 0).toNat_lt;omega)) (hV 32 (by decide) (by decide) (by kernel_rfl))⟩)) (fun _=>⟨_,_,_,rfl,rfl,rfl,rfl,rfl,fun F w2 hw hF hV=>aG.build (vs:=[(0,_),(1,_),(2,_),(3,_)]) (mD (hV 9 (by decide) (by decide) (by kernel_rfl)) (mD (hV 17 (by decide) (by decide) (by kernel_rfl)) (mD (hV 25 (by decide) (by decide) (by kernel_rfl)) (mD (hV 33 (by decide) (by decide) (by kernel_rfl)) Az)))) (NQ _ _ _ _ rfl rfl rfl rfl)⟩)) (fun h=>absurd rfl h)
  intro F hF hV h8
  have b4:=b3.both (ob:=.cells (bd (List.replicate 4 0)).toArray 205) f4 (by simp) _ (.inr rfl)
  have cx4:=cx3.both (ob:=.cells (bd (List.replicate 4 0)).toArray 205) f4 (by simp) _ (.inr rfl)
  have hBT:B≠w4.heap.size:=fun e=>by have:=b3.lt;have:=f4.size;omega
  have hCT:C≠w4.heap.size:=fun e=>by have:=cx3.lt;have:=f4.size;omega
  have tT:ed (w4.alloc (.cells (bd (List.replicate 4 0)).toArray 205)) w4.heap.size 205 (bd (List.replicate 4 0)):=heap_alloc_new w4 _
  have fA:=f4.tr (Fr.alloc w4 (.cells (bd (List.replicate 4 0)).toArray 205))
  obtain⟨T,hT⟩ : ∃T,T=w4.heap.size:=⟨_,rfl⟩
  rw[←hT]at hBT hCT tT h8
  refine LW.storeN (vs:=bd (KC to sk pw i)) (n:=4) tT Sl rfl (by decide) (dB _) h8 (hV 34 (by decide) (by decide)) fun w5 f5 t5=>?_
  rw[eO (by decide)]at t5
  have b5:=b4.fr f5 (by simpa using hBT)
  have cx5:=cx4.fr f5 (by simpa using hCT)
  refine LW.nil ?_
  refine EW.seq_n ?_
  refine CW.sub (G:=[(8,.pointer (some ⟨T,0,none⟩)),(5,.int .u8 (pw.toNat:Int)),(6,.int .i64 ((i+1:Nat):Int)),(4,.pointer (some ⟨B,0,none⟩)),(0,.pointer (some ⟨C,0,none⟩))]) ⟨h8,hF 5 _ rfl,hF 6 _ rfl,hF 4 _ rfl,hF 0 _ rfl,trivial⟩ ?_
  refine CW.seq ?_
  refine CW.region ?_
  refine LW.move wn rfl rfl ?_
  refine LW.call ⟨Tryz.f139,Tryz.func139,by kernel_rfl,by kernel_rfl⟩ (AH pw _) wn rfl rfl ?_
  rintro e w' ⟨rfl,rfl⟩
  refine⟨_,rfl,?_⟩
  refine LW.assign wn rfl rfl ?_
  refine LW.nil ?_
  refine EW.seq_n ?_
  refine CW.seq ?_
  refine CW.region ?_
  refine LW.move wn rfl rfl ?_
  refine LW.nil ?_
  refine EW.seq_n ?_
  refine CW.block ?_
  refine CW.loop (fun n F' w'=>∃j,n=16-j∧j≤16∧sub [(59,.int .i64 (j:Int)),(8,.pointer (some ⟨T,0,none⟩)),(5,.int .u8 ((xT pw).toNat:Int)),(6,.int .i64 ((i+1:Nat):Int)),(4,.pointer (some ⟨B,0,none⟩)),(0,.pointer (some ⟨C,0,none⟩))] F'∧Fr [B] w3 w'∧ed w' B 164 (bd (CM (KC to sk pw i) sk i j).2)∧ed w' T 205 (bd (CM (KC to sk pw i) sk i j).1)∧ed w' C TC (bd to)) 16 ⟨0,rfl,by omega,⟨rfl,rfl,rfl,rfl,rfl,rfl,trivial⟩,(fA.trans f5 (fun q hq=>.inr (by have:q=T:=(by simpa using hq);have:=f4.size;omega))).weak,b5,t5,cx5⟩ ?_
  rintro n1 F1 w6 ⟨j,rfl,hj1,hs1',f6,b6,t6,cx6⟩
  refine CW.sub hs1' ?_
  have hl1:(CM (KC to sk pw i) sk i j).1.length=4:=(tE _ _ _ _).1
  have hl2:(CM (KC to sk pw i) sk i j).2.length=176:=by rw[(tE _ _ _ _).2,hsk]
  refine CW.seq ?_
  refine CW.region ?_
  refine LW.st (aG.bin (gQ (a:=j) (b:=16)) rfl rfl rfl) rfl ?_
  refine LW.nil ?_
  refine EW.seq_n ?_
  refine CW.seq ?_
  refine CW.cond (b:=decide (j<16)) rfl (fun hc1=>?_) (fun hc1=>?_)
  ·have hlt1:j<16:=of_decide_eq_true hc1
   refine CW.skip ?_
   refine EW.seq_n ?_
   refine CW.seq ?_
   refine CW.block ?_
   refine CW.seq ?_
   refine CW.region ?_
   refine LW.move wn rfl rfl ?_
   refine LW.assign wn rfl rfl ?_
   refine LW.nil ?_
   refine EW.seq_n ?_
   refine CW.seq ?_
   refine CW.still 12 (by decide) (by kernel_rfl) ?_
   refine LS.st (aG.move rfl) rfl ?_
   refine LS.st (aG.bin (og (a:=j) (b:=4) (by decide)) rfl rfl rfl) rfl ?_
   refine LS.st (aG.idx0 (i:=j%4) M8 (by omega) rfl rfl) rfl ?_
   refine LS.st (aG.loadC (t6.drawn _) ch (b_ (by rw[hl1];omega)) rfl) rfl ?_
   refine LS.st (aG.move rfl) rfl ?_
   refine LS.st (aG.bin (q:=.int .i64 (i:Int)) (lF (a:=i+1) (b:=1) (by omega) (by omega)) rfl rfl rfl) rfl ?_
   refine LS.st (aG.move rfl) rfl ?_
   refine LS.st (aG.idxM (i:=i) Ds (by omega) rfl rfl) rfl ?_
   refine LS.st (aG.idxC (i:=j) pL hlt1 rfl rfl) rfl ?_
   refine LS.st (aG.loadC (b6.drawn _) ch (b_ (by rw[hl2];omega)) rfl) rfl ?_
   refine LS.st (aG.bin (kZ _ _) rfl rfl rfl) rfl ?_
   refine LS.st (aG.idx0 (i:=j%4) M8 (by omega) rfl rfl) rfl ?_
   refine LS.nil ?_
   refine LW.store1 (t6.drawn _) ch (by rw[an,hl1];omega) rfl rfl rfl rfl fun w7 f7 t7=>?_
   rw[iQ]at t7
   have b7:=(b6.drawn _).fr f7 (by simpa using hBT)
   have cx7:=(cx6.drawn _).fr f7 (by simpa using hCT)
   refine LW.nil ?_
   refine EW.seq_n ?_
   refine CW.still 8 (by decide) (by kernel_rfl) ?_
   refine LS.st (aG.move rfl) rfl ?_
   refine LS.st (aG.move rfl) rfl ?_
   refine LS.st (aG.move rfl) rfl ?_
   refine LS.st (aG.bin (og (a:=j) (b:=4) (by decide)) rfl rfl rfl) rfl ?_
   refine LS.st (aG.idx0 (i:=j%4) M8 (by omega) rfl rfl) rfl ?_
   refine LS.st (aG.loadC (t7.drawn _) ch (b_ (by rw[List.length_set,hl1];omega)) rfl) rfl ?_
   refine LS.st (aG.idxM (i:=i+1) Ds (by omega) rfl rfl) rfl ?_
   refine LS.st (aG.idxC (i:=j) pL hlt1 rfl rfl) rfl ?_
   refine LS.nil ?_
   refine LW.store1 (b7.drawn _) ch (by rw[an,hl2];omega) rfl rfl rfl rfl fun w8 f8 b8=>?_
   rw[iQ]at b8
   have t8:=(t7.drawn _).fr f8 (by simpa using hBT.symm)
   have cx8:=(cx7.drawn _).fr f8 (by simpa using hCB)
   refine LW.nil ?_
   refine EW.block_n ?_
   refine EW.seq_n ?_
   refine CW.region ?_
   refine LW.add_lit (c:=((j+1:Nat):Int)) (sD (by omega)) wn rfl rfl rfl ?_
   refine LW.move wn rfl rfl ?_
   refine LW.nil ?_
   have he:=CD (KC to sk pw i) sk i j
   refine EW.join_n ⟨16-(j+1),by omega,j+1,rfl,by omega,⟨rfl,rfl,rfl,rfl,rfl,rfl,trivial⟩,(f6.trans f7.ofDraw (fun q hq=>.inr (by have:q=T:=(by simpa using hq);have:=f4.size;omega))).tr f8.ofDraw,?_,?_,cx8⟩
   ·rw[he];exact b8
   ·rw[he];exact t8
  ·have hge1:j=16:=by have:=of_decide_eq_false hc1;omega
   subst hge1
   refine CW.exit ?_
   refine EW.seq_x ?_
   refine EW.join_x ?_
   refine EW.block_x ?_
   refine EW.block_n ?_
   refine EW.seq_n ?_
   refine CW.region ?_
   refine LW.move wn rfl rfl ?_
   refine LW.add_lit (c:=((i+1+1:Nat):Int)) (sD (by omega)) wn rfl rfl rfl ?_
   refine LW.assign wn rfl rfl ?_
   refine LW.nil ?_
   have hsc1:(yn to key (i+1)).1=(CM (KC to sk pw i) sk i 16).2:=congrArg Prod.fst hsc
   have hsc2:(yn to key (i+1)).2=xT pw:=congrArg Prod.snd hsc
   refine EW.join_n ⟨10-(i+1),by omega,i+1,rfl,by omega,by rw[hsc2];exact⟨rfl,rfl,rfl,rfl,trivial⟩,f3.tr f6,by rw[hsc1];exact b6,cx6⟩
 ·have hge0:i=10:=by have:=of_decide_eq_false hc0;omega
  subst hge0
  refine CW.exit ?_
  refine EW.seq_x ?_
  refine EW.join_x ?_
  refine EW.block_x ?_
  refine EW.seq_n ?_
  refine CW.seq ?_
  refine CW.region ?_
  refine LW.st (aG.loadCn (vs:=bd (yn to key 10).1) b3 LU (by rw[an,lz hk]) (by rw[List.drop_zero,List.take_of_length_le (by rw[an,lz hk];omega)]) rfl) rfl ?_
  refine LW.storeN (vs:=bd (yn to key 10).1) (n:=176) b3 LU (by rw[an,lz hk]) (by rw[an,lz hk];decide) (dB _) rfl rfl fun w9 f9 b9=>?_
  rw[eO (by rw[an,lz hk])]at b9
  refine LW.nil ?_
  refine EW.seq_n ?_
  refine CW.ret ?_
  refine EW.retc rfl (b9.box.rv LU (by rw[an,lz hk];rfl) rfl) ⟨rfl,?_⟩
  exact((f1.trans f2 (fun q hq=>.inr (by have:q=B:=(by simpa using hq);omega))).trans f3 (fun q hq=>.inr (by have:q=B:=(by simpa using hq);omega))).trans f9 (fun q hq=>.inr (by have:q=B:=(by simpa using hq);omega))
set_option maxRecDepth 100000
theorem JK{bs:List UInt8}(h:bs.length=512):Tryz.prog.built 166 [(0,.agg (bd bs).toArray)]=some (bd (bs++List.replicate 176 0)).toArray:=by
 have h1 : ∀vs,Tryz.prog.built 166 vs=Instr.fill (fun i=>([(0,512),(512,176)]:List (Nat×Nat)).toArray[i]?) (bd (List.replicate 688 0)).toArray vs:=fun vs=>by kernel_rfl
 rw[h1,I7 (off:=0) (n:=512) rfl (by rw[an,h]) (by rw[an,List.length_replicate];decide)]
 simp[bd]
theorem HT(to key:List UInt8): ∃l,l=(yn to key 10).1:=⟨_,rfl⟩
noncomputable def Px (to key:List UInt8):List UInt8:=Classical.choose (HT to key)
theorem H2(to key:List UInt8):Px to key=(yn to key 10).1:=Classical.choose_spec (HT to key)
theorem El{to key:List UInt8}(hk:key.length=16):(Px to key).length=176:=by rw[H2,lz hk]
theorem Ju : ∃l,l=vV:=⟨_,rfl⟩
noncomputable def GX:List UInt8:=Classical.choose Ju
theorem J2:GX=vV:=Classical.choose_spec Ju
theorem Fh:GX.length=512:=by rw[J2,vV,mL]
noncomputable def tK (key:List UInt8):List UInt8:=GX++Px (GX++List.replicate 176 0) key
theorem EU{key:List UInt8}(hk:key.length=16):(tK key).length=688:=by rw[tK,List.length_append,Fh,El hk]
theorem AN{w:World}{C TC:Nat}{key to:List UInt8}{kv:Value}(hk:key.length=16)(ht:512≤to.length)(cx:ed w C TC (bd to))(ds:DS w kv key):
  Calls Tryz.prog 111 [.pointer (some ⟨C,0,none⟩),kv].toArray w fun e w'=>e = .returned (.agg (bd (Px to key)).toArray)∧Fr [] w w':=
 (Bu hk ht cx ds).mono fun e w' ⟨h1,h2⟩=>⟨h1.trans (by rw[H2]),h2⟩
theorem u4(w:World):Calls Tryz.prog 110 [].toArray w fun e w'=>e = .returned (.agg (bd GX).toArray)∧Fr [] w w':=
 (wL w).mono fun e w' ⟨h1,h2⟩=>⟨h1.trans (by rw[J2]),h2⟩
theorem I9{w:World}{key:List UInt8}{kv:Value}(hk:key.length=16)(ds:DS w kv key):
  Calls Tryz.prog 86 [kv].toArray w fun e w'=>∃C,e = .returned (.pointer (some ⟨C,0,none⟩))∧w.heap.size≤C∧ed w' C 166 (bd (tK key))∧Fr [] w w':=by
 refine enter Tryz.func86 rfl 16 rfl rfl ?_
 have hbl:=Fh
 refine CW.seq ?_
 refine CW.region ?_
 refine LW.assign wn rfl rfl ?_
 refine LW.nil ?_
 refine EW.seq_n ?_
 refine CW.seq ?_
 refine CW.region ?_
 refine LW.call ⟨Tryz.f110,Tryz.func110,by kernel_rfl,by kernel_rfl⟩ (u4 w) wn rfl rfl ?_
 rintro e w1 ⟨rfl,f1⟩
 refine⟨_,rfl,?_⟩
 refine LW.st (aG.build (vs:=[(0,.agg (bd GX).toArray)]) (mD rfl Az) (JK hbl)) rfl ?_
 refine LW.boxC (bd (GX++List.replicate 176 0)) rfl rfl rfl fun w2 f2 c2 hs2=>?_
 obtain⟨C,hC⟩ : ∃C,C=w1.heap.size:=⟨_,rfl⟩
 rw[←hC]at c2⊢
 have hskl:=El (to:=GX++List.replicate 176 0) hk
 refine LW.assign wn rfl rfl ?_
 refine LW.nil ?_
 refine EW.seq_n ?_
 refine CW.seq ?_
 refine CW.region ?_
 refine LW.move wn rfl rfl ?_
 refine LW.move wn rfl rfl ?_
 refine LW.st (aG.nilCheck rfl) rfl ?_
 refine LW.st (aG.fldC vF rfl) rfl ?_
 refine LW.move wn rfl rfl ?_
 refine LW.call ⟨Tryz.f111,Tryz.func111,by kernel_rfl,by kernel_rfl⟩ (AN hk (by simp[hbl]) c2 ((ds.fr f1).fr f2)) wn rfl rfl ?_
 rintro e w3 ⟨rfl,f3⟩
 refine⟨_,rfl,?_⟩
 have c3:=c2.fr f3 (by simp)
 refine LW.st (aG.nilCheck rfl) rfl ?_
 refine LW.st (aG.fldC QP rfl) rfl ?_
 refine LW.storeN (vs:=bd (Px (GX++List.replicate 176 0) key)) (n:=176) c3 LU (by rw[an,hskl]) (by rw[an];simp[hbl]) (dB _) rfl rfl fun w4 f4 c4=>?_
 have hcc:(bd (GX++List.replicate 176 0)).take (0+512)++bd (Px (GX++List.replicate 176 0) key)++(bd (GX++List.replicate 176 0)).drop (0+512+176)=bd (tK key):=by rw[tK];simp[bd,hbl]
 rw[hcc]at c4
 refine LW.nil ?_
 refine EW.seq_n ?_
 refine CW.seq ?_
 refine CW.region ?_
 refine LW.move wn rfl rfl ?_
 refine LW.assign wn rfl rfl ?_
 refine LW.nil ?_
 refine EW.seq_n ?_
 refine CW.ret ?_
 have h1:=f1.size
 exact EW.ret1 rfl rfl ⟨C,rfl,by omega,c4,((f1.tr f2).tr f3).trans f4 (fun q hq=>.inr (by have:q=C:=(by simpa using hq);omega))⟩
set_option maxRecDepth 100000
theorem GS:Tryz.prog.underlying 132=some (.array (Tryz.prog.arrayLen 132) (Tryz.prog.elem 132)):=by kernel_rfl
theorem FL:Tryz.prog.arrayLen 132=16:=by kernel_rfl
theorem Pt(w:World):(sizeOf (Tryz.prog.elem 132)).run Tryz.prog w = .ok 1 w:=by kernel_rfl
theorem De:tx Tryz.prog 132 5 16 1:=⟨by kernel_rfl,fun w=>by kernel_rfl⟩
theorem JI(f:UInt8):Tryz.prog.built 132 [(0,.int .u8 (f.toNat:Int))]=some (bd (f::List.replicate 15 0)).toArray:=by
 have h : ∀vs,Tryz.prog.built 132 vs=Instr.fill (fun i=>some (i*1,1)) (bd (List.replicate 16 0)).toArray vs:=fun vs=>by kernel_rfl
 rw[h]
 simp[Instr.fill,Value.cells,bd,List.replicate]
theorem Hk:yG Tryz.prog 5 .u8:=by show Tryz.prog.underlying 5=some (.int .u8);kernel_rfl
theorem CH{P:Program}{w:World}{T:TypeId}{k:IntKind}(a:Nat):(binOp .shr T (.int .i64 (a:Int)) (.int k 8)).run P w = .ok (.int .i64 ((a/256:Nat):Int)) w:=by
 rw[binOp_shr,shift_shr_any _ _ _ _ (by omega)]
 have:(a:Int)/2^min (Int.toNat 8) (IntKind.i64.bits)=((a/256:Nat):Int):=by
  rw[show min (Int.toNat 8) (IntKind.i64.bits)=8 by decide];omega
 rw[this];rfl
def Pe(nl:Nat):Nat→List UInt8→Nat→List UInt8
 |0,b,_=>b
 |i+1,b,n=>if nl<i+1∧0<n then Pe nl i (b.set (i+1) (ar (n:Int))) (n/256)else b
theorem Et(nl:Nat): ∀i b n,(Pe nl i b n).length=b.length
 |0,_,_=>rfl
 |i+1,b,n=>by
  unfold Pe
  split
  ·rw[Et nl i,List.length_set]
  ·rfl
def PC(f:UInt8)(nonce:List UInt8):List UInt8:=f::(nonce++List.replicate (15-nonce.length) 0)
theorem Ez{f:UInt8}{nonce:List UInt8}(h:nonce.length≤15):(PC f nonce).length=16:=by simp[PC];omega
def DW(f:UInt8)(nonce:List UInt8)(n:Nat):List UInt8:=Pe nonce.length 15 (PC f nonce) n
theorem oK{f:UInt8}{nonce:List UInt8}{n:Nat}(h:nonce.length≤15):(DW f nonce n).length=16:=by rw[DW,Et,Ez h]
set_option maxHeartbeats 1000000 in
theorem DR{w:World}{f:UInt8}{nonce:List UInt8}{nv:Value}{n:Nat}(h1:1≤nonce.length)(h2:nonce.length≤15)(ds:DS w nv nonce):
  Calls Tryz.prog 113 [.int .u8 (f.toNat:Int),nv,.int .i64 (n:Int)].toArray w fun e w'=>e = .returned (.agg (bd (DW f nonce n)).toArray)∧Fr [] w w':=by
 obtain⟨oa,c,rfl,hlc,hks⟩:=ds.ex
 obtain⟨ad,rfl,hbl,_⟩:=hks 0 _ (r_ (by omega))
 refine enter Tryz.func113 rfl 31 rfl rfl ?_
 refine CW.seq ?_
 refine CW.region ?_
 refine LW.allocC (bd (List.replicate 16 0)) mU rfl rfl fun w1 f1 c1 hs1=>?_
 refine LW.nil ?_
 refine EW.seq_n ?_
 refine CW.seq ?_
 refine CW.region ?_
 refine LW.move wn rfl rfl ?_
 refine LW.st (aG.build (vs:=[(0,.int .u8 (f.toNat:Int))]) (mD rfl Az) (JI f)) rfl ?_
 refine LW.allocC (bd (List.replicate 16 0)) mU rfl rfl fun w2 f2 b2 hs2=>?_
 have r2:=c1.fr f2 (by simp)
 obtain⟨R,hR⟩ : ∃R,R=w.heap.size:=⟨_,rfl⟩
 obtain⟨B,hB⟩ : ∃B,B=w1.heap.size:=⟨_,rfl⟩
 rw[←hR]at r2⊢
 rw[←hB]at b2⊢
 have hRB:R≠B:=by omega
 refine LW.storeN (vs:=bd (f::List.replicate 15 0)) (n:=16) b2 lO (by simp[bd]) (by rw[an];decide) (dB _) rfl rfl fun w3 f3 b3=>?_
 rw[eO (by rw[an];decide)]at b3
 have r3:=r2.fr f3 (by simpa using hRB)
 refine LW.nil ?_
 refine EW.seq_n ?_
 refine CW.seq ?_
 refine CW.region ?_
 refine LW.st (aG.sliceLow (l:=1) GS FL (by decide) Pt rfl rfl) rfl ?_
 refine LW.move wn rfl rfl ?_
 refine LW.copyA (vs:=bd nonce) (n:=nonce.length) b3 fv Og (an _) (by omega) (fun j v hj=>?_) (by rw[an];simp;omega) (dB _) rfl rfl rfl fun w4 f4 b4=>?_
 ·obtain⟨ad2,g1,g2,g3⟩:=hks j v hj
  cases g1
  rw[World.cell?_of_block (w:=w) (by rw[jA];exact((f1.tr f2).trans f3 (fun q hq=>.inr (by have:q=B:=(by simpa using hq);omega))).block _ g2 (by simp))];exact g3
 have hini:(bd (f::List.replicate 15 0)).take (0+1)++bd nonce++(bd (f::List.replicate 15 0)).drop (0+1+nonce.length)=bd (PC f nonce):=by
  have e15:bd (f::List.replicate 15 0) = .int .u8 (f.toNat:Int)::List.replicate 15 (.int .u8 0):=rfl
  have e16:bd (PC f nonce) = .int .u8 (f.toNat:Int)::(bd nonce++List.replicate (15-nonce.length) (.int .u8 0)):=by rw[PC,bd,List.map_cons,List.map_append,List.map_replicate];rfl
  rw[e15,e16,show 0+1+nonce.length=nonce.length+1 by omega,List.drop_succ_cons,List.drop_replicate]
  rfl
 rw[hini]at b4
 have r4:=r3.fr f4 (by simpa using hRB)
 refine LW.nil ?_
 refine EW.seq_n ?_
 refine CW.seq ?_
 refine CW.seq ?_
 refine CW.region ?_
 refine LW.assign wn rfl rfl ?_
 refine LW.nil ?_
 refine EW.seq_n ?_
 refine CW.block ?_
 refine CW.loop (fun n' F' w'=>∃i m b,n'=i∧i≤15∧b.length=16∧Pe nonce.length i b m=DW f nonce n∧sub [(8,.int .i64 (i:Int)),(2,.int .i64 (m:Int)),(1,.slice (some ad) nonce.length c),(6,.pointer (some ⟨R,0,none⟩)),(7,.pointer (some ⟨B,0,none⟩))] F'∧Fr [B] w4 w'∧ed w' B 132 (bd b)∧ed w' R 132 (bd (List.replicate 16 0))) 15 ⟨15,n,_,rfl,by omega,Ez h2,rfl,⟨rfl,rfl,rfl,rfl,rfl,trivial⟩,Fr.refl,b4,r4⟩ ?_
 rintro n0 F0 w5 ⟨i,m,b,rfl,hi15,hbl5,hbk,hs0,f5,b5,r5⟩
 refine CW.sub hs0 ?_
 refine CW.seq ?_
 refine CW.seq ?_
 refine CW.viaR [(21,.bool (decide (nonce.length<n0)&&decide (0<m))),(8,.int .i64 (n0:Int)),(2,.int .i64 (m:Int)),(1,.slice (some ad) nonce.length c),(6,.pointer (some ⟨R,0,none⟩)),(7,.pointer (some ⟨B,0,none⟩))] ?_ ?_
 ·refine LW.move wn rfl rfl ?_
  refine LW.move wn rfl rfl ?_
  refine LW.len fv wn rfl rfl ?_
  refine LW.st (aG.bin (ly (a:=n0) (b:=nonce.length)) rfl rfl rfl) rfl ?_
  refine LW.move wn rfl rfl ?_
  cases hg:decide (nonce.length<n0)with
  |true=>
   refine LW.move (ws 18 rfl rfl) rfl rfl ?_
   refine LW.val rfl (ws 18 rfl rfl) rfl rfl (fun a ha=>dm _ _ _ (ha.eval rfl) (ha.eval rfl) rfl (ly (a:=m) (b:=0))) ?_
   refine LW.pick_t wn rfl rfl rfl ?_
   exact LW.viaNil ⟨rfl,rfl,rfl,rfl,rfl,rfl,trivial⟩
  |false=>
   refine LW.skip 18 rfl rfl rfl rfl ?_
   refine LW.skip 18 rfl rfl rfl rfl ?_
   refine LW.pick_f wn rfl rfl rfl ?_
   exact LW.viaNil ⟨rfl,rfl,rfl,rfl,rfl,rfl,trivial⟩
 refine EW.seq_n ?_
 refine CW.cond (b:=decide (nonce.length<n0)&&decide (0<m)) rfl (fun hc0=>?_) (fun hc0=>?_)
 ·simp only[Bool.and_eq_true,decide_eq_true_eq]at hc0
  obtain⟨hg1,hg2⟩:=hc0
  obtain⟨i2,rfl⟩ : ∃i2,n0=i2+1:=⟨n0-1,by omega⟩
  rw[Pe,if_pos ⟨hg1,hg2⟩]at hbk
  refine CW.skip ?_
  refine EW.seq_n ?_
  refine CW.seq ?_
  refine CW.block ?_
  refine CW.seq ?_
  refine CW.region ?_
  refine LW.move wn rfl rfl ?_
  refine LW.move wn rfl rfl ?_
  refine LW.st (v:=.int .u8 ((ar (m:Int)).toNat:Int)) (fun a ha=>by simp only[execOp,ha.eval (show ev _ (.tmp 25)=some (.int .i64 (m:Int))from rfl),Sem.run_bind,lI (P:=Tryz.prog) (S:=3) (by kernel_rfl) Hk,wrap_u8,Result.andThen_ok,Sem.run_pure]) rfl ?_
  refine LW.st (aG.idx0 (i:=i2+1) De (by omega) rfl rfl) rfl ?_
  refine LW.store1 b5 ch (by rw[an,hbl5];omega) rfl rfl rfl rfl fun w6 f6 b6=>?_
  rw[iQ]at b6
  have r6:=r5.fr f6 (by simpa using hRB)
  refine LW.nil ?_
  refine EW.seq_n ?_
  refine CW.region ?_
  refine LW.move wn rfl rfl ?_
  refine LW.st (aG.bin (CH m) rfl rfl rfl) rfl ?_
  refine LW.assign wn rfl rfl ?_
  refine LW.nil ?_
  refine EW.block_n ?_
  refine EW.seq_n ?_
  refine CW.region ?_
  refine LW.move wn rfl rfl ?_
  refine LW.st (aG.bin (q:=.int .i64 (i2:Int)) (lF (a:=i2+1) (b:=1) (by omega) (by omega)) rfl rfl rfl) rfl ?_
  refine LW.assign wn rfl rfl ?_
  refine LW.nil ?_
  exact EW.join_n ⟨i2,by omega,i2,m/256,_,rfl,by omega,by rw[List.length_set,hbl5],hbk,⟨rfl,rfl,rfl,rfl,rfl,trivial⟩,f5.tr f6,b6,r6⟩
 ·have hst:b=DW f nonce n:=by
   rw[←hbk]
   cases n0 with
   |zero=>rfl
   |succ i2=>
    simp only[Bool.and_eq_false_iff,decide_eq_false_iff_not]at hc0
    rw[Pe,if_neg (by omega)]
  rw[hst]at b5
  refine CW.exit ?_
  refine EW.seq_x ?_
  refine EW.join_x ?_
  refine EW.block_x ?_
  refine EW.seq_n ?_
  refine CW.seq ?_
  refine CW.region ?_
  refine LW.st (aG.loadCn (vs:=bd (DW f nonce n)) b5 lO (by rw[an,oK h2]) (by rw[List.drop_zero,List.take_of_length_le (by rw[an,oK h2];omega)]) rfl) rfl ?_
  refine LW.storeN (vs:=bd (DW f nonce n)) (n:=16) r5 lO (by rw[an,oK h2]) (by rw[an];decide) (dB _) rfl rfl fun w7 f7 r7=>?_
  rw[eO (by rw[an];decide)]at r7
  refine LW.nil ?_
  refine EW.seq_n ?_
  refine CW.ret ?_
  refine EW.retc rfl (r7.box.rv lO (by rw[an,oK h2];rfl) rfl) ⟨rfl,?_⟩
  have hx : ∀{a b:World} {q:Nat},Fr [q] a b→w.heap.size≤q→∀{z:World},Fr [] w a→Fr [] w b:=fun h hq _ h0=>h0.trans h (fun p hp=>.inr (by have:p=_:=(by simpa using hp);omega))
  have e1:=f1.size
  exact hx f7 (by omega) (z:=w) (hx f5 (by omega) (z:=w) (hx f4 (by omega) (z:=w) (hx f3 (by omega) (z:=w) (f1.tr f2))))
set_option maxRecDepth 100000
theorem Jf(cb b:List UInt8): ∃l,l=my cb b 10:=⟨_,rfl⟩
noncomputable def KF (cb b:List UInt8):List UInt8:=Classical.choose (Jf cb b)
theorem Ka(cb b:List UInt8):KF cb b=my cb b 10:=Classical.choose_spec (Jf cb b)
theorem tJ{cb b:List UInt8}(h:b.length=16):(KF cb b).length=16:=by rw[Ka,tf,h]
theorem uf{w:World}{C TC:Nat}{b cb:List UInt8}(hb:b.length=16)(hc:cb.length=688)(cx:ed w C TC (bd cb)):
  Calls Tryz.prog 112 [.pointer (some ⟨C,0,none⟩),.agg (bd b).toArray].toArray w fun e w'=>e = .returned (.agg (bd (KF cb b)).toArray)∧Fr [] w w':=
 (JF hb hc cx).mono fun e w' ⟨h1,h2⟩=>⟨h1.trans (by rw[Ka]),h2⟩
theorem LB(w:World):(sizeOf (Tryz.prog.elem 25)).run Tryz.prog w = .ok 1 w:=by kernel_rfl
theorem Af:Tryz.prog.underlying 25=some (.slice (Tryz.prog.elem 25)):=by kernel_rfl
theorem NO:lX Tryz.prog 130:=⟨fun w=>by kernel_rfl,fun w=>by kernel_rfl⟩
noncomputable def EO (cb:List UInt8):Nat→List UInt8→List UInt8→List UInt8
 |0,x,_=>x
 |n+1,x,b=>if b.length=0 then x else EO cb n (KF cb (nL x b (min b.length 16))) (b.drop (min b.length 16))
theorem mI(cb:List UInt8): ∀n x b,x.length=16→(EO cb n x b).length=16
 |0,x,b,h=>h
 |n+1,x,b,h=>by
  unfold EO
  split
  ·exact h
  ·exact mI cb n _ _ (tJ (by rw[i7,h]))
set_option maxHeartbeats 1000000 in
theorem zH{w:World}{X CB C TC TX TB:Nat}{x0 b0 cb:List UInt8}{oa0:Option Addr}{c0:Nat}(hx0:x0.length=16)(hcl:cb.length=688)(xx:ed w X TX (bd x0))(bx:ed w CB TB [.pointer (some ⟨C,0,none⟩)])(cx:ed w C TC (bd cb))(hCX:C≠X)(hBX:CB≠X)(ds0:DS w (.slice oa0 b0.length c0) b0)(ho0:b0 = []∨yc X oa0):
  Calls Tryz.prog 142 [.slice oa0 b0.length c0,.pointer (some ⟨X,0,none⟩),.pointer (some ⟨CB,0,none⟩)].toArray w fun e w'=>e = .returned (.agg (bd (EO cb (b0.length+1) x0 b0)).toArray)∧Fr [X] w w'∧ed w' X TX (bd (EO cb (b0.length+1) x0 b0)):=by
 refine enter Tryz.func142 rfl 37 rfl rfl ?_
 refine CW.seq ?_
 refine CW.region ?_
 refine LW.allocC (bd (List.replicate 16 0)) mU rfl rfl fun w1 f1 r1 hs1=>?_
 obtain⟨R,hR⟩ : ∃R,R=w.heap.size:=⟨_,rfl⟩
 rw[←hR]at r1⊢
 have hRX:R≠X:=fun e=>by have:=xx.lt;omega
 refine LW.nil ?_
 refine EW.seq_n ?_
 refine CW.seq ?_
 refine CW.block ?_
 refine CW.loop (fun n F' w'=>∃x b fu oa c,n=b.length∧b.length<fu∧x.length=16∧EO cb fu x b=EO cb (b0.length+1) x0 b0∧sub [(0,.slice oa b.length c),(1,.pointer (some ⟨X,0,none⟩)),(2,.pointer (some ⟨CB,0,none⟩)),(4,.pointer (some ⟨R,0,none⟩))] F'∧Fr [X] w1 w'∧(b = []∨yc X oa)∧DS w' (.slice oa b.length c) b∧ed w' X TX (bd x)∧ed w' CB TB [.pointer (some ⟨C,0,none⟩)]∧ed w' C TC (bd cb)∧ed w' R 132 (bd (List.replicate 16 0))) b0.length ⟨x0,b0,b0.length+1,oa0,c0,rfl,by omega,hx0,rfl,⟨rfl,rfl,rfl,rfl,trivial⟩,Fr.refl,ho0,ds0.fr f1,xx.fr f1 (by simp),bx.fr f1 (by simp),cx.fr f1 (by simp),r1⟩ ?_
 rintro n0 F0 w2 ⟨x,b,fu,oa,c,hn0,hfu,hx,htk,hs0,f2,ho,ds2,x2,b2,c2,r2⟩
 refine CW.sub hs0 ?_
 refine CW.seq ?_
 refine CW.seq ?_
 refine CW.region ?_
 refine LW.move wn rfl rfl ?_
 refine LW.len fv wn rfl rfl ?_
 refine LW.st (aG.bin (ly (a:=b.length) (b:=0)) rfl rfl rfl) rfl ?_
 refine LW.nil ?_
 refine EW.seq_n ?_
 refine CW.cond (b:=decide (0<b.length)) rfl (fun hc0=>?_) (fun hc0=>?_)
 ·have hpos:0<b.length:=of_decide_eq_true hc0
  obtain⟨fu2,rfl⟩ : ∃f,fu=f+1:=⟨fu-1,by omega⟩
  rw[EO,if_neg (by omega)]at htk
  refine CW.skip ?_
  refine EW.seq_n ?_
  refine CW.seq ?_
  refine CW.block ?_
  refine CW.seq ?_
  refine CW.seq ?_
  refine CW.region ?_
  refine LW.move wn rfl rfl ?_
  refine LW.move wn rfl rfl ?_
  refine LW.len fv wn rfl rfl ?_
  refine LW.minN (a:=b.length) (b:=16) rfl rfl rfl ?_
  refine LW.st (aG.cutH (h:=min b.length 16) Af LB (by have:=ds2.len.2;omega) rfl rfl) rfl ?_
  refine LW.len fv wn rfl rfl ?_
  refine LW.move wn rfl rfl ?_
  refine LW.nil ?_
  refine EW.seq_n ?_
  refine CW.block ?_
  refine CW.loop (fun n F' w'=>∃i,n=min b.length 16-i∧i≤min b.length 16∧sub [(21,.int .i64 (i:Int)),(20,.int .i64 ((min b.length 16:Nat):Int)),(19,.slice oa (min b.length 16) c),(0,.slice oa b.length c),(1,.pointer (some ⟨X,0,none⟩)),(2,.pointer (some ⟨CB,0,none⟩)),(4,.pointer (some ⟨R,0,none⟩))] F'∧Fr [X] w2 w'∧DS w' (.slice oa b.length c) b∧ed w' X TX (bd (nL x b i))∧ed w' CB TB [.pointer (some ⟨C,0,none⟩)]∧ed w' C TC (bd cb)∧ed w' R 132 (bd (List.replicate 16 0))) (min b.length 16) ⟨0,by omega,by omega,⟨rfl,rfl,rfl,rfl,rfl,rfl,rfl,trivial⟩,Fr.refl,ds2,x2,b2,c2,r2⟩ ?_
  rintro n1 F1 w3 ⟨i,hn1,hi1,hs1',f3,ds3,x3,b3,c3,r3⟩
  refine CW.sub hs1' ?_
  have hxl:(nL x b i).length=16:=by rw[i7,hx]
  refine CW.seq ?_
  refine CW.region ?_
  refine LW.st (aG.bin (gQ (a:=i) (b:=min b.length 16)) rfl rfl rfl) rfl ?_
  refine LW.nil ?_
  refine EW.seq_n ?_
  refine CW.seq ?_
  refine CW.cond (b:=decide (i<min b.length 16)) rfl (fun hc1=>?_) (fun hc1=>?_)
  ·have hlt1:i<min b.length 16:=of_decide_eq_true hc1
   obtain⟨ad,rfl,hcell⟩:=ds3.get (i:=i) (by omega)
   refine CW.skip ?_
   refine EW.seq_n ?_
   refine CW.seq ?_
   refine CW.block ?_
   refine CW.seq ?_
   refine CW.region ?_
   refine LW.move wn rfl rfl ?_
   refine LW.st (aG.idxS (i:=i) fv (fun w=>by kernel_rfl) hlt1 rfl rfl) rfl ?_
   refine LW.st (aG.load ch rfl hcell) rfl ?_
   refine LW.assign wn rfl rfl ?_
   refine LW.assign wn rfl rfl ?_
   refine LW.nil ?_
   refine EW.seq_n ?_
   refine CW.region ?_
   refine LW.move wn rfl rfl ?_
   refine LW.st (aG.idx0 (i:=i) De (by omega) rfl rfl) rfl ?_
   refine LW.st (aG.loadC x3 ch (b_ (by rw[hxl];omega)) rfl) rfl ?_
   refine LW.move wn rfl rfl ?_
   refine LW.st (aG.bin (kZ _ _) rfl rfl rfl) rfl ?_
   refine LW.st (aG.idx0 (i:=i) De (by omega) rfl rfl) rfl ?_
   refine LW.store1 x3 ch (by rw[an,hxl];omega) rfl rfl rfl rfl fun w4 f4 x4=>?_
   rw[iQ,←nA]at x4
   refine LW.nil ?_
   refine EW.block_n ?_
   refine EW.seq_n ?_
   refine CW.region ?_
   refine LW.add_lit (c:=((i+1:Nat):Int)) (sD (by omega)) wn rfl rfl rfl ?_
   refine LW.move wn rfl rfl ?_
   refine LW.nil ?_
   exact EW.join_n ⟨n1-1,by omega,i+1,by omega,by omega,⟨rfl,rfl,rfl,rfl,rfl,rfl,rfl,trivial⟩,f3.tr f4,ds3.frO f4 ho,x4,b3.fr f4 (by simpa using hBX),c3.fr f4 (by simpa using hCX),r3.fr f4 (by simpa using hRX)⟩
  ·have hge1:i=min b.length 16:=by have:=of_decide_eq_false hc1;omega
   subst hge1
   refine CW.exit ?_
   refine EW.seq_x ?_
   refine EW.join_x ?_
   refine EW.block_x ?_
   refine EW.seq_n ?_
   refine CW.region ?_
   refine LW.st (aG.loadC b3 NO rfl rfl) rfl ?_
   refine LW.st (aG.loadCn x3 lO (by rw[an,hxl]) (eT hxl) rfl) rfl ?_
   refine LW.call ⟨Tryz.f112,Tryz.func112,by kernel_rfl,by kernel_rfl⟩ (uf hxl hcl c3) wn rfl rfl ?_
   rintro e5 w5 ⟨rfl,f5⟩
   refine⟨_,rfl,?_⟩
   have x5:=x3.fr f5 (by simp)
   refine LW.storeN (n:=16) x5 lO (by rw[an,tJ hxl]) (by rw[an,hxl];decide) (dB _) rfl rfl fun w6 f6 x6=>?_
   rw[eO (by rw[an,hxl])]at x6
   refine LW.nil ?_
   refine EW.block_n ?_
   refine EW.seq_n ?_
   refine CW.region ?_
   refine LW.move wn rfl rfl ?_
   refine LW.move wn rfl rfl ?_
   refine LW.len fv wn rfl rfl ?_
   refine LW.minN (a:=b.length) (b:=16) rfl rfl rfl ?_
   refine LW.st (aG.cutL (l:=min b.length 16) Af LB (by omega) rfl rfl) rfl ?_
   refine LW.assign wn rfl rfl ?_
   refine LW.nil ?_
   have f36:=f3.tr (f5.weak.tr f6)
   have hd:(b.drop (min b.length 16)).length=b.length-min b.length 16:=List.length_drop
   refine EW.join_n ⟨(b.drop (min b.length 16)).length,by omega,KF cb (nL x b (min b.length 16)),b.drop (min b.length 16),fu2,(if c=min b.length 16 then oa else oa.map (·.add (min b.length 16*1))),(c-min b.length 16),rfl,by omega,tJ hxl,htk,?_,f2.tr f36,.inr (yc.drop (ho.resolve_left (fun e=>by rw[e]at hpos;exact absurd hpos (by decide)))),?_,x6,(b3.fr f5 (by simp)).fr f6 (by simpa using hBX),(c3.fr f5 (by simp)).fr f6 (by simpa using hCX),(r3.fr f5 (by simp)).fr f6 (by simpa using hRX)⟩
   ·rw[hd];exact⟨rfl,rfl,rfl,rfl,trivial⟩
   ·rw[hd];exact((ds3.fr f5).frO f6 ho).drop (by omega)
 ·have hz:b.length=0:=by have:=of_decide_eq_false hc0;omega
  obtain⟨fu2,rfl⟩ : ∃f,fu=f+1:=⟨fu-1,by omega⟩
  rw[EO,if_pos hz]at htk
  rw[htk]at x2
  refine CW.exit ?_
  refine EW.seq_x ?_
  refine EW.join_x ?_
  refine EW.block_x ?_
  refine EW.seq_n ?_
  refine CW.seq ?_
  refine CW.region ?_
  refine LW.st (aG.loadCn (vs:=bd (EO cb (b0.length+1) x0 b0)) x2 lO (by rw[an,mI cb _ _ _ hx0]) (eT (mI cb _ _ _ hx0)) rfl) rfl ?_
  refine LW.storeN (n:=16) r2 lO (by rw[an,mI cb _ _ _ hx0]) (by rw[an];decide) (dB _) rfl rfl fun w7 f7 r7=>?_
  rw[eO (by rw[an];decide)]at r7
  have x7:=x2.fr f7 (by simpa using hRX.symm)
  refine LW.nil ?_
  refine EW.seq_n ?_
  refine CW.ret ?_
  refine EW.retc rfl (r7.box.rv lO (by rw[an,mI cb _ _ _ hx0];rfl) rfl) ⟨rfl,?_,x7⟩
  exact(f1.weak.tr f2).trans f7 (fun q hq=>.inr (by have:q=R:=(by simpa using hq);omega))
end Go.Proofs.YthejfljhiaeoeaaGreatDoor
