/- A part of the proof of TopChain. No condition. -/
import Derived.Test.YtimjjookppejeaaGreatDoorW5
namespace Go.Proofs.YtimjjookppejeaaGreatDoor
open Go.Gk Go.RowKit
set_option maxRecDepth 100000
noncomputable section
def MM{R:Type}(x y:Option R):Prop:=∀r,x=some r→y=some r
theorem MM.refl{R:Type}(x:Option R):MM x x:=fun _ h=>h
theorem mb{R α:Type}{m m':Option α}{K K':α→Option R}(h:MM m m')(k : ∀x,MM (K x) (K' x)):MM (bnd m K) (bnd m' K'):=by
 intro r hr
 cases m with
 |none=>cases hr
 |some x=>rw[h x rfl];exact k x r hr
theorem LC{R α:Type}{e:α}{K K':α→Option R}(k : ∀x,MM (K x) (K' x)):MM (letm e K) (letm e K'):=k e
theorem mc{R:Type}{c:Bool}{x y x' y':Option R}(h1:MM x x')(h2:MM y y'):MM (cond c x y) (cond c x' y'):=by
 cases c
 ·exact h2
 ·exact h1
theorem mL{R S α:Type}{bn bn':Nat→S→Option R}{bs bs':α→Nat→S→(S→Option R)→Option R}(hn : ∀k s,MM (bn k s) (bn' k s))(hs : ∀x k s f f',(∀t,MM (f t) (f' t))→MM (bs x k s f) (bs' x k s f')): ∀(xs:List α) (k:Nat) (s:S),MM (cS bn bs xs k s) (cS bn' bs' xs k s)
 | [],k,s=>hn k s
 |x::xs,k,s=>hs x k s _ _ fun t=>mL hn hs xs (k+1) t
theorem mF{R S:Type}{b b':(S→Option R)→S→Option R}(hb : ∀f f' s,(∀t,MM (f t) (f' t))→MM (b f s) (b' f' s)): ∀(n:Nat) (s:S),MM (aM b n s) (aM b' n s)
 |0,s=>MM.refl _
 |n+1,s=>hb _ _ s fun t=>mF hb n t
def J5(x:av):List av→List av
 | []=>[x]
 |y::l=>bif nD x y then x::y::l else y::J5 x l
def EP:List av→List av
 | []=>[]
 |x::l=>J5 x (EP l)
def HO:List av→Bool
 | []=>true
 |x::l=>l.all (nD x)&&HO l
theorem yH(x:av): ∀l,(J5 x l).Perm (x::l)
 | []=>List.Perm.refl _
 |y::l=>by
  unfold J5
  cases nD x y with
  |true=>exact List.Perm.refl _
  |false=>exact((yH x l).cons y).trans (List.Perm.swap x y l)
theorem yG : ∀l,(EP l).Perm l
 | []=>List.Perm.refl _
 |x::l=>(yH x _).trans ((yG l).cons x)
theorem D7 : ∀{l},HO l=true→l.Pairwise fun a b=>Lib.compareBytes a.1 b.1<0
 | [],_=>List.Pairwise.nil
 |x::l,h=>by
  unfold HO at h
  rw[Bool.and_eq_true,List.all_eq_true]at h
  exact List.pairwise_cons.2 ⟨fun y hy=>of_decide_eq_true (h.1 y hy),D7 h.2⟩
theorem Bm{α:Type}{R:α→α→Prop}: ∀{l:List α},l.Pairwise R→∀{a b:α},a∈l→b∈l→a=b∨R a b∨R b a
 | [],_,a,b,ha,_=>by cases ha
 |x::l,h,a,b,ha,hb=>by
  rw[List.pairwise_cons]at h
  rcases List.mem_cons.1 ha with e1 |ha'<;>rcases List.mem_cons.1 hb with e2 |hb'
  ·exact .inl (e1.trans e2.symm)
  ·exact .inr (.inl (e1▸h.1 _ hb'))
  ·exact .inr (.inr (e2▸h.1 _ ha'))
  ·exact Bm h.2 ha' hb'
theorem I7{P S ys:List av}(hp:S.Perm P)(h:S.Pairwise fun a b=>Lib.compareBytes a.1 b.1<0)(hy:j6 P ys):ys=S:=by
 obtain⟨hp2,hs⟩:=hy
 refine List.Perm.eq_of_pairwise (le:=fun a b=>nD b a=false) (fun a b ha hb h1 h2=>?_) hs ?_ (hp2.trans hp.symm)
 ·have g1:=of_decide_eq_false h1
  have g2:=of_decide_eq_false h2
  have g3:=pm a.1 b.1
  have ha:=(hp2.trans hp.symm).mem_iff.1 ha
  rcases Bm h ha hb with e |e |e
  ·exact e
  ·omega
  ·omega
 ·refine h.imp fun{a b} hab=>decide_eq_false ?_
  have:=pm a.1 b.1
  omega
def LI{R:Type}(P:List av)(K:List av→Option R):Option R:=bif HO (EP P)then K (EP P)else none
theorem ld{R:Type}{P:List av}{K K':List av→Option R}(hk : ∀x,MM (K x) (K' x)):MM (LI P K) (AL (j6 P) K'):=by
 intro r hr
 unfold LI at hr
 cases hc:HO (EP P)with
 |false=>rw[hc]at hr;cases hr
 |true=>
  rw[hc]at hr
  have h1:=D7 hc
  have h2:=yG P
  have hx : ∃r,∀y,j6 P y→K' y=some r:=⟨r,fun y hy=>by rw[I7 h2 h1 hy];exact hk _ r hr⟩
  have hS:j6 P (EP P):=⟨h2,h1.imp fun{a b} hab=>decide_eq_false (by have:=pm a.1 b.1;omega)⟩
  have e:AL (j6 P) K'=some (Classical.choose hx):=dif_pos hx
  rw[e,←Classical.choose_spec hx _ hS]
  exact hk _ r hr
def lS(a0:(List Go.Gk.Tr)):Option (Go.Gk.Tr×Int):=
 bnd (Gk.rem (a0.length:Int) 2) fun x1=>
 letm ((x1==1)) fun x2=>
 cond x2 (some ((Tr.mk 0 0 [] []),1))
 (cS (R:=(Go.Gk.Tr×Int)) (S:=Go.Gk.Tr) (α:=Go.Gk.Tr) (fun _ s4=>
 bnd (quo (a0.length:Int) 2) fun x5=>
 bnd (GS x5 ([],((Tr.mk 0 0 [] []),(Tr.mk 0 0 [] [])))) fun x6=>
 aM (R:=(Go.Gk.Tr×Int)) (S:=(Int×((List av)×(List av)))) (fun self8 s7=>
 letm (decide (s7.1<(a0.length:Int))) fun x9=>
 cond x9 (bnd (az a0 s7.1) fun x10=>
 bnd (bS [] x10) fun x11=>
 bnd (az a0 s7.1) fun x12=>
 letm ((aP (s7.1+1))) fun x13=>
 bnd (az a0 x13) fun x14=>
 bnd (app s7.2.2 [(x11,(x12,x14))]) fun x15=>
 letm ((aP (s7.1+2))) fun x16=>
 self8 (x16,(s7.2.1,x15)))
 (cond (Nat.ble (List.length s7.2.2) 4294967296) (LI s7.2.2 fun v17=>
 cS (R:=(Go.Gk.Tr×Int)) (S:=(Go.Gk.Tr×(Go.Gk.Tr×(List Go.Gk.Tr)))) (α:=av) (fun _ s19=>
 bnd (aG (Tr.mk s19.2.1.k s19.2.1.n s19.2.1.b s19.2.2)) fun x20=>
 letm ((!x20)) fun x21=>
 cond x21 (some ((Tr.mk 0 0 [] []),8))
 (bnd (ec (Tr.mk s19.2.1.k s19.2.1.n s19.2.1.b s19.2.2)) fun x22=>
 some (x22,0)))
 (fun x23 k24 s25 self26=>
 bnd (β:=Bool) (letm (decide (0<(k24:Int))) fun x27=>
 cond x27 (letm ((aP ((k24:Int)-1))) fun x28=>
 bnd (az v17 x28) fun x29=>
 bnd (ci x29.1 x23.1) fun x30=>
 some x30)
 (some false)) fun v31=>
 cond v31 (some ((Tr.mk 0 0 [] []),7))
 (bnd (app s25.2.2 [x23.2.1,x23.2.2]) fun x32=>
 self26 (s25.1,(s25.2.1,x32)))) v17 0 (s4,((Tr.mk 5 0 [] []),[]))) none)) bk (0,([],x6)))
 (fun x33 _ s35 self36=>
 bnd (aG x33) fun x37=>
 letm ((!x37)) fun x38=>
 cond x38 (some ((Tr.mk 0 0 [] []),1))
 (self36 s35)) a0 0 (Tr.mk 0 0 [] []))
def tu(a0:(List Go.Gk.Tr)):Option ((Go.Gk.Tr×(List Go.Gk.Tr))×Int):=
 bnd (Gk.rem (a0.length:Int) 2) fun x1=>
 letm ((x1==1)) fun x2=>
 cond x2 (none)
 (cS (R:=((Go.Gk.Tr×(List Go.Gk.Tr))×Int)) (S:=Go.Gk.Tr) (α:=Go.Gk.Tr) (fun _ s4=>
 bnd (quo (a0.length:Int) 2) fun x5=>
 bnd (GS x5 ([],((Tr.mk 0 0 [] []),(Tr.mk 0 0 [] [])))) fun x6=>
 aM (R:=((Go.Gk.Tr×(List Go.Gk.Tr))×Int)) (S:=(Int×((List av)×(List av)))) (fun self8 s7=>
 letm (decide (s7.1<(a0.length:Int))) fun x9=>
 cond x9 (bnd (az a0 s7.1) fun x10=>
 bnd (bS [] x10) fun x11=>
 bnd (az a0 s7.1) fun x12=>
 letm ((aP (s7.1+1))) fun x13=>
 bnd (az a0 x13) fun x14=>
 bnd (app s7.2.2 [(x11,(x12,x14))]) fun x15=>
 letm ((aP (s7.1+2))) fun x16=>
 self8 (x16,(s7.2.1,x15)))
 (cond (Nat.ble (List.length s7.2.2) 4294967296) (LI s7.2.2 fun v17=>
 cS (R:=((Go.Gk.Tr×(List Go.Gk.Tr))×Int)) (S:=(Go.Gk.Tr×(Go.Gk.Tr×(List Go.Gk.Tr)))) (α:=av) (fun _ s19=>
 bnd (aG (Tr.mk s19.2.1.k s19.2.1.n s19.2.1.b s19.2.2)) fun x20=>
 letm ((!x20)) fun x21=>
 cond x21 (none)
 (bnd (kB (Tr.mk s19.2.1.k s19.2.1.n s19.2.1.b s19.2.2)) fun x22=>
 some ((x22.1,x22.2),0)))
 (fun x23 k24 s25 self26=>
 bnd (β:=Bool) (letm (decide (0<(k24:Int))) fun x27=>
 cond x27 (letm ((aP ((k24:Int)-1))) fun x28=>
 bnd (az v17 x28) fun x29=>
 bnd (ci x29.1 x23.1) fun x30=>
 some x30)
 (some false)) fun v31=>
 cond v31 (none)
 (bnd (app s25.2.2 [x23.2.1,x23.2.2]) fun x32=>
 self26 (s25.1,(s25.2.1,x32)))) v17 0 (s4,((Tr.mk 5 0 [] []),[]))) none)) bk (0,([],x6)))
 (fun x33 _ s35 self36=>
 bnd (aG x33) fun x37=>
 letm ((!x37)) fun x38=>
 cond x38 (none)
 (self36 s35)) a0 0 (Tr.mk 0 0 [] []))
theorem iN(a:List Tr):MM (lS a) (dY a):=by
 unfold lS dY
 repeat' first |with_reducible exact MM.refl _ |with_reducible assumption | (with_reducible refine mb ?_ (fun _=>?_)) | (with_reducible refine LC (fun _=>?_)) | (with_reducible refine mc ?_ ?_) | (with_reducible refine mL (fun _ _=>?_) (fun _ _ _ _ _ _=>?_) _ _ _) | (with_reducible refine mF (fun _ _ _ _=>?_) _ _) | (with_reducible refine ld (fun _=>?_)) |solve_by_elim
theorem fN(a:List Tr):MM (tu a) (jh a):=by
 unfold tu jh
 repeat' first |with_reducible exact MM.refl _ |with_reducible assumption | (with_reducible refine mb ?_ (fun _=>?_)) | (with_reducible refine LC (fun _=>?_)) | (with_reducible refine mc ?_ ?_) | (with_reducible refine mL (fun _ _=>?_) (fun _ _ _ _ _ _=>?_) _ _ _) | (with_reducible refine mF (fun _ _ _ _=>?_) _ _) | (with_reducible refine ld (fun _=>?_)) |solve_by_elim
def vh(a0:aY):Option (Go.Gk.Tr×Int):=
 bnd (l_ a0) fun x1=>
 letm ((!x1)) fun x2=>
 cond x2 (some ((Tr.mk 0 0 [] []),1))
 (bnd (pa a0) fun x3=>
 bnd (lS x3) fun x4=>
 some (x4.1,x4.2))
theorem fK(a:aY):MM (vh a) (eX a):=by
 unfold vh eX
 repeat' first |with_reducible exact iN _ |with_reducible exact fN _ |with_reducible exact MM.refl _ |with_reducible assumption | (with_reducible refine mb ?_ (fun _=>?_)) | (with_reducible refine LC (fun _=>?_)) | (with_reducible refine mc ?_ ?_) | (with_reducible refine mL (fun _ _=>?_) (fun _ _ _ _ _ _=>?_) _ _ _) | (with_reducible refine mF (fun _ _ _ _=>?_) _ _) | (with_reducible refine ld (fun _=>?_)) |solve_by_elim
def Ap(a0:aq):Option Go.Gk.Tr:=
 bnd (vh a0.2.2.2.2) fun x1=>
 bnd (ax 1) fun x2=>
 bnd (lS [x2,x1.1]) fun x3=>
 bnd (ax 2) fun x4=>
 bnd (iP a0.2.1) fun x5=>
 bnd (ax 8) fun x6=>
 bnd (β:=(List Go.Gk.Tr)) (letm ((a0.1 != [])) fun x7=>
 cond x7 (bnd (ax 1) fun x8=>
 bnd (iP a0.1) fun x9=>
 bnd (app [x4,x5,x6,x3.1] [x8,x9]) fun x10=>
 some x10)
 (some [x4,x5,x6,x3.1])) fun v11=>
 bnd (β:=(List Go.Gk.Tr)) (letm ((a0.2.2.2.1 != 0)) fun x12=>
 cond x12 (bnd (ax 4) fun x13=>
 bnd (ax a0.2.2.2.1) fun x14=>
 bnd (app v11 [x13,x14]) fun x15=>
 some x15)
 (some v11)) fun v16=>
 bnd (β:=(List Go.Gk.Tr)) (letm ((a0.2.2.1 != 0)) fun x17=>
 cond x17 (bnd (ax 5) fun x18=>
 bnd (ax a0.2.2.1) fun x19=>
 bnd (app v16 [x18,x19]) fun x20=>
 some x20)
 (some v16)) fun v21=>
 bnd (lS v21) fun x22=>
 some x22.1
theorem lg(a:aq):MM (Ap a) (iT a):=by
 unfold Ap iT
 repeat' first |with_reducible exact iN _ |with_reducible exact fN _ |with_reducible exact fK _ |with_reducible exact MM.refl _ |with_reducible assumption | (with_reducible refine mb ?_ (fun _=>?_)) | (with_reducible refine LC (fun _=>?_)) | (with_reducible refine mc ?_ ?_) | (with_reducible refine mL (fun _ _=>?_) (fun _ _ _ _ _ _=>?_) _ _ _) | (with_reducible refine mF (fun _ _ _ _=>?_) _ _) | (with_reducible refine ld (fun _=>?_)) |solve_by_elim
def BJ(a0:aq):Option ((List UInt8)×Int):=
 bnd (cM a0) fun x1=>
 letm ((!x1)) fun x2=>
 cond x2 (some ([],1))
 (bnd (Ap a0) fun x3=>
 bnd (cg x3) fun x4=>
 some (x4.1,x4.2))
theorem mo(a:aq):MM (BJ a) (cZ a):=by
 unfold BJ cZ
 repeat' first |with_reducible exact iN _ |with_reducible exact fN _ |with_reducible exact fK _ |with_reducible exact lg _ |with_reducible exact MM.refl _ |with_reducible assumption | (with_reducible refine mb ?_ (fun _=>?_)) | (with_reducible refine LC (fun _=>?_)) | (with_reducible refine mc ?_ ?_) | (with_reducible refine mL (fun _ _=>?_) (fun _ _ _ _ _ _=>?_) _ _ _) | (with_reducible refine mF (fun _ _ _ _=>?_) _ _) | (with_reducible refine ld (fun _=>?_)) |solve_by_elim
def nL(a0:Go.Gk.Tr):Option (Go.Gk.Tr×(List Go.Gk.Tr)):=
 bnd (tu a0.l) fun x1=>
 some (x1.1.1,x1.1.2)
theorem mI(a:Tr):MM (nL a) (eR a):=by
 unfold nL eR
 repeat' first |with_reducible exact iN _ |with_reducible exact fN _ |with_reducible exact fK _ |with_reducible exact lg _ |with_reducible exact mo _ |with_reducible exact MM.refl _ |with_reducible assumption | (with_reducible refine mb ?_ (fun _=>?_)) | (with_reducible refine LC (fun _=>?_)) | (with_reducible refine mc ?_ ?_) | (with_reducible refine mL (fun _ _=>?_) (fun _ _ _ _ _ _=>?_) _ _ _) | (with_reducible refine mF (fun _ _ _ _=>?_) _ _) | (with_reducible refine ld (fun _=>?_)) |solve_by_elim
def GQ(a0:aw)(a1:Bool)(a2:Int)(a3:Go.Gk.Tr):Option (aw×Int):=
 bnd (β:=Bool) (bnd (cz a0) fun x4=>
 letm ((!x4)) fun x5=>
 cond x5 (some true)
 (bnd (aG a3) fun x6=>
 letm ((!x6)) fun x7=>
 some x7)) fun v8=>
 cond v8 (some (((Tr.mk 0 0 [] []),(Tr.mk 0 0 [] [])),1))
 (bnd (gb a0 a2) fun x9=>
 cond x9.2 (some (((Tr.mk 0 0 [] []),(Tr.mk 0 0 [] [])),7))
 (bnd (nL a0.1) fun x10=>
 bnd (nL a0.2) fun x11=>
 cond a1 (bnd (ax a2) fun x12=>
 bnd (app x10.2 [x12,a3]) fun x13=>
 bnd (lS x13) fun x14=>
 bnd (β:=Bool) (letm ((x14.2 != 0)) fun x15=>
 cond x15 (some true)
 (bnd (cz (x14.1,(Tr.mk x11.1.k x11.1.n x11.1.b x11.2))) fun x16=>
 letm ((!x16)) fun x17=>
 some x17)) fun v18=>
 cond v18 (some (((Tr.mk 0 0 [] []),(Tr.mk 0 0 [] [])),4))
 (some ((x14.1,(Tr.mk x11.1.k x11.1.n x11.1.b x11.2)),0)))
 (bnd (ax a2) fun _=>
 none)))
theorem AM(a:aw)(b:Bool)(c:Int)(d:Tr):MM (GQ a b c d) (kV a b c d):=by
 unfold GQ kV
 repeat' first |with_reducible exact iN _ |with_reducible exact fN _ |with_reducible exact fK _ |with_reducible exact lg _ |with_reducible exact mo _ |with_reducible exact mI _ |with_reducible exact MM.refl _ |with_reducible assumption | (with_reducible refine mb ?_ (fun _=>?_)) | (with_reducible refine LC (fun _=>?_)) | (with_reducible refine mc ?_ ?_) | (with_reducible refine mL (fun _ _=>?_) (fun _ _ _ _ _ _=>?_) _ _ _) | (with_reducible refine mF (fun _ _ _ _=>?_) _ _) | (with_reducible refine ld (fun _=>?_)) |solve_by_elim
def yF:Option aw:=
 bnd (jv) fun x0=>
 bnd (ax (-8)) fun x1=>
 bnd (GQ x0 true 1 x1) fun x2=>
 some x2.1
theorem rO:MM (yF) (fI):=by
 unfold yF fI
 repeat' first |with_reducible exact iN _ |with_reducible exact fN _ |with_reducible exact fK _ |with_reducible exact lg _ |with_reducible exact mo _ |with_reducible exact mI _ |with_reducible exact AM _ _ _ _ |with_reducible exact MM.refl _ |with_reducible assumption | (with_reducible refine mb ?_ (fun _=>?_)) | (with_reducible refine LC (fun _=>?_)) | (with_reducible refine mc ?_ ?_) | (with_reducible refine mL (fun _ _=>?_) (fun _ _ _ _ _ _=>?_) _ _ _) | (with_reducible refine mF (fun _ _ _ _=>?_) _ _) | (with_reducible refine ld (fun _=>?_)) |solve_by_elim
def DI(a0:aw):Option aw:=
 bnd (lS a0.1.l) fun x1=>
 bnd (lS a0.2.l) fun x2=>
 some (x1.1,x2.1)
theorem Co(a:aw):MM (DI a) (jl a):=by
 unfold DI jl
 repeat' first |with_reducible exact iN _ |with_reducible exact fN _ |with_reducible exact fK _ |with_reducible exact lg _ |with_reducible exact mo _ |with_reducible exact mI _ |with_reducible exact AM _ _ _ _ |with_reducible exact rO |with_reducible exact MM.refl _ |with_reducible assumption | (with_reducible refine mb ?_ (fun _=>?_)) | (with_reducible refine LC (fun _=>?_)) | (with_reducible refine mc ?_ ?_) | (with_reducible refine mL (fun _ _=>?_) (fun _ _ _ _ _ _=>?_) _ _ _) | (with_reducible refine mF (fun _ _ _ _=>?_) _ _) | (with_reducible refine ld (fun _=>?_)) |solve_by_elim
end
set_option maxRecDepth 100000
noncomputable section
theorem uA{α:Type}{c:Bool}{x y r:Option α}(h:c=false)(h2:y=r):cond c x y=r:=by subst h;exact h2
theorem Kg{α:Type}{c:Bool}{x y r:Option α}(h:c=true)(h2:x=r):cond c x y=r:=by subst h;exact h2
def uQ:aw:=(Tr.mk 5 0 [] [Tr.mk 0 1 [] [],Tr.mk 1 7 [] []],Tr.mk 5 0 [] [])
theorem Mm:fI=some uQ:=rO _ (by kernel_rfl)
theorem yd:cz uQ=some true:=by kernel_rfl
theorem EA:k_ uQ=some (-8):=by kernel_rfl
theorem Be:dw uQ=some ([161,1,39],0):=by kernel_rfl
theorem Kz:jl uQ=some uQ:=Co _ _ (by kernel_rfl)
def qL(c:Nat)(x:List UInt8):Tr:=Tr.mk 5 0 [] [Tr.mk 0 1 [] [],Tr.mk 0 1 [] [],Tr.mk 1 0 [] [],Tr.mk 0 (UInt64.ofNat c) [] [],Tr.mk 1 1 [] [],Tr.mk 2 0 x []]
def Fe(c:Nat)(x:List UInt8):Tr:=Tr.mk 5 0 [] [Tr.mk 0 1 [] [],qL c x]
def xp(c:Nat)(x:List UInt8):aY:=(1,((c:Int),(0,([],(x,([],[]))))))
def DZ(ti:aY→Option (Tr×Int))(cmp:Tr→Tr→Option Int)(a0:Go.Gk.Tr):Option (aY×Int):=
 bnd (aG a0) fun x1=>
 letm ((!x1)) fun x2=>
 cond x2 (some ((0,(0,(0,([],([],([],[])))))),1))
 (letm ((a0.k != 5)) fun x3=>
 cond x3 (some ((0,(0,(0,([],([],([],[])))))),12))
 (aM (R:=(aY×Int)) (S:=(Int×(aY×aY))) (fun self5 s4=>
 letm (decide (s4.1<(a0.l.length:Int))) fun x6=>
 cond x6 (mG (ρ:=(aY×Int)) (ρ':=(aY×Int)) (Y:=(aY×aY)) (bnd (az a0.l s4.1) fun x7=>
 bnd (jp x7) fun x8=>
 letm ((aP (s4.1+1))) fun x9=>
 bnd (az a0.l x9) fun x10=>
 bnd (jp x10) fun x11=>
 bnd (β:=Bool) (cond x8.2 (cond x11.2 (cond (x8.1==1) (letm ((!false)) fun x12=>
 some x12)
 (cond (x8.1==3) (letm ((!false)) fun x13=>
 some x13)
 (cond (x8.1==(-1)) (letm ((!false)) fun x14=>
 some x14)
 (letm ((!true)) fun x15=>
 some x15))))
 (some false))
 (some false)) fun v16=>
 cond v16 (cond (x8.1==1) (some (.inr (s4.2.1,(x11.1,s4.2.2.2))))
 (cond (x8.1==3) (some (.inr (s4.2.1,(s4.2.2.1,(s4.2.2.2.1,(x11.1,s4.2.2.2.2.2))))))
 (cond (x8.1==(-1)) (some (.inr (s4.2.1,(s4.2.2.1,(x11.1,s4.2.2.2.2)))))
 (none))))
 (cond (x8.1==2) (bnd (β:=Bool) (cond x8.2 (letm ((!false)) fun x17=>
 cond x17 (letm ((x10.k==2)) fun x18=>
 some x18)
 (some false))
 (some false)) fun v19=>
 cond v19 (bnd (aI x10.b) fun x20=>
 some (.inr (s4.2.1,(s4.2.2.1,(s4.2.2.2.1,(s4.2.2.2.2.1,(x20,s4.2.2.2.2.2.2)))))))
 (some (.inl ((0,(0,(0,([],([],([],[])))))),12))))
 (cond (x8.1==(-1)) (bnd (β:=Bool) (cond x8.2 (letm ((!false)) fun x21=>
 cond x21 (letm ((x10.k==2)) fun x22=>
 some x22)
 (some false))
 (some false)) fun v23=>
 cond v23 (bnd (aI x10.b) fun x24=>
 some (.inr (s4.2.1,(s4.2.2.1,(s4.2.2.2.1,(s4.2.2.2.2.1,(s4.2.2.2.2.2.1,(s4.2.2.2.2.2.2.1,(s4.2.2.2.2.2.2.2.1,x24)))))))))
 (some (.inl ((0,(0,(0,([],([],([],[])))))),12))))
 (cond (x8.1==(-2)) (bnd (β:=Bool) (cond x8.2 (letm ((!false)) fun x25=>
 cond x25 (letm ((x10.k==2)) fun x26=>
 some x26)
 (some false))
 (some false)) fun v27=>
 cond v27 (bnd (aI x10.b) fun x28=>
 some (.inr (s4.2.1,(s4.2.2.1,(s4.2.2.2.1,(s4.2.2.2.2.1,(s4.2.2.2.2.2.1,(x28,s4.2.2.2.2.2.2.2))))))))
 (some (.inl ((0,(0,(0,([],([],([],[])))))),12))))
 (cond (x8.1==(-4)) (bnd (β:=Bool) (cond x8.2 (letm ((!false)) fun x29=>
 cond x29 (letm ((x10.k==2)) fun x30=>
 some x30)
 (some false))
 (some false)) fun v31=>
 cond v31 (bnd (aI x10.b) fun x32=>
 some (.inr (s4.2.1,(s4.2.2.1,(s4.2.2.2.1,(s4.2.2.2.2.1,(s4.2.2.2.2.2.1,(s4.2.2.2.2.2.2.1,(x32,s4.2.2.2.2.2.2.2.2)))))))))
 (some (.inl ((0,(0,(0,([],([],([],[])))))),12))))
 (bnd (β:=Bool) (cond x8.2 (letm ((!true)) fun x33=>
 cond x33 (letm ((x10.k==2)) fun x34=>
 some x34)
 (some false))
 (some false)) fun v35=>
 cond v35 (bnd (aI x10.b) fun _=>
 none)
 (some (.inl ((0,(0,(0,([],([],([],[])))))),12))))))))) (fun q=>q) fun v37=>
 letm ((aP (s4.1+2))) fun x38=>
 self5 (x38,(v37.1,v37.2)))
 (bnd (ti s4.2.2) fun x39=>
 bnd (β:=Bool) (letm ((x39.2 != 0)) fun x40=>
 cond x40 (some true)
 (bnd (cmp a0 x39.1) fun x41=>
 letm ((x41 != 0)) fun x42=>
 some x42)) fun v43=>
 cond v43 (some ((0,(0,(0,([],([],([],[])))))),12))
 (some (s4.2.2,0)))) bk (0,((0,(0,(0,([],([],([],[])))))),(0,(0,(0,([],([],([],[]))))))))))
theorem AU(a0:Tr):dN a0=DZ eX iG a0:=by delta dN DZ;exact Eq.refl _
theorem Cp{ti:aY→Option (Tr×Int)}{cmp:Tr→Tr→Option Int}(x0 x1 x2 x3 x4 x5 x6 x7 x8 x9 x10 x11 x12 x13 x14 x15 x16 x17 x18 x19 x20 x21 x22 x23 x24 x25 x26 x27 x28 x29 x30 x31:UInt8):DZ ti cmp (qL 4 [x0,x1,x2,x3,x4,x5,x6,x7,x8,x9,x10,x11,x12,x13,x14,x15,x16,x17,x18,x19,x20,x21,x22,x23,x24,x25,x26,x27,x28,x29,x30,x31])=bnd (ti (xp 4 [x0,x1,x2,x3,x4,x5,x6,x7,x8,x9,x10,x11,x12,x13,x14,x15,x16,x17,x18,x19,x20,x21,x22,x23,x24,x25,x26,x27,x28,x29,x30,x31])) fun x39=>bnd (β:=Bool) (letm ((x39.2 != 0)) fun x40=>cond x40 (some true) (bnd (cmp (qL 4 [x0,x1,x2,x3,x4,x5,x6,x7,x8,x9,x10,x11,x12,x13,x14,x15,x16,x17,x18,x19,x20,x21,x22,x23,x24,x25,x26,x27,x28,x29,x30,x31]) x39.1) fun x41=>letm ((x41 != 0)) fun x42=>some x42)) fun v43=>cond v43 (some ((0,(0,(0,([],([],([],[])))))),12)) (some (xp 4 [x0,x1,x2,x3,x4,x5,x6,x7,x8,x9,x10,x11,x12,x13,x14,x15,x16,x17,x18,x19,x20,x21,x22,x23,x24,x25,x26,x27,x28,x29,x30,x31],0)):=by kernel_rfl
theorem JW(x0 x1 x2 x3 x4 x5 x6 x7 x8 x9 x10 x11 x12 x13 x14 x15 x16 x17 x18 x19 x20 x21 x22 x23 x24 x25 x26 x27 x28 x29 x30 x31:UInt8):eX (xp 4 [x0,x1,x2,x3,x4,x5,x6,x7,x8,x9,x10,x11,x12,x13,x14,x15,x16,x17,x18,x19,x20,x21,x22,x23,x24,x25,x26,x27,x28,x29,x30,x31])=some (qL 4 [x0,x1,x2,x3,x4,x5,x6,x7,x8,x9,x10,x11,x12,x13,x14,x15,x16,x17,x18,x19,x20,x21,x22,x23,x24,x25,x26,x27,x28,x29,x30,x31],0):=fK _ _ (by kernel_rfl)
theorem PH(x0 x1 x2 x3 x4 x5 x6 x7 x8 x9 x10 x11 x12 x13 x14 x15 x16 x17 x18 x19 x20 x21 x22 x23 x24 x25 x26 x27 x28 x29 x30 x31:UInt8):aG (qL 4 [x0,x1,x2,x3,x4,x5,x6,x7,x8,x9,x10,x11,x12,x13,x14,x15,x16,x17,x18,x19,x20,x21,x22,x23,x24,x25,x26,x27,x28,x29,x30,x31])=some true:=by kernel_rfl
theorem Rw(x0 x1 x2 x3 x4 x5 x6 x7 x8 x9 x10 x11 x12 x13 x14 x15 x16 x17 x18 x19 x20 x21 x22 x23 x24 x25 x26 x27 x28 x29 x30 x31:UInt8): ∃e,bS [] (qL 4 [x0,x1,x2,x3,x4,x5,x6,x7,x8,x9,x10,x11,x12,x13,x14,x15,x16,x17,x18,x19,x20,x21,x22,x23,x24,x25,x26,x27,x28,x29,x30,x31])=some e:=⟨[163,1,1,32,4,33,88,32,x0,x1,x2,x3,x4,x5,x6,x7,x8,x9,x10,x11,x12,x13,x14,x15,x16,x17,x18,x19,x20,x21,x22,x23,x24,x25,x26,x27,x28,x29,x30,x31],by kernel_rfl⟩
theorem CB{ti:aY→Option (Tr×Int)}{cmp:Tr→Tr→Option Int}(x0 x1 x2 x3 x4 x5 x6 x7 x8 x9 x10 x11 x12 x13 x14 x15 x16 x17 x18 x19 x20 x21 x22 x23 x24 x25 x26 x27 x28 x29 x30 x31:UInt8):DZ ti cmp (qL 6 [x0,x1,x2,x3,x4,x5,x6,x7,x8,x9,x10,x11,x12,x13,x14,x15,x16,x17,x18,x19,x20,x21,x22,x23,x24,x25,x26,x27,x28,x29,x30,x31])=bnd (ti (xp 6 [x0,x1,x2,x3,x4,x5,x6,x7,x8,x9,x10,x11,x12,x13,x14,x15,x16,x17,x18,x19,x20,x21,x22,x23,x24,x25,x26,x27,x28,x29,x30,x31])) fun x39=>bnd (β:=Bool) (letm ((x39.2 != 0)) fun x40=>cond x40 (some true) (bnd (cmp (qL 6 [x0,x1,x2,x3,x4,x5,x6,x7,x8,x9,x10,x11,x12,x13,x14,x15,x16,x17,x18,x19,x20,x21,x22,x23,x24,x25,x26,x27,x28,x29,x30,x31]) x39.1) fun x41=>letm ((x41 != 0)) fun x42=>some x42)) fun v43=>cond v43 (some ((0,(0,(0,([],([],([],[])))))),12)) (some (xp 6 [x0,x1,x2,x3,x4,x5,x6,x7,x8,x9,x10,x11,x12,x13,x14,x15,x16,x17,x18,x19,x20,x21,x22,x23,x24,x25,x26,x27,x28,x29,x30,x31],0)):=by kernel_rfl
theorem KL(x0 x1 x2 x3 x4 x5 x6 x7 x8 x9 x10 x11 x12 x13 x14 x15 x16 x17 x18 x19 x20 x21 x22 x23 x24 x25 x26 x27 x28 x29 x30 x31:UInt8):eX (xp 6 [x0,x1,x2,x3,x4,x5,x6,x7,x8,x9,x10,x11,x12,x13,x14,x15,x16,x17,x18,x19,x20,x21,x22,x23,x24,x25,x26,x27,x28,x29,x30,x31])=some (qL 6 [x0,x1,x2,x3,x4,x5,x6,x7,x8,x9,x10,x11,x12,x13,x14,x15,x16,x17,x18,x19,x20,x21,x22,x23,x24,x25,x26,x27,x28,x29,x30,x31],0):=fK _ _ (by kernel_rfl)
theorem Qc(x0 x1 x2 x3 x4 x5 x6 x7 x8 x9 x10 x11 x12 x13 x14 x15 x16 x17 x18 x19 x20 x21 x22 x23 x24 x25 x26 x27 x28 x29 x30 x31:UInt8):aG (qL 6 [x0,x1,x2,x3,x4,x5,x6,x7,x8,x9,x10,x11,x12,x13,x14,x15,x16,x17,x18,x19,x20,x21,x22,x23,x24,x25,x26,x27,x28,x29,x30,x31])=some true:=by kernel_rfl
theorem RX(x0 x1 x2 x3 x4 x5 x6 x7 x8 x9 x10 x11 x12 x13 x14 x15 x16 x17 x18 x19 x20 x21 x22 x23 x24 x25 x26 x27 x28 x29 x30 x31:UInt8): ∃e,bS [] (qL 6 [x0,x1,x2,x3,x4,x5,x6,x7,x8,x9,x10,x11,x12,x13,x14,x15,x16,x17,x18,x19,x20,x21,x22,x23,x24,x25,x26,x27,x28,x29,x30,x31])=some e:=⟨[163,1,1,32,6,33,88,32,x0,x1,x2,x3,x4,x5,x6,x7,x8,x9,x10,x11,x12,x13,x14,x15,x16,x17,x18,x19,x20,x21,x22,x23,x24,x25,x26,x27,x28,x29,x30,x31],by kernel_rfl⟩
theorem su{a:Tr}{e:List UInt8}(h1:aG a=some true)(h2:bS [] a=some e):iG a a=some 0:=by
 unfold iG
 rw[h1,ae,ao,Bool.not_true,eB,ae,ao,Bool.not_true,ae,eB,h2,ae,ae]
 unfold eN
 rw[Et,ae]
theorem F5{x:List UInt8}(hx:x.length=32):dN (qL 4 x)=some (xp 4 x,0):=by
 obtain⟨x0,x1,x2,x3,x4,x5,x6,x7,x8,x9,x10,x11,x12,x13,x14,x15,x16,x17,x18,x19,x20,x21,x22,x23,x24,x25,x26,x27,x28,x29,x30,x31,rfl⟩:=tN hx
 obtain⟨e,he⟩:=Rw x0 x1 x2 x3 x4 x5 x6 x7 x8 x9 x10 x11 x12 x13 x14 x15 x16 x17 x18 x19 x20 x21 x22 x23 x24 x25 x26 x27 x28 x29 x30 x31
 have hc:=su (PH x0 x1 x2 x3 x4 x5 x6 x7 x8 x9 x10 x11 x12 x13 x14 x15 x16 x17 x18 x19 x20 x21 x22 x23 x24 x25 x26 x27 x28 x29 x30 x31) he
 rw[AU,Cp,JW,ae,ao,hc,ae,ao]
 rfl
theorem FW{x:List UInt8}(hx:x.length=32):dN (qL 6 x)=some (xp 6 x,0):=by
 obtain⟨x0,x1,x2,x3,x4,x5,x6,x7,x8,x9,x10,x11,x12,x13,x14,x15,x16,x17,x18,x19,x20,x21,x22,x23,x24,x25,x26,x27,x28,x29,x30,x31,rfl⟩:=tN hx
 obtain⟨e,he⟩:=RX x0 x1 x2 x3 x4 x5 x6 x7 x8 x9 x10 x11 x12 x13 x14 x15 x16 x17 x18 x19 x20 x21 x22 x23 x24 x25 x26 x27 x28 x29 x30 x31
 have hc:=su (Qc x0 x1 x2 x3 x4 x5 x6 x7 x8 x9 x10 x11 x12 x13 x14 x15 x16 x17 x18 x19 x20 x21 x22 x23 x24 x25 x26 x27 x28 x29 x30 x31) he
 rw[AU,CB,KL,ae,ao,hc,ae,ao]
 rfl
theorem FX{T D key:Tr}{n s:List UInt8}{f u:Int}{K:aY}{e:List UInt8}(h1:dT 1 (some T)=some n)(h2:dT 2 (some T)=some s)(h3:dU 4 (some T)=some u)(h4:dU 5 (some T)=some f)
  (h5:cA T (Tr.mk 0 8 [] [])=some (D,true)) (h6:cA D (Tr.mk 0 1 [] [])=some (key,true)) (h7:dN key=some (K,0)) (h8:cM (n,(s,(f,(u,K))))=some true) (h9:iT (n,(s,(f,(u,K))))=some T)
  (h10:aG T=some true) (h11:bS [] T=some e):j3 T=some ((n,(s,(f,(u,K)))),true):=by
 have c8:ax 8=some (Tr.mk 0 8 [] []):=rfl
 have c1:ax 1=some (Tr.mk 0 1 [] []):=rfl
 unfold j3
 rw[ae,h1,ae,ae,h2,ae,ae,h3,ae,ae,h4,ae,c8,ae,h5,ae,c1,ae,h6,ae,h7,ae]
 refine an (y:=false) rfl ?_
 rw[eB]
 refine an (y:=false) ?_ ?_
 ·rw[h8,ae,ao,Bool.not_true,eB,h9,ae,su h10 h11,ae];rfl
 ·rw[eB]
def mS(f u:Nat)(x:List UInt8):aq:=([114,111,111,116],([100,101,118,105,99,101],((f:Int),((u:Int),xp 4 x))))
def L1(f u:Nat)(x:List UInt8):Tr:=Tr.mk 5 0 [] ([Tr.mk 0 1 [] [],Tr.mk 3 0 [114,111,111,116] [],Tr.mk 0 2 [] [],Tr.mk 3 0 [100,101,118,105,99,101] [],Tr.mk 0 4 [] [],Tr.mk 0 (UInt64.ofNat u) [] []]++((bif Nat.beq f 0 then []else [Tr.mk 0 5 [] [],Tr.mk 0 (UInt64.ofNat f) [] []]) ++ [Tr.mk 0 8 [] [],Fe 4 x]))
def o6(f u:Nat)(x:List UInt8):List UInt8:=(bif Nat.beq f 0 then 164 else 165)::([1,100,114,111,111,116,2,102,100,101,118,105,99,101,4]++((bif Nat.blt u 24 then [UInt8.ofNat u]else [24,UInt8.ofNat u])++((bif Nat.beq f 0 then []else [5,UInt8.ofNat f])++([8,161,1,163,1,1,32,4,33,88,32]++x))))
def lO(x:List UInt8):aq:=([],([114,111,111,116],(0,(0,xp 6 x))))
def L6(x:List UInt8):Tr:=Tr.mk 5 0 [] [Tr.mk 0 2 [] [],Tr.mk 3 0 [114,111,111,116] [],Tr.mk 0 8 [] [],Fe 6 x]
def rc(x:List UInt8):List UInt8:=[162,2,100,114,111,111,116,8,161,1,163,1,1,32,6,33,88,32]++x
abbrev FT:=Option Tr×(Option (List UInt8×Int)×(Option (Tr×Int)×(Option Bool×(Option (List UInt8)×(Option (List UInt8)×(Option Int×(Option Int×(Option (Tr×Bool)×(Option (Tr×Bool)×(Option Bool×(Option (List UInt8))))))))))))
def DT(C:aq)(T D:Tr)(b:List UInt8):FT:=(Ap C,(cg T,(f_ b,(cM C,(dT 1 (some T),(dT 2 (some T),(dU 4 (some T),(dU 5 (some T),(cA T (Tr.mk 0 8 [] []),(cA D (Tr.mk 0 1 [] []),(aG T,bS [] T)))))))))))
def Ez(C:aq)(T D:Tr)(b:List UInt8)(k:Tr):FT:=(some T,(some (b,0),(some (T,0),(some true,(some C.1,(some C.2.1,(some C.2.2.2.1,(some C.2.2.1,(some (D,true),(some (k,true),(some true,some b)))))))))))
theorem BI{C:aq}{T D k:Tr}{b:List UInt8}(hk:dN k=some (C.2.2.2.2,0))(h:DT C T D b=Ez C T D b k):cM C=some true∧cZ C=some (b,0)∧cJ b=some (C,0):=by
 unfold DT Ez at h
 simp only[Prod.mk.injEq]at h
 obtain⟨h1,h2,h3,h4,h5,h6,h7,h8,h9,h10,h11,h12⟩:=h
 have hi:=lg _ _ h1
 refine⟨h4,?_,?_⟩
 ·unfold cZ
  rw[h4,ae,ao,Bool.not_true,eB,hi,ae,h2,ae]
 ·have hc:=FX h5 h6 h7 h8 h9 h10 hk h4 hi h11 h12
  unfold cJ
  rw[h3,ae,ao]
  refine uA rfl ?_
  rw[hc,ae,ao,Bool.not_true,eB]
theorem N5(x0 x1 x2 x3 x4 x5 x6 x7 x8 x9 x10 x11 x12 x13 x14 x15 x16 x17 x18 x19 x20 x21 x22 x23 x24 x25 x26 x27 x28 x29 x30 x31:UInt8):DT (lO [x0,x1,x2,x3,x4,x5,x6,x7,x8,x9,x10,x11,x12,x13,x14,x15,x16,x17,x18,x19,x20,x21,x22,x23,x24,x25,x26,x27,x28,x29,x30,x31]) (L6 [x0,x1,x2,x3,x4,x5,x6,x7,x8,x9,x10,x11,x12,x13,x14,x15,x16,x17,x18,x19,x20,x21,x22,x23,x24,x25,x26,x27,x28,x29,x30,x31]) (Fe 6 [x0,x1,x2,x3,x4,x5,x6,x7,x8,x9,x10,x11,x12,x13,x14,x15,x16,x17,x18,x19,x20,x21,x22,x23,x24,x25,x26,x27,x28,x29,x30,x31]) (rc [x0,x1,x2,x3,x4,x5,x6,x7,x8,x9,x10,x11,x12,x13,x14,x15,x16,x17,x18,x19,x20,x21,x22,x23,x24,x25,x26,x27,x28,x29,x30,x31])=Ez (lO [x0,x1,x2,x3,x4,x5,x6,x7,x8,x9,x10,x11,x12,x13,x14,x15,x16,x17,x18,x19,x20,x21,x22,x23,x24,x25,x26,x27,x28,x29,x30,x31]) (L6 [x0,x1,x2,x3,x4,x5,x6,x7,x8,x9,x10,x11,x12,x13,x14,x15,x16,x17,x18,x19,x20,x21,x22,x23,x24,x25,x26,x27,x28,x29,x30,x31]) (Fe 6 [x0,x1,x2,x3,x4,x5,x6,x7,x8,x9,x10,x11,x12,x13,x14,x15,x16,x17,x18,x19,x20,x21,x22,x23,x24,x25,x26,x27,x28,x29,x30,x31]) (rc [x0,x1,x2,x3,x4,x5,x6,x7,x8,x9,x10,x11,x12,x13,x14,x15,x16,x17,x18,x19,x20,x21,x22,x23,x24,x25,x26,x27,x28,x29,x30,x31]) (qL 6 [x0,x1,x2,x3,x4,x5,x6,x7,x8,x9,x10,x11,x12,x13,x14,x15,x16,x17,x18,x19,x20,x21,x22,x23,x24,x25,x26,x27,x28,x29,x30,x31]):=by kernel_rfl
theorem Ky{x:List UInt8}(hx:x.length=32):cM (lO x)=some true∧cZ (lO x)=some (rc x,0)∧cJ (rc x)=some (lO x,0):=by
 have hk:=FW hx
 obtain⟨x0,x1,x2,x3,x4,x5,x6,x7,x8,x9,x10,x11,x12,x13,x14,x15,x16,x17,x18,x19,x20,x21,x22,x23,x24,x25,x26,x27,x28,x29,x30,x31,rfl⟩:=tN hx
 exact BI hk (N5 x0 x1 x2 x3 x4 x5 x6 x7 x8 x9 x10 x11 x12 x13 x14 x15 x16 x17 x18 x19 x20 x21 x22 x23 x24 x25 x26 x27 x28 x29 x30 x31)
def fL(f:Nat)(x:List UInt8):List FT:=(List.range 20).map fun u=>DT (mS f (20+u) x) (L1 f (20+u) x) (Fe 4 x) (o6 f (20+u) x)
def fR(f:Nat)(x:List UInt8):List FT:=(List.range 20).map fun u=>Ez (mS f (20+u) x) (L1 f (20+u) x) (Fe 4 x) (o6 f (20+u) x) (qL 4 x)
theorem Hs{x:List UInt8}(hx:x.length=32){f:Nat}(h:fL f x=fR f x){u:Nat}(h1:20≤u)(h2:u<40):cM (mS f u x)=some true∧cZ (mS f u x)=some (o6 f u x,0)∧cJ (o6 f u x)=some (mS f u x,0):=by
 have h:=List.map_inj_left.1 h (u-20) (List.mem_range.2 (by omega))
 rw[show 20+(u-20)=u by omega]at h
 exact BI (F5 hx) h
end
end Go.Proofs.YtimjjookppejeaaGreatDoor
