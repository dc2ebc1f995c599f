/- A part of the proof of TopKeys. No condition. -/
import Derived.Test.YtiilbonamnegaaaGreatDoorZm
namespace Go.Proofs.YtiilbonamnegaaaGreatDoor
open Go.Gk Go.RowKit
set_option maxRecDepth 100000
theorem PZ(n:Nat)(h:n<24):dX (UInt64.ofNat n)=some 1:=by
 unfold dX
 rw[ab,aV (by omega),decide_eq_true (by show(n:Int)<24;omega),bf]
theorem Np(n:Nat)(h:24≤n)(h2:n<256):dX (UInt64.ofNat n)=some 2:=by
 unfold dX
 rw[ab,aV (by omega),decide_eq_false (by show ¬(n:Int)<24;omega),aw,ab,decide_eq_true (by show(n:Int)<256;omega),bf]
theorem Sr{B pre post:List UInt8}{c:UInt8}{it:Int}{lo bt:Bool}(hB:B=pre++(c::post))(hl:B.length≤100000)(hc:c.toNat%32<24)(h7:c.toNat/32<7)(h0:0≤it)(h1:it<256):
  bk (B,((pre.length:Int),(it,(lo,bt)))) 8=some ((UInt8.ofNat (c.toNat/32),(UInt8.ofNat (c.toNat%32),(UInt64.ofNat (c.toNat%32),1))),(0,(B,(((pre.length+1:Nat):Int),(it+1,(lo,bt)))))):=by
 have hlen:B.length=pre.length+(1+post.length):=by rw[hB];simp;omega
 have hcc:=c.toNat_lt
 have hx:B[pre.length]?=some c:=by rw[hB];simp
 unfold bk
 rw[ab]
 refine bo (by show(it==256)=false;rw[←Bool.not_eq_true,beq_iff_eq];omega) ?_
 rw[ab,an (x:=it+1) (by omega) (by omega),ab]
 refine bo (by show((pre.length:Int)==(B.length:Int))=false;rw[←Bool.not_eq_true,beq_iff_eq];omega) ?_
 refine ac (aE hx) (ac (mZ c) (ac (aE hx) ?_))
 rw[o6,ab]
 have e8:(UInt8.ofNat (c.toNat%32)).toNat=c.toNat%32:=d7 (by omega)
 have e5:(UInt8.ofNat (c.toNat/32)).toNat=c.toNat/32:=d7 (by omega)
 refine ac (y:=false) ?_ ?_
 ·rw[ab,e8,decide_eq_false (by show ¬(27:Int)<_;omega),aw]
 rw[aw]
 refine ac (y:=false) ?_ ?_
 ·rw[ab];rfl
 rw[aw,ab,ab]
 refine bo (by rw[e8];show(((c.toNat%32:Nat):Int)==31)=false;rw[←Bool.not_eq_true,beq_iff_eq];omega) ?_
 rw[ab,e8,bJ]
 refine fF (y:=((B,(((pre.length+1:Nat):Int),(it+1,(lo,bt)))),((0,(0,(0,0))),(UInt8.ofNat (c.toNat/32),(UInt8.ofNat (c.toNat%32),(UInt64.ofNat (c.toNat%32),1)))))) ?_ ?_
 ·rw[ab]
  refine bo (decide_eq_false (by show ¬(24:Int)≤_;omega)) ?_
  rw[an (x:=(pre.length:Int)+1) (by omega) (by omega),show((pre.length:Int)+1)=((pre.length+1:Nat):Int) by omega]
 ·refine ac (y:=false) ?_ ?_
  ·rw[ab]
   refine bo ?_ rfl
   rw[e5]
   show(((c.toNat/32:Nat):Int)==7)=false
   rw[←Bool.not_eq_true,beq_iff_eq];omega
  rw[aw]
  refine ac (y:=(B,(((pre.length+1:Nat):Int),(it+1,(lo,bt))))) ?_ rfl
  refine ac (y:=false) ?_ rfl
  rw[ab]
  refine eQ (by rw[e5];exact decide_eq_true (by show((c.toNat/32:Nat):Int)<7;omega)) ?_
  exact ac (PZ _ hc) rfl
theorem T_{B pre post:List UInt8}{x:UInt8}{it:Int}{lo bt:Bool}(hB:B=pre++(88::x::post))(hl:B.length≤100000)(hx:24≤x.toNat)(h0:0≤it)(h1:it<256):
  bk (B,((pre.length:Int),(it,(lo,bt)))) 8=some ((2,(24,(UInt64.ofNat x.toNat,2))),(0,(B,(((pre.length+2:Nat):Int),(it+1,(lo,bt)))))):=by
 have hlen:B.length=pre.length+(2+post.length):=by rw[hB];simp;omega
 have hb:B[pre.length]?=some 88:=by rw[hB];simp
 have hxx:=x.toNat_lt
 unfold bk
 rw[ab]
 refine bo (by show(it==256)=false;rw[←Bool.not_eq_true,beq_iff_eq];omega) ?_
 rw[ab,an (x:=it+1) (by omega) (by omega),ab]
 refine bo (by show((pre.length:Int)==(B.length:Int))=false;rw[←Bool.not_eq_true,beq_iff_eq];omega) ?_
 refine ac (aE hb) (ac (y:=(2:UInt8)) rfl (ac (aE hb) ?_))
 rw[ab]
 refine ac (y:=false) rfl ?_
 rw[aw]
 refine ac (y:=false) rfl ?_
 rw[aw,ab,ab]
 refine bo rfl ?_
 rw[ab]
 have hw:aA ((pre.length:Int)+1)=((pre.length+1:Nat):Int):=by rw[an (by omega) (by omega)];omega
 refine fF (y:=((B,(((pre.length+2:Nat):Int),(it+1,(lo,bt)))),((0,(0,(0,0))),(2,(24,(UInt64.ofNat x.toNat,2)))))) ?_ ?_
 ·rw[ab]
  refine eQ rfl ?_
  rw[ab]
  refine ac (y:=1) rfl ?_
  have hcut:Gk.cut B ((pre.length+1:Nat):Int) ((pre.length+2:Nat):Int)=some [x]:=by
   have:=HC (pre ++ [88]) [x] post
   rw[List.length_append,List.length_singleton,List.length_singleton,List.append_assoc]at this
   rw[hB];exact this
  rw[ab,ab]
  show cond (decide (aA ((B.length:Int)-aA ((pre.length:Int)+1))<1)) _ _=_
  rw[hw,an (by omega) (by omega),decide_eq_false (by omega),aw,ab,an (x:=((pre.length+1:Nat):Int)+1) (by omega) (by omega),show((pre.length+1:Nat):Int)+1=((pre.length+2:Nat):Int) by omega]
  refine ac hcut ?_
  refine ac (y:=1) rfl ?_
  rw[my,aE (xs:=[x]) (i:=0) (x:=x) rfl,ae]
  refine ac (y:=(0:UInt64)) rfl ?_
  have ho:=Oq 0 x (by decide)
  rw[ab]
  refine congrArg (fun z:UInt64=>some (Sum.inr ((B,(((pre.length+2:Nat):Int),(it+1,(lo,bt)))),((0,(0,(0,0))),(2,(24,(z,2))))))) ?_
  refine Eq.trans ho ?_
  refine congrArg UInt64.ofNat ?_
  show 0*256+x.toNat=x.toNat
  omega
 ·refine ac (y:=false) rfl ?_
  rw[aw]
  refine ac (y:=(B,(((pre.length+2:Nat):Int),(it+1,(lo,bt))))) ?_ rfl
  refine ac (y:=false) ?_ rfl
  rw[ab]
  refine eQ rfl ?_
  exact ac (Np _ hx hxx) rfl
theorem R_{B pre b post:List UInt8}{it:Int}{lo bt:Bool}{l:UInt8}{z:Int}(hB:B=pre++(b++post))(hl:B.length≤100000)(hlow:l.toNat<31):
  dR (B,((pre.length:Int),(it,(lo,bt)))) (2,(l,(UInt64.ofNat b.length,z)))=some (B0 b,(0,(B,(((pre.length+b.length:Nat):Int),(it,(lo,bt))))))∧
  ct (B,((pre.length:Int),(it,(lo,bt)))) (2,(l,(UInt64.ofNat b.length,z)))=some (b,(0,(B,(((pre.length+b.length:Nat):Int),(it,(lo,bt)))))):=by
 have hlen:B.length=pre.length+(b.length+post.length):=by rw[hB];simp
 have hn:(UInt64.ofNat b.length).toNat=b.length:=aV (by omega)
 have ht:ct (B,((pre.length:Int),(it,(lo,bt)))) (2,(l,(UInt64.ofNat b.length,z)))=some (b,(0,(B,(((pre.length+b.length:Nat):Int),(it,(lo,bt)))))):=by
  have hc:=HC pre b post
  rw[←hB]at hc
  unfold ct
  rw[ab,ab,ab]
  have h1:aA ((B.length:Int)-(pre.length:Int))=((B.length-pre.length:Nat):Int):=by rw[an (by omega) (by omega)];omega
  refine bo (decide_eq_false ?_) ?_
  ·show ¬((aB (aA ((B.length:Int)-(pre.length:Int)))).toNat:Int)<((UInt64.ofNat b.length).toNat:Int)
   rw[h1,bJ,aV (by omega),hn];omega
  have h2:aA ((UInt64.ofNat b.length).toNat:Int)=(b.length:Int):=by rw[hn,an (by omega) (by omega)]
  rw[ab,ab]
  show bnd (Gk.cut B (pre.length:Int) (aA ((pre.length:Int)+aA ((UInt64.ofNat b.length).toNat:Int)))) _=_
  rw[h2,an (x:=(pre.length:Int)+(b.length:Int)) (by omega) (by omega),show(pre.length:Int)+(b.length:Int)=((pre.length+b.length:Nat):Int) by omega]
  refine ac hc (ac (hD (by omega)) ?_)
  rw[ab,ab]
  refine ac (y:=(B,(((pre.length+b.length:Nat):Int),(it,(lo,bt))))) ?_ rfl
  refine ac (y:=false) rfl ?_
  rw[aw]
  show some (B,(aA ((pre.length:Int)+(b.length:Int)),_))=_
  rw[an (x:=(pre.length:Int)+(b.length:Int)) (by omega) (by omega),show(pre.length:Int)+(b.length:Int)=((pre.length+b.length:Nat):Int) by omega]
 refine⟨?_,ht⟩
 unfold dR
 rw[ab,ab]
 refine eQ (decide_eq_true (by show(l.toNat:Int)<31;omega)) ?_
 exact ac ht rfl
theorem Se{B pre post:List UInt8}{x:Tr}{it:Int}{lo bt:Bool}(lev:Int)(h:SL x)(hB:B=pre++(aG x++post))(hl:B.length≤100000)(h0:0≤it)(h1:it<256):
  dQ (B,((pre.length:Int),(it,(lo,bt)))) lev=some (x,(0,(B,(((pre.length+(aG x).length:Nat):Int),(it+1,(lo,bt)))))):=by
 unfold dQ ff
 rcases h with⟨n,hn,rfl |rfl⟩ | ⟨b,hb1,hb,rfl⟩
 ·have e:=Ga hn
  rw[e]at hB⊢
  have e2:(UInt8.ofNat n.toNat).toNat=n.toNat:=d7 (by omega)
  have hh:=Sr (B:=B) (pre:=pre) (post:=post) (c:=UInt8.ofNat n.toNat) (it:=it) (lo:=lo) (bt:=bt) hB hl (by omega) (by omega) h0 h1
  rw[e2,show n.toNat/32=0 by omega,show n.toNat%32=n.toNat by omega]at hh
  refine ac hh ?_
  rw[ab]
  refine bo rfl ?_
  rw[ab]
  refine ac (y:=true) rfl ?_
  rw[bf]
  show some (Tr.mk _ (UInt64.ofNat n.toNat) [] [],_)=_
  rw[fI];rfl
 ·have e:=FV hn
  rw[e]at hB⊢
  have e2:(UInt8.ofNat (32+n.toNat)).toNat=32+n.toNat:=d7 (by omega)
  have hh:=Sr (B:=B) (pre:=pre) (post:=post) (c:=UInt8.ofNat (32+n.toNat)) (it:=it) (lo:=lo) (bt:=bt) hB hl (by omega) (by omega) h0 h1
  rw[e2,show(32+n.toNat)/32=1 by omega,show(32+n.toNat)%32=n.toNat by omega]at hh
  refine ac hh ?_
  rw[ab]
  refine bo rfl ?_
  rw[ab]
  refine ac (y:=true) rfl ?_
  rw[bf]
  show some (Tr.mk _ (UInt64.ofNat n.toNat) [] [],_)=_
  rw[fI];rfl
 ·have e:aG (B0 b)=hd 2 (UInt64.ofNat b.length)++b:=by unfold B0;rw[cV,JV]
  have hbn:(UInt64.ofNat b.length).toNat=b.length:=aV (by omega)
  have fin : ∀(k:Nat) (l:UInt8) (z:Int),l.toNat<31→(hd 2 (UInt64.ofNat b.length)).length=k→bk (B,((pre.length:Int),(it,(lo,bt)))) 8=some ((2,(l,(UInt64.ofNat b.length,z))),(0,(B,(((pre.length+k:Nat):Int),(it+1,(lo,bt))))))→
    (bnd (bk (B,((pre.length:Int),(it,(lo,bt)))) 8) fun x2=>letm ((x2.2.1 != 0)) fun x3=>cond x3 (some ((Tr.mk 0 0 [] []),(x2.2.1,x2.2.2))) (letm ((aA (UInt8.toNat x2.1.1:Int))) fun x4=>
     bnd (β:=Bool) (letm ((x4==2)) fun x8=>cond x8 (some true) (letm ((x4==3)) fun x9=>some x9)) fun v10=>cond v10 (bnd (dR x2.2.2 x2.1) fun x11=>some (x11.1,(x11.2.1,x11.2.2))) (none)))=some (B0 b,((0:Int),(B,(((pre.length+(aG (B0 b)).length:Nat):Int),(it+1,(lo,bt)))))):=by
   intro k l z hlow hk hh
   have hB2:B=(pre++hd 2 (UInt64.ofNat b.length))++(b++post):=by rw[hB,e];simp
   have ht:=(R_ (B:=B) (pre:=pre++hd 2 (UInt64.ofNat b.length)) (b:=b) (post:=post) (it:=it+1) (lo:=lo) (bt:=bt) (l:=l) (z:=z) hB2 hl hlow).1
   rw[List.length_append,hk]at ht
   refine ac hh ?_
   rw[ab]
   refine bo rfl ?_
   rw[ab]
   refine ac (y:=true) rfl ?_
   rw[bf]
   refine ac ht ?_
   rw[e,List.length_append,hk,Nat.add_assoc]
  by_cases hs:b.length<24
  ·have hd1:hd 2 (UInt64.ofNat b.length) = [UInt8.ofNat (32*2+b.length)]:=by unfold hd;rw[hbn,if_pos hs]
   have e2:(UInt8.ofNat (32*2+b.length)).toNat=64+b.length:=d7 (by omega)
   have hh:=Sr (B:=B) (pre:=pre) (post:=b++post) (c:=UInt8.ofNat (32*2+b.length)) (it:=it) (lo:=lo) (bt:=bt) (by rw[hB,e,hd1];rfl) hl (by omega) (by omega) h0 h1
   rw[e2,show(64+b.length)/32=2 by omega,show(64+b.length)%32=b.length by omega]at hh
   have:=fin 1 (UInt8.ofNat b.length) 1 (by rw[d7 (by omega)];omega) (by rw[hd1];rfl) hh
   refine ac hh ?_
   have:=(ac hh rfl).symm.trans this
   exact this
  ·have hd2:hd 2 (UInt64.ofNat b.length) = [88,UInt8.ofNat b.length]:=by unfold hd;rw[hbn,if_neg hs,if_pos (by omega)];rfl
   have e2:(UInt8.ofNat b.length).toNat=b.length:=d7 (by omega)
   have hh:=T_ (B:=B) (pre:=pre) (post:=b++post) (x:=UInt8.ofNat b.length) (it:=it) (lo:=lo) (bt:=bt) (by rw[hB,e,hd2];rfl) hl (by omega) h0 h1
   rw[e2]at hh
   have:=fin 2 24 2 (by decide) (by rw[hd2];rfl) hh
   refine ac hh ?_
   have:=(ac hh rfl).symm.trans this
   exact this
set_option maxRecDepth 100000
theorem P6{R S:Type}{b:(S→Option R)→S→Option R}{s0:S}(s1 s2:S){r:Option R}(h0 : ∀self,b self s0=self s1)(h1 : ∀self,b self s1=self s2)(h2 : ∀self,b self s2=r):aM b bA s0=r:=by
 have e:bA=1180591620717411303421+1+1+1:=rfl
 rw[e,bd,h0,bd,h1,bd,h2]
theorem KY{R S:Type}{b:(S→Option R)→S→Option R}(n:Nat)(hn:n≤1000)(st:Nat→S)(r:Option R)(h1 : ∀self j,j<n→b self (st j)=self (st (j+1)))(h2 : ∀self,b self (st n)=r){s0:S}(hs:s0=st 0):aM b bA s0=r:=by
 subst hs
 have key : ∀m j f,m+j=n→n<j+f→aM b f (st j)=r:=by
  intro m
  induction m with
  |zero=>
   intro j f hj hf
   obtain⟨f,rfl⟩ : ∃g,f=g+1:=⟨f-1,by omega⟩
   rw[bd,show j=n by omega]
   exact h2 _
  |succ m ih=>
   intro j f hj hf
   obtain⟨f,rfl⟩ : ∃g,f=g+1:=⟨f-1,by omega⟩
   rw[bd,h1 _ j (by omega)]
   exact ih (j+1) f (by omega) (by omega)
 exact key n 0 bA (by omega) (by rw[cG];omega)
theorem Cu(a b:List Tr):co (a++b)=co a++co b:=by
 induction a with
 |nil=>rw[bP];rfl
 |cons x a ih=>rw[List.cons_append,bh,bh,ih,List.append_assoc]
theorem Hh(a:List Tr)(x:Tr):co (a ++ [x])=co a++aG x:=by rw[Cu,bh,bP,List.append_nil]
theorem SN{l:List Tr}{n:Nat}(hs : ∀y∈l,SL y)(hl:l.length=2*n)(hn:n≤12){B pre post:List UInt8}{it:Nat}{lo bt:Bool}{lev z:Int}{low:UInt8}(hlow:low.toNat<31)(hB:B=pre++(co l++post))(hb:B.length≤100000)(hi:it+l.length≤255):
  dE (B,((pre.length:Int),((it:Int),(lo,bt)))) (5,(low,(UInt64.ofNat n,z))) lev=some (l,(0,(B,(((pre.length+(co l).length:Nat):Int),(((it+l.length:Nat):Int),(lo,bt)))))):=by
 have hx3:((low.toNat:Int)==((31:UInt8).toNat:Int))=false:=by
  show((low.toNat:Int)==31)=false
  rw[←Bool.not_eq_true,beq_iff_eq];omega
 have hn64:(UInt64.ofNat n).toNat=n:=aV (by omega)
 -- one element more
 have one : ∀j (h:j<l.length),dQ (B,(((pre.length+(co (l.take j)).length:Nat):Int),(((it+j:Nat):Int),(lo,bt)))) lev=some (l[j],(0,(B,(((pre.length+(co (l.take (j+1))).length:Nat):Int),(((it+(j+1):Nat):Int),(lo,bt)))))):=by
  intro j h
  have e1:l=l.take j++(l[j]::l.drop (j+1)):=by rw[←List.drop_eq_getElem_cons h,List.take_append_drop]
  have e2:co l=co (l.take j)++(aG l[j]++co (l.drop (j+1))):=by
   rw[←bh,←Cu,←e1]
  have e3:l.take (j+1)=l.take j ++ [l[j]]:=by rw[List.take_add_one,List.getElem?_eq_getElem h];rfl
  have hw:=Se (B:=B) (pre:=pre++co (l.take j)) (post:=co (l.drop (j+1))++post) (x:=l[j]) (it:=((it+j:Nat):Int)) (lo:=lo) (bt:=bt) lev (hs _ (List.getElem_mem h)) (by rw[hB,e2];simp only[List.append_assoc]) hb (by omega) (by omega)
  rw[List.length_append]at hw
  rw[hw,e3,Hh,List.length_append,Nat.add_assoc,show((it+j:Nat):Int)+1=((it+(j+1):Nat):Int) by omega]
 have tk : ∀j (h:j<l.length),l.take (j+1)=l.take j ++ [l[j]]:=fun j h=>by rw[List.take_add_one,List.getElem?_eq_getElem h];rfl
 unfold dE
 rw[ab,hx3]
 refine KY n (by omega) (fun j=>(l.take (2*j),(UInt64.ofNat j,(B,(((pre.length+(co (l.take (2*j))).length:Nat):Int),(((it+2*j:Nat):Int),(lo,bt))))))) _ (fun self j hj=>?_) (fun self=>?_) ?_
 ·have hj64:(UInt64.ofNat j).toNat=j:=aV (by omega)
  refine ac (y:=true) ?_ ?_
  ·rw[aw,ab]
   exact congrArg some (decide_eq_true (by rw[hj64,hn64];omega))
  rw[bf]
  refine fF (y:=(l.take (2*(j+1)),(B,(((pre.length+(co (l.take (2*(j+1)))).length:Nat):Int),(((it+2*(j+1):Nat):Int),(lo,bt)))))) ?_ ?_
  ·refine ac (y:=(false,(B,(((pre.length+(co (l.take (2*j))).length:Nat):Int),(((it+2*j:Nat):Int),(lo,bt)))))) rfl ?_
   rw[aw]
   refine P6 (l.take (2*j+1),(1,(B,(((pre.length+(co (l.take (2*j+1))).length:Nat):Int),(((it+(2*j+1):Nat):Int),(lo,bt)))))) (l.take (2*j+1+1),(2,(B,(((pre.length+(co (l.take (2*j+1+1))).length:Nat):Int),(((it+(2*j+1+1):Nat):Int),(lo,bt)))))) (fun self=>?_) (fun self=>?_) (fun self=>?_)
   ·rw[ab]
    refine eQ rfl ?_
    refine ac (y:=false) rfl ?_
    rw[aw]
    refine ac (y:=(false,(B,(((pre.length+(co (l.take (2*j))).length:Nat):Int),(((it+2*j:Nat):Int),(lo,bt)))))) rfl ?_
    rw[aw]
    refine ac (one (2*j) (by omega)) ?_
    rw[ab]
    refine bo rfl ?_
    refine ac (aF (xs:=l.take (2*j)) (by rw[List.length_take];simp only[List.length_cons,List.length_nil];omega)) ?_
    rw[←tk (2*j) (by omega)]
    rfl
   ·rw[ab]
    refine eQ rfl ?_
    refine ac (y:=false) rfl ?_
    rw[aw]
    refine ac (y:=(false,(B,(((pre.length+(co (l.take (2*j+1))).length:Nat):Int),(((it+(2*j+1):Nat):Int),(lo,bt)))))) rfl ?_
    rw[aw]
    refine ac (one (2*j+1) (by omega)) ?_
    rw[ab]
    refine bo rfl ?_
    refine ac (aF (xs:=l.take (2*j+1)) (by rw[List.length_take];simp only[List.length_cons,List.length_nil];omega)) ?_
    rw[←tk (2*j+1) (by omega)]
    rfl
   ·rw[ab]
    refine bo rfl ?_
    rfl
  ·rw[ab]
   have:(UInt64.ofNat j+1:UInt64)=UInt64.ofNat (j+1):=FK (by omega)
   rw[this]
 ·refine ac (y:=false) ?_ ?_
  ·rw[aw,ab]
   exact congrArg some (decide_eq_false (by rw[hn64];omega))
  rw[aw]
  have e:l.take (2*n)=l:=by rw[←hl];exact List.take_length
  show some (l.take (2*n),(0,(B,(((pre.length+(co (l.take (2*n))).length:Nat):Int),(((it+2*n:Nat):Int),(lo,bt))))))=_
  rw[e,hl]
 ·show(_,_)=(l.take 0,(UInt64.ofNat 0,(B,(((pre.length+(co (l.take 0)).length:Nat):Int),(((it+0:Nat):Int),(lo,bt))))))
  rw[List.take_zero,bP];rfl
theorem Rx{l:List Tr}{n:Nat}(hs : ∀y∈l,SL y)(hl:l.length=2*n)(hn:n≤12)(hb:(aG (Tr.mk 5 0 [] l)).length≤4096):
  fY (aG (Tr.mk 5 0 [] l))=some (some (aG (Tr.mk 5 0 [] l),(((aG (Tr.mk 5 0 [] l)).length:Int),(((1+l.length:Nat):Int),(false,false)))),((Tr.mk 5 0 [] [],l),0)):=by
 have e:aG (Tr.mk 5 0 [] l)=UInt8.ofNat (160+n)::co l:=by
  rw[fJ,Nk,hl,show 2*n/2=n by omega]
  unfold hd
  rw[aV (by omega),if_pos (by omega)];rfl
 have e2:(UInt8.ofNat (160+n)).toNat=160+n:=d7 (by omega)
 generalize hB:aG (Tr.mk 5 0 [] l)=B at hb e
 have hh:=Sr (B:=B) (pre:=[]) (post:=co l) (c:=UInt8.ofNat (160+n)) (it:=0) (lo:=false) (bt:=false) e (by omega) (by omega) (by omega) (by omega) (by omega)
 rw[e2,show(160+n)/32=5 by omega,show(160+n)%32=n by omega]at hh
 have he:=SN (l:=l) hs hl hn (B:=B) (pre:=[UInt8.ofNat (160+n)]) (post:=[]) (it:=1) (lo:=false) (bt:=false) (lev:=1) (z:=1) (low:=UInt8.ofNat n) (by rw[d7 (by omega)];omega) (by rw[e,List.append_nil];rfl) (by omega) (by omega)
 have hlen:B.length=1+(co l).length:=by rw[e,List.length_cons];omega
 unfold fY
 rw[ab]
 have hm:min (B.length:Int) 4096=((B.length:Nat):Int):=by omega
 have hc:Gk.cut B 0 ((B.length:Nat):Int)=some B:=by
  have:=iF (xs:=B) (lo:=0) (hi:=B.length) (by omega) (by omega)
  rw[List.take_length,List.drop_zero]at this
  exact this
 rw[hm]
 refine ac hc ?_
 refine ac (y:=((Tr.mk 5 0 [] [],l),(0,(B,((B.length:Int),(((1+l.length:Nat):Int),(false,false))))))) ?_ rfl
 unfold gg
 refine ac hh ?_
 rw[ab]
 refine bo rfl ?_
 rw[ab]
 refine ac (y:=false) rfl ?_
 rw[aw]
 refine ac (y:=false) rfl ?_
 rw[aw,ab]
 refine bo rfl ?_
 rw[ab]
 refine bo rfl ?_
 refine ac (y:=((5,(UInt8.ofNat n,(UInt64.ofNat n,1))),(Tr.mk 5 0 [] [],[]))) rfl ?_
 rw[ab]
 refine ac he ?_
 rw[ab]
 refine bo rfl ?_
 rw[hlen]
 rfl
theorem AK{x:Tr}(h:SL x):eN (some x)=some true:=by
 rcases h with⟨n,_,rfl |rfl⟩ | ⟨b,_,_,rfl⟩<;>rfl
theorem IK : ∀n:Fin 13,(lG (aB (n.1:Int))).isSome=true:=by decide +kernel
theorem G7{l:List aU}(hp:l.Pairwise fun a b=>Lib.compareBytes a.1 b.1<0)(hl:l.length≤12):aT l (some ())=some ():=by
 obtain⟨x,hx⟩:=Option.isSome_iff_exists.1 (IK ⟨l.length,by omega⟩)
 unfold aT
 rw[ab]
 refine ac hx (ac (y:=()) ?_ rfl)
 show cA (cC 39) l 0 (l.length:Int) x (some ())=_
 unfold cA
 rw[cG,bd,ab]
 show(letm (decide (aA ((l.length:Int)-0)≤12)) _)=_
 rw[an (by omega) (by omega),ab,decide_eq_true (by omega),bf]
 refine ac (y:=()) ?_ rfl
 show bW l 0 (l.length:Int) (some ())=_
 unfold bW
 rw[ab]
 have key : ∀m i f,m+i=l.length→1≤i→l.length<i+f→aM (R:=Unit) (S:=((List aU)×Int)) (fun self6 s5=>
   letm (decide (s5.2<(l.length:Int))) fun x7=>
   cond x7 (aM (R:=Unit) (S:=((List aU)×Int)) (fun self9 s8=>
   bnd (β:=Bool) (letm (decide (0<s8.2)) fun x10=>
   cond x10 (bnd (aI s8.1 s8.2) fun x11=>
   letm ((aA (s8.2-1))) fun x12=>
   bnd (aI s8.1 x12) fun x13=>
   bnd (some ()) fun x14=>
   bnd (jJ x11 x13) fun x15=>
   letm (decide (x15<0)) fun x16=>
   some x16)
    (some false)) fun v17=>
   cond v17 (letm ((aA (s8.2-1))) fun x18=>
   letm ((aA (s8.2-1))) fun x19=>
   bnd (aI s8.1 x19) fun x20=>
   bnd (aI s8.1 s8.2) fun x21=>
   bnd (aI s8.1 s8.2) fun x22=>
   none)
    (letm ((aA (s5.2+1))) fun x23=>
   self6 (s8.1,x23))) bA (s5.1,s5.2))
    (some ())) f (l,(i:Int))=some ():=by
  intro m
  induction m with
  |zero=>
   intro i f hi h1 hf
   obtain⟨f,rfl⟩ : ∃g,f=g+1:=⟨f-1,by omega⟩
   rw[bd,ab]
   exact bo (decide_eq_false (by show ¬(i:Int)<_;omega)) rfl
  |succ m ih=>
   intro i f hi h1 hf
   obtain⟨f,rfl⟩ : ∃g,f=g+1:=⟨f-1,by omega⟩
   rw[bd,ab]
   refine eQ (decide_eq_true (by show(i:Int)<_;omega)) ?_
   rw[cG,bd]
   refine ac (y:=false) ?_ ?_
   ·rw[ab]
    refine eQ (decide_eq_true (by show(0:Int)<(i:Int);omega)) ?_
    refine ac (aE (List.getElem?_eq_getElem (show i<l.length by omega))) ?_
    have hw:aA ((i:Int)-1)=((i-1:Nat):Int):=by rw[an (by omega) (by omega)];omega
    show(letm (aA ((i:Int)-1)) _)=_
    rw[ab,hw]
    refine ac (aE (List.getElem?_eq_getElem (show i-1<l.length by omega))) ?_
    rw[ae]
    refine ac (y:=Lib.compareBytes l[i].1 l[i-1].1) rfl ?_
    rw[ab]
    refine congrArg some (decide_eq_false ?_)
    have hr:=List.pairwise_iff_getElem.1 hp (i-1) i (by omega) (by omega) (by omega)
    have:=Qx l[i].1 l[i-1].1
    omega
   ·rw[aw,ab]
    show aM _ f (l,aA ((i:Int)+1))=_
    rw[an (by omega) (by omega),show(i:Int)+1=((i+1:Nat):Int) by omega]
    exact ih (i+1) f (by omega) (by omega) (by omega)
 by_cases h0:l.length=0
 ·rw[cG,bd,ab]
  exact bo (decide_eq_false (by rw[h0];show ¬(1:Int)<0;omega)) rfl
 ·exact key (l.length-1) 1 bA (by omega) (by omega) (by rw[cG];omega)
set_option maxRecDepth 100000
theorem Gc : ∀(l:List Tr) (i:Nat) (h:2*i+1<l.length) (hh:i<(fS l).length),(fS l)[i]=(l[2*i]'(by omega),l[2*i+1])
 | [],i,h,_=>by simp at h
 | [_],i,h,_=>by simp at h
 |a::b::r,0,_,_=>rfl
 |a::b::r,i+1,h,hh=>by
  have h2:i<(fS r).length:=by rw[gX];simp only[List.length_cons]at h;omega
  have:=Gc r i (by simp only[List.length_cons]at h;omega) h2
  show(fS r)[i]'h2=_
  rw[this]
  rfl
theorem M_{l:List Tr}{n:Nat}(hs : ∀y∈l,SL y)(hl:l.length=2*n)(hn:n≤12)(hm:eU (Tr.mk 5 0 [] l)=true):gI (Tr.mk 5 0 [] []) l=some (Tr.mk 5 0 [] [],(l,true)):=by
 have hp:=Cp (ji (m:=Tr.mk 5 0 [] l) rfl hm).2.2
 have klen:(dw l).length=n:=by unfold dw;rw[List.length_map,gX];omega
 have hp:(dw l).Pairwise fun a b=>Lib.compareBytes a.1 b.1<0:=hp
 have kget : ∀j (h:j<n),(dw l)[j]'(by omega)=(aG (l[2*j]'(by omega)),(l[2*j]'(by omega),l[2*j+1]'(by omega))):=by
  intro j h
  have h2:j<(fS l).length:=by rw[gX];omega
  rw[u4 (by omega) h2,Gc l j (by omega) h2]
 unfold gI
 refine ac (rl (n:=l.length) (by omega)) ?_
 -- all children are in order
 have He : ∀(g:Nat→Unit→Option (Tr×((List Tr)×Bool))) (r k:Nat),k+r=l.length→jB (R:=(Tr×((List Tr)×Bool))) (S:=Unit) g (fun k42 s43 self44=>
   bnd (aI l (k42:Int)) fun x45=>bnd (eN (some (l.getD (((k42:Int):Int)).toNat (Tr.mk 0 0 [] [])))) fun x46=>letm ((!x46)) fun x47=>cond x47 (some (Tr.mk 5 0 [] [],(l,false))) (self44 ())) r k ()=g l.length ():=by
  intro g r
  induction r with
  |zero=>intro k hk;rw[sw,show k=l.length by omega]
  |succ r ih=>
   intro k hk
   have hlt:k<l.length:=by omega
   rw[my,aE (List.getElem?_eq_getElem hlt),ae,Int.toNat_natCast,List.getD_eq_getElem?_getD,List.getElem?_eq_getElem hlt]
   show(bnd (eN (some l[k])) _)=_
   rw[AK (hs _ (List.getElem_mem hlt)),ae,ab,Bool.not_true,aw]
   exact ih (k+1) (by omega)
 refine(He _ l.length 0 (by omega)).trans ?_
 rw[ab]
 refine bo rfl ?_
 refine KY n (by omega) (fun j=>((dw l).take j,((2*j:Nat):Int))) _ (fun self j hj=>?_) (fun self=>?_) ?_
 ·have h1:l[2*j]?=some (l[2*j]'(by omega)):=List.getElem?_eq_getElem (by omega)
  have h2:l[2*j+1]?=some (l[2*j+1]'(by omega)):=List.getElem?_eq_getElem (by omega)
  have hw:aA (((2*j:Nat):Int)+1)=((2*j+1:Nat):Int):=by rw[an (by omega) (by omega)];omega
  have hw2:aA (((2*j:Nat):Int)+2)=((2*(j+1):Nat):Int):=by rw[an (by omega) (by omega)];omega
  have tk:(dw l).take (j+1)=(dw l).take j ++ [(aG (l[2*j]'(by omega)),(l[2*j]'(by omega),l[2*j+1]'(by omega)))]:=by
   rw[List.take_add_one,List.getElem?_eq_getElem (by omega),kget j hj];rfl
  rw[ab]
  refine eQ (decide_eq_true (by show((2*j:Nat):Int)<(l.length:Int);omega)) ?_
  rw[aE h1,ae,Int.toNat_natCast,aE h1,ae,qa (hs _ (List.getElem_mem _)).ok,ae,ae,ae,ab,hw,aE h2,ae,Int.toNat_natCast,aE h2,ae]
  refine ac (aF (xs:=(dw l).take j) (by rw[List.length_take];simp only[List.length_cons,List.length_nil];omega)) ?_
  rw[ab,hw2,tk]
 ·rw[ab]
  refine bo (decide_eq_false (by show ¬((2*n:Nat):Int)<(l.length:Int);omega)) ?_
  have et:(dw l).take n=dw l:=List.take_of_length_le (by omega)
  show(bnd (aT ((dw l).take n) (some ())) _)=_
  rw[et]
  refine ac (G7 hp (by omega)) ?_
  refine ac (rl (n:=(dw l).length) (by omega)) ?_
  have back : ∀(r k:Nat),k+r=n→jB (R:=(Tr×((List Tr)×Bool))) (S:=(Tr×(List Tr))) (fun k19 s20=>some (s20.1,(s20.2,true))) (fun k21 s22 self23=>
    bnd (aI (dw l) (k21:Int)) fun x24=>
    bnd (aI (dw l) ((((k21:Int):Int)).toNat:Int)) fun x25=>
    bnd (β:=Bool) (letm (decide (0<(k21:Int))) fun x26=>
    cond x26 (letm ((aA ((k21:Int)-1))) fun x27=>
    bnd (aI (dw l) x27) fun x28=>
    bnd (aI (dw l) (((x27:Int)).toNat:Int)) fun x29=>
    bnd (bF x29.1 x25.1) fun x30=>
    some x30)
     (some false)) fun v31=>
    cond v31 (some (s22.1,(s22.2,false)))
     (letm ((aA (2*(k21:Int)))) fun x32=>
    letm ((aA (2*(k21:Int)))) fun x33=>
    letm ((aA (x33+1))) fun x34=>
    bnd (aI s22.2 x32) fun x35=>
    bnd (aI s22.2 (((x32:Int)).toNat:Int)) fun x36=>
    letm ((s22.2.set ((x32:Int)).toNat x25.2.1)) fun x37=>
    bnd (aI x37 x34) fun x38=>
    bnd (aI x37 (((x34:Int)).toNat:Int)) fun x39=>
    letm ((x37.set ((x34:Int)).toNat x25.2.2)) fun x40=>
    self23 (s22.1,x40))) r k (Tr.mk 5 0 [] [],l)=some (Tr.mk 5 0 [] [],(l,true)):=by
   intro r
   induction r with
   |zero=>intro k hk;rw[sw]
   |succ r ih=>
    intro k hk
    have hlt:k<(dw l).length:=by omega
    rw[my,aE (List.getElem?_eq_getElem hlt),ae,Int.toNat_natCast,aE (List.getElem?_eq_getElem hlt),ae]
    refine ac (y:=false) ?_ ?_
    ·rw[ab]
     by_cases h0:k=0
     ·subst h0;rfl
     ·have hw:aA ((k:Int)-1)=((k-1:Nat):Int):=by rw[an (by omega) (by omega)];omega
      refine eQ (decide_eq_true (by omega)) ?_
      rw[ab,hw,aE (List.getElem?_eq_getElem (show k-1<(dw l).length by omega)),ae,Int.toNat_natCast,aE (List.getElem?_eq_getElem (show k-1<(dw l).length by omega)),ae]
      have hr:=List.pairwise_iff_getElem.1 hp (k-1) k (by omega) hlt (by omega)
      unfold bF
      rw[ab,ae,Bc,decide_eq_false]
      intro e
      rw[e,(mU _ _).2 rfl]at hr
      omega
    ·have g1:l[2*k]?=some (l[2*k]'(by omega)):=List.getElem?_eq_getElem (by omega)
     have g2:l[2*k+1]?=some (l[2*k+1]'(by omega)):=List.getElem?_eq_getElem (by omega)
     have hw2:aA (2*(k:Int))=((2*k:Nat):Int):=by rw[an (by omega) (by omega)];omega
     have hw3:aA (((2*k:Nat):Int)+1)=((2*k+1:Nat):Int):=by rw[an (by omega) (by omega)];omega
     rw[aw,ab,ab,hw2,ab,hw3,kget k (by omega)]
     show(bnd (aI l ((2*k:Nat):Int)) _)=_
     rw[aE g1,ae,Int.toNat_natCast,aE g1,ae,ab]
     have s1:l.set (2*k) (l[2*k]'(by omega))=l:=List.set_getElem_self _
     show(bnd (aI (l.set (2*k) (l[2*k]'(by omega))) ((2*k+1:Nat):Int)) _)=_
     rw[s1,aE g2,ae,Int.toNat_natCast,aE g2,ae,ab]
     have s2:l.set (2*k+1) (l[2*k+1]'(by omega))=l:=List.set_getElem_self _
     show jB _ _ r (k+1) (Tr.mk 5 0 [] [],l.set (2*k+1) (l[2*k+1]'(by omega)))=_
     rw[s2]
     exact ih (k+1) (by omega)
  exact back (dw l).length 0 (by omega)
 ·rfl
theorem Q_{k:aD}(h:KV k):jR (aG (iX k))=some (iX k,0):=by
 obtain⟨hs,_,he,hl,_⟩:=mt h
 have hok:=qY h
 have hlen:=yv h
 obtain⟨n,hn⟩ : ∃n,(lY k).length=2*n:=⟨(lY k).length/2,by omega⟩
 have hr:=Rx (l:=lY k) hs hn (by omega) (by have:(aG (iX k)).length≤502:=hlen;show(aG (iX k)).length≤_;omega)
 have hr:fY (aG (iX k))=some (some (aG (iX k),(((aG (iX k)).length:Int),(((1+(lY k).length:Nat):Int),(false,false)))),((Tr.mk 5 0 [] [],lY k),0)):=hr
 unfold jR
 rw[ab]
 refine bo (decide_eq_false (by omega)) ?_
 refine ac hr ?_
 rw[ab]
 refine bo rfl ?_
 rw[ae,ae,ab]
 refine bo (decide_eq_false (by show ¬((aG (iX k)).length:Int)<((aG (iX k)).length:Int);omega)) ?_
 rw[ae,ae]
 refine bo rfl ?_
 refine ac (M_ hs hn (by omega) hok) ?_
 rw[ab]
 refine bo rfl ?_
 refine ac (gj (iX k)) ?_
 rw[hok,ab,Bool.not_true,aw]
 rfl
set_option maxRecDepth 100000
theorem MA : ∀n:Fin 25,(Lib.decDigits n.1).length≤5:=by decide +kernel
theorem Q0{s:List UInt8}{n:UInt64}(h:n.toNat<25)(hs:s.length≤100000): ∃r,bj s n 10=some r∧r.length≤s.length+5:=by
 have hd:=MA ⟨n.toNat,h⟩
 have hd:(Lib.decDigits n.toNat).length≤5:=hd
 have e:bY s n 10=some (s++Lib.decDigits n.toNat):=by
  unfold bY
  rw[show((10:Int)==10)=true from rfl,Bool.true_and,decide_eq_true (by omega)]
  exact aF (by omega)
 refine⟨s++Lib.decDigits n.toNat,?_,by rw[List.length_append];omega⟩
 unfold bj
 rw[e,ae]
theorem QP : ∀c:Fin 256,(bnd (cg .u8 (UInt8.ofNat c.1) (UInt64.toNat 4:Int)) fun(x8:UInt8)=>aI ([48,49,50,51,52,53,54,55,56,57,97,98,99,100,101,102]:List UInt8) (UInt8.toNat x8:Int)).isSome=true:=by decide +kernel
theorem RE : ∀c:Fin 256,(aI ([48,49,50,51,52,53,54,55,56,57,97,98,99,100,101,102]:List UInt8) (UInt8.toNat (av (bits .and .u8 (UInt8.toNat (UInt8.ofNat c.1)) (UInt8.toNat 15))):Int)).isSome=true:=by decide +kernel
theorem Kv(b:List UInt8): ∀(k:Nat) (s:List UInt8),s.length+2*b.length≤100000→∃r,cF (R:=(List UInt8)) (S:=(List UInt8)) (α:=UInt8) (fun k2 s3=>some s3)
  (fun x4 k5 s6 self7=>
   bnd (cg .u8 x4 (UInt64.toNat 4:Int)) fun x8=>
   bnd (aI [48,49,50,51,52,53,54,55,56,57,97,98,99,100,101,102] (UInt8.toNat x8:Int)) fun x9=>
   letm ((av (bits .and .u8 (UInt8.toNat x4) (UInt8.toNat 15)))) fun x10=>
   bnd (aI [48,49,50,51,52,53,54,55,56,57,97,98,99,100,101,102] (UInt8.toNat x10:Int)) fun x11=>
   bnd (app s6 [x9,x11]) fun x12=>self7 x12) b k s=some r∧r.length=s.length+2*b.length:=by
 induction b with
 |nil=>intro k s _;exact⟨s,rfl,rfl⟩
 |cons x b ih=>
  intro k s h
  rw[List.length_cons]at h⊢
  have h1:=QP ⟨x.toNat,UInt8.toNat_lt x⟩
  have h2:=RE ⟨x.toNat,UInt8.toNat_lt x⟩
  have ex:UInt8.ofNat ((⟨x.toNat,UInt8.toNat_lt x⟩:Fin 256).1)=x:=by simp
  rw[ex]at h1 h2
  obtain⟨z,h1⟩:=Option.isSome_iff_exists.1 h1
  obtain⟨z2,h2⟩:=Option.isSome_iff_exists.1 h2
  obtain⟨y,h3,h4⟩:=dC h1
  obtain⟨r,hr,hl⟩:=ih (k+1) (s ++ [z,z2]) (by rw[List.length_append];simp only[List.length_cons,List.length_nil];omega)
  refine⟨r,?_,by rw[hl,List.length_append];simp only[List.length_cons,List.length_nil];omega⟩
  rw[bT]
  refine ac h3 (ac h4 ?_)
  rw[ab]
  refine ac h2 (ac (aF (by simp only[List.length_cons,List.length_nil];omega)) hr)
theorem Lk{x:Tr}(h:SL x){s:List UInt8}(hs:s.length≤50000): ∃r,fZ s x=some r∧r.length≤s.length+80:=by
 show ∃r,jn (l8 39) s x=some r∧_
 rcases h with⟨n,hn,rfl |rfl⟩ | ⟨b,hb1,hb,rfl⟩
 ·obtain⟨r,hr,hl⟩:=Q0 (s:=s) (n:=n) (by omega) (by omega)
  refine⟨r,?_,by omega⟩
  unfold jn
  rw[ab]
  refine eQ rfl ?_
  exact ac hr rfl
 ·have e1:(n+1).toNat=n.toNat+1:=by
   rw[UInt64.toNat_add];show(n.toNat+1)%18446744073709551616=_;omega
  obtain⟨r,hr,hl⟩:=Q0 (s:=s ++ [45]) (n:=n+1) (by omega) (by rw[List.length_append];simp only[List.length_cons,List.length_nil];omega)
  rw[List.length_append]at hl
  simp only[List.length_cons,List.length_nil]at hl
  refine⟨r,?_,by omega⟩
  unfold jn
  rw[ab]
  refine bo rfl ?_
  rw[ab]
  refine eQ rfl ?_
  rw[ab]
  refine bo ?_ ?_
  ·show((n.toNat:Int)==18446744073709551615)=false
   rw[←Bool.not_eq_true,beq_iff_eq];omega
  refine ac (aF (by simp only[List.length_cons,List.length_nil];omega)) ?_
  rw[ab]
  exact ac hr rfl
 ·obtain⟨r,hr,hl⟩:=Kv b 0 (s ++ [104,39]) (by rw[List.length_append];simp only[List.length_cons,List.length_nil];omega)
  rw[List.length_append]at hl
  simp only[List.length_cons,List.length_nil]at hl
  refine⟨r ++ [39],?_,by rw[List.length_append];simp only[List.length_cons,List.length_nil];omega⟩
  unfold jn
  rw[ab]
  refine bo rfl ?_
  rw[ab]
  refine bo rfl ?_
  rw[ab]
  refine eQ rfl ?_
  refine ac (aF (by simp only[List.length_cons,List.length_nil];omega)) ?_
  refine ac (X:=ky (s ++ [104,39]) b) hr ?_
  exact ac (aF (by simp only[List.length_cons,List.length_nil];omega)) rfl
theorem Eg{k:aD}(h:KV k): ∃s,ju (iX k)=some (s,0):=by
 obtain⟨hs,_,_,hl,_⟩:=mt h
 have hp : ∃s,mY [] (iX k)=some s:=by
  unfold mY
  rw[ab]
  have go : ∀(l:List Tr) (i:Nat) (s:List UInt8),(∀y∈l,SL y)→s.length+100*l.length≤50000→∃r,cF (R:=(List UInt8)) (S:=(List UInt8)) (α:=Go.Gk.Tr) (fun k45 s46=>
    bnd (app s46 [125]) fun x47=>some x47)
    (fun x48 k49 s50 self51=>
    bnd (β:=(List UInt8)) (bnd (β:=Bool) (letm (((iX k).k==5)) fun x52=>
    cond x52 (bnd (Gk.rem (k49:Int) 2) fun x53=>
    letm ((x53==1)) fun x54=>
    some x54)
     (some false)) fun v55=>
    cond v55 (bnd (app s50 [58,32]) fun x56=>
    some x56)
     (letm (decide (0<(k49:Int))) fun x57=>
    cond x57 (bnd (app s50 [44,32]) fun x58=>
    some x58)
     (some s50))) fun v59=>
    bnd (fZ v59 x48) fun x60=>
    self51 x60) l i s=some r∧True:=by
   intro l
   induction l with
   |nil=>
    intro i s _ hb
    rw[List.length_nil]at hb
    refine⟨s ++ [125],?_,trivial⟩
    rw[eP]
    exact ac (aF (by simp only[List.length_cons,List.length_nil];omega)) rfl
   |cons x l ih=>
    intro i s hx hb
    rw[List.length_cons]at hb
    rw[bT]
    refine gh (fun r=>r.length≤s.length+2) ?_ fun v hv=>?_
    ·refine gh (fun _=>True) ?_ fun v _=>?_
     ·refine bH (dt (fun _=>?_) (fun _=>⟨_,rfl,trivial⟩))
      rw[QZ,ae]
      exact bH ⟨_,rfl,trivial⟩
     ·refine dt (fun _=>?_) (fun _=>bH (dt (fun _=>?_) (fun _=>⟨_,rfl,by omega⟩)))
      ·exact⟨s ++ [58,32],ac (aF (by simp only[List.length_cons,List.length_nil];omega)) rfl,by rw[List.length_append];simp only[List.length_cons,List.length_nil];omega⟩
      ·exact⟨s ++ [44,32],ac (aF (by simp only[List.length_cons,List.length_nil];omega)) rfl,by rw[List.length_append];simp only[List.length_cons,List.length_nil];omega⟩
    ·obtain⟨r,hr,hrl⟩:=Lk (hx x (by simp)) (s:=v) (by omega)
     rw[hr,ae]
     exact ih (i+1) r (fun y hy=>hx y (by simp[hy])) (by omega)
  obtain⟨r,hr,_⟩:=go (lY k) 0 [123] hs (by simp only[List.length_cons,List.length_nil];omega)
  refine⟨r,?_⟩
  refine bo rfl ?_
  rw[ab]
  refine bo rfl ?_
  rw[ab]
  refine bo rfl ?_
  rw[ab]
  refine bo rfl ?_
  rw[ab]
  refine bo rfl ?_
  rw[ab]
  refine bo rfl ?_
  rw[ab]
  refine bo rfl ?_
  refine ac (y:=((123:UInt8),(125:UInt8))) rfl ?_
  refine ac (aF (xs:=[]) (ys:=[123]) (by simp only[List.length_cons,List.length_nil];omega)) ?_
  exact hr
 obtain⟨s,hs⟩:=hp
 refine⟨s,?_⟩
 unfold ju
 rw[gj,ae,qY h,ab,Bool.not_true,aw,hs,ae]
end Go.Proofs.YtiilbonamnegaaaGreatDoor
