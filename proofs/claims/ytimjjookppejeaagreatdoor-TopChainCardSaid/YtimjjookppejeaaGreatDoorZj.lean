/- A part of the proof of TopChain. No condition. -/

namespace Go.Ed
def mT(p:Nat):Prop:=2≤p∧∀m,m∣p→m=1∨m=p
theorem mT.cop{p a:Nat}(h:mT p)(ha : ¬p∣a):Nat.gcd p a=1:=by
 rcases h.2 _ (Nat.gcd_dvd_left p a)with e |e
 ·exact e
 ·exact absurd (e▸Nat.gcd_dvd_right p a) ha
theorem mT.mul{p a b:Nat}(h:mT p)(hd:p∣a*b):p∣a∨p∣b:=by
 by_cases ha:p∣a
 ·exact .inl ha
 ·exact .inr (Nat.Coprime.dvd_of_dvd_mul_left (h.cop ha) hd)
theorem Pg : ∀(n:Nat),2≤n→∃r,mT r∧r∣n:=by
 intro n
 induction n using Nat.strongRecOn with
 |ind n ih=>
  intro h
  by_cases hp:mT n
  ·exact⟨n,hp,Nat.dvd_refl n⟩
  ·have : ∃m,m∣n∧m≠1∧m≠n:=by
    false_or_by_contra
    rename_i hc
    exact hp ⟨h,fun m hm=>by
     by_cases h1:m=1
     ·exact .inl h1
     ·by_cases h2:m=n
      ·exact .inr h2
      ·exact absurd ⟨m,hm,h1,h2⟩ hc⟩
   obtain⟨m,hm,h1,h2⟩:=this
   have hle:=Nat.le_of_dvd (by omega) hm
   have h0:m≠0:=fun e=>by subst e;have:=Nat.eq_zero_of_zero_dvd hm;omega
   obtain⟨r,hr,hd⟩:=ih m (by omega) (by omega)
   exact⟨r,hr,Nat.dvd_trans hd hm⟩
theorem ub{α:Type}[BEq α][LawfulBEq α]: ∀(l m:List α),l.Nodup→(∀x∈l,x∈m)→m.length≤l.length→l.Perm m
 | [],m,_,_,h=>by
  have:m = []:=List.eq_nil_of_length_eq_zero (by simpa using h)
  rw[this]
 |x::l,m,hn,hs,h=>by
  rw[List.nodup_cons]at hn
  have hx:x∈m:=hs x (by simp)
  have h2:=List.perm_cons_erase hx
  have hl:=h2.length_eq
  refine(List.Perm.cons x (ub l (m.erase x) hn.2 (fun y hy=>?_) ?_)).trans h2.symm
  ·have hne:y≠x:=fun e=>hn.1 (e▸hy)
   exact(List.mem_erase_of_ne hne).2 (hs y (by simp[hy]))
  ·simp only[List.length_cons]at hl h;omega
def kg(p:Nat)(l:List Nat):Nat:=l.foldr (fun x s=>x*s%p) 1
theorem Cm{p:Nat}{l m:List Nat}(h:l.Perm m):kg p l=kg p m:=by
 induction h with
 |nil=>rfl
 |cons x _ ih=>unfold kg at ih⊢;rw[List.foldr_cons,List.foldr_cons,ih]
 |swap x y l=>
  show y*(x*kg p l%p)%p=x*(y*kg p l%p)%p
  rw[Nat.mul_mod_mod,Nat.mul_mod_mod,Nat.mul_left_comm]
 |trans _ _ h1 h2=>exact h1.trans h2
theorem yn(p a:Nat): ∀l:List Nat,kg p (l.map fun x=>a*x%p)%p=a^l.length*kg p l%p
 | []=>by simp[kg]
 |x::l=>by
  have ih:=yn p a l
  show(a*x%p)*kg p (l.map fun x=>a*x%p)%p%p=a^(l.length+1)*(x*kg p l%p)%p
  rw[Nat.mod_mod,Nat.mod_mul_mod,Nat.mul_mod_mod,Nat.mul_mod,ih,←Nat.mul_mod,Nat.pow_succ]
  congr 1
  simp only[Nat.mul_assoc,Nat.mul_comm,Nat.mul_left_comm]
theorem AV{p:Nat}(h:mT p): ∀l:List Nat,(∀x∈l,¬p∣x)→¬p∣kg p l
 | [],_=>by
  intro hd
  have:=Nat.le_of_dvd (by decide) (show p∣1 from hd)
  have:=h.1
  omega
 |x::l,hx=>by
  intro hd
  have hd:p∣x*kg p l%p:=hd
  rw[Nat.dvd_mod_iff (Nat.dvd_refl p)]at hd
  rcases h.mul hd with e |e
  ·exact hx x (by simp) e
  ·exact AV h l (fun y hy=>hx y (by simp[hy])) e
theorem pv{p a b:Nat}(h:a%p=b%p)(hab:b≤a):p∣a-b:=by
 have:=(Nat.sub_mod_eq_zero_of_mod_eq h)
 exact Nat.dvd_of_mod_eq_zero this
theorem zj{p a:Nat}(h:mT p)(ha : ¬p∣a):a^(p-1)%p=1:=by
 have hp:=h.1
 -- the residues but zero
 have mem : ∀x,x∈(List.range (p-1)).map (· + 1)↔1≤x∧x<p:=by
  intro x
  rw[List.mem_map]
  constructor
  ·rintro⟨y,hy,rfl⟩
   rw[List.mem_range]at hy;omega
  ·intro hx
   exact⟨x-1,List.mem_range.2 (by omega),by omega⟩
 have nd : ∀x∈(List.range (p-1)).map (· + 1),¬p∣x:=by
  intro x hx hd
  obtain⟨h1,h2⟩:=(mem x).1 hx
  have:=Nat.le_of_dvd (by omega) hd
  omega
 have ln:((List.range (p-1)).map (· + 1)).length=p-1:=by rw[List.length_map,List.length_range]
 have nn:((List.range (p-1)).map (· + 1)).Nodup:=by
  rw[List.nodup_iff_pairwise_ne,List.pairwise_map]
  exact(List.nodup_iff_pairwise_ne.1 (List.nodup_range)).imp fun{_ _} h e=>h (by omega)
 generalize (List.range (p-1)).map (· + 1)=l at mem nd ln nn
 have hperm:(l.map fun x=>a*x%p).Perm l:=by
  refine ub _ _ ?_ ?_ (by rw[List.length_map];exact Nat.le_refl _)
  ·rw[List.nodup_iff_pairwise_ne,List.pairwise_map]
   refine List.Pairwise.imp_of_mem ?_ (List.nodup_iff_pairwise_ne.1 nn)
   intro x y hx hy hxy e
   obtain⟨x1,x2⟩:=(mem x).1 hx
   obtain⟨y1,y2⟩:=(mem y).1 hy
   have key : ∀u v,u<v→v<p→a*u%p=a*v%p→False:=by
    intro u v huv hv he
    have hd:=pv he.symm (Nat.mul_le_mul_left a (by omega))
    rw[←Nat.mul_sub]at hd
    rcases h.mul hd with e |e
    ·exact ha e
    ·have:=Nat.le_of_dvd (by omega) e
     omega
   rcases Nat.lt_or_gt_of_ne hxy with h1 |h1
   ·exact key x y h1 y2 e
   ·exact key y x h1 x2 e.symm
  ·intro x hx
   obtain⟨y,hy,rfl⟩:=List.mem_map.1 hx
   obtain⟨y1,y2⟩:=(mem y).1 hy
   refine(mem _).2 ⟨?_,Nat.mod_lt _ (by omega)⟩
   rcases Nat.eq_zero_or_pos (a*y%p)with e |e
   ·exfalso
    rcases h.mul (Nat.dvd_of_mod_eq_zero e)with e |e
    ·exact ha e
    ·exact nd y hy e
   ·exact e
 have h1:=yn p a l
 rw[Cm hperm,ln]at h1
 -- cancel
 have hnd:=AV h l nd
 have hlt:0<a^(p-1):=by
  refine Nat.pow_pos ?_
  rcases Nat.eq_zero_or_pos a with e |e
  ·exact absurd (e▸Nat.dvd_zero p) ha
  ·exact e
 have hd:=pv (p:=p) (a:=a^(p-1)*kg p l) (b:=kg p l) h1.symm (Nat.le_mul_of_pos_left _ hlt)
 have e:a^(p-1)*kg p l-kg p l=(a^(p-1)-1)*kg p l:=by rw[Nat.sub_mul,Nat.one_mul]
 rw[e]at hd
 rcases h.mul hd with hd |hd
 ·obtain⟨c,hc⟩:=hd
  have:a^(p-1)=1+p*c:=by omega
  rw[this,Nat.add_mul_mod_self_left]
  exact Nat.mod_eq_of_lt (by omega)
 ·exact absurd hd hnd
def qQ(m a:Nat):Nat→Nat→Nat
 |0,_=>1%m
 |f+1,e=>bif Nat.beq (e%2) 1 then(qQ m a f (e/2)*qQ m a f (e/2)%m)*a%m else qQ m a f (e/2)*qQ m a f (e/2)%m
theorem uK(m a:Nat): ∀(f e:Nat),e<2^f→qQ m a f e=a^e%m
 |0,e,h=>by
  obtain rfl:e=0:=by omega
  rfl
 |f+1,e,h=>by
  have ih:=uK m a f (e/2) (by rw[Nat.pow_succ]at h;omega)
  unfold qQ
  rw[ih,←Nat.mul_mod,←Nat.pow_add]
  by_cases h2:e%2=1
  ·rw[h2]
   show(a^(e/2+e/2)%m)*a%m=_
   rw[Nat.mod_mul_mod,←Nat.pow_succ]
   congr 2;omega
  ·have:Nat.beq (e%2) 1=false:=by rw[←Bool.not_eq_true];intro h;exact h2 (Nat.eq_of_beq_eq_true h)
   rw[this]
   show a^(e/2+e/2)%m=_
   congr 2;omega
theorem uf{r a k:Nat}(h:a^k%r=1%r)(c:Nat):a^(k*c)%r=1%r:=by
 rw[Nat.pow_mul,Nat.pow_mod,h,←Nat.pow_mod,Nat.one_pow]
theorem Kb{r a:Nat}(m n:Nat):a^m%r=1%r→a^n%r=1%r→a^(Nat.gcd m n)%r=1%r:=by
 induction m,n using Nat.gcd.induction with
 |H0 n=>intro _ h;rw[Nat.gcd_zero_left];exact h
 |H1 m n hm ih=>
  intro h1 h2
  rw[Nat.gcd_rec]
  refine ih ?_ h1
  have h3:=uf h1 (n/m)
  have h4:a^n=a^(m*(n/m))*a^(n%m):=by rw[←Nat.pow_add,Nat.div_add_mod]
  rw[h4,Nat.mul_mod,h3,←Nat.mul_mod,Nat.one_mul]at h2
  exact h2
theorem A9{r n a b:Nat}(h:r∣n)(e:a%n=b%n):a%r=b%r:=by
 rw[←Nat.mod_mod_of_dvd a h,e,Nat.mod_mod_of_dvd b h]
theorem Nt{n q R a:Nat}(hq:mT q)(hn:n=q*R+1)(f:Nat)(hf:n<2^f)(h1:qQ n a f (q*R)=1)(h2:Nat.gcd (qQ n a f R+(n-1)) n=1){r:Nat}(hr:mT r)(hd:r∣n):q∣r-1:=by
 have hq2:=hq.1
 have hr2:=hr.1
 have hR:R≤q*R:=Nat.le_mul_of_pos_left _ (by omega)
 have hnpos:1<n:=by
  have:=Nat.le_of_dvd (by omega) hd
  omega
 rw[uK _ _ _ _ (by omega)]at h1 h2
 have e1:a^(q*R)%n=1%n:=by rw[h1,Nat.mod_eq_of_lt hnpos]
 have e1:=A9 hd e1
 false_or_by_contra
 rename_i hc
 have hra : ¬r∣a:=by
  intro ha
  have hq0:q*R≠0:=by omega
  have:r∣a^(q*R):=Nat.dvd_trans ha (by obtain⟨k,hk⟩ : ∃k,q*R=k+1:=⟨q*R-1,by omega⟩;rw[hk,Nat.pow_succ];exact Nat.dvd_mul_left _ _)
  rw[Nat.mod_eq_zero_of_dvd this,Nat.mod_eq_of_lt (by omega)]at e1
  omega
 have e2:=zj hr hra
 have e2:a^(r-1)%r=1%r:=by rw[e2,Nat.mod_eq_of_lt (by omega)]
 have e3:=Kb (q*R) (r-1) e1 e2
 have hcop:Nat.Coprime q (r-1):=hq.cop hc
 have e4:Nat.gcd (q*R) (r-1)=Nat.gcd R (r-1):=Nat.Coprime.gcd_mul_left_cancel R hcop
 rw[e4]at e3
 obtain⟨c,hcR⟩:=Nat.gcd_dvd_left R (r-1)
 have e5:=uf e3 c
 rw[←hcR]at e5
 -- r divides the number that is prime to n
 have uQ:r∣a^R%n+(n-1):=by
  have h5:(a^R%n+(n-1))%r=(1+(n-1))%r:=by
   rw[Nat.add_mod,Nat.mod_mod_of_dvd _ hd,e5,←Nat.add_mod]
  rw[show 1+(n-1)=n by omega,Nat.mod_eq_zero_of_dvd hd]at h5
  exact Nat.dvd_of_mod_eq_zero h5
 have:=Nat.dvd_gcd uQ hd
 rw[h2]at this
 have:=Nat.le_of_dvd (by omega) this
 omega
theorem Hh{n F:Nat}(h2:2≤n)(hF:n≤F*F)(h : ∀r,mT r→r∣n→F∣r-1):mT n:=by
 refine⟨h2,fun m hm=>?_⟩
 false_or_by_contra
 rename_i hc
 obtain⟨k,hk⟩:=hm
 have big : ∀d,d∣n→2≤d→F<d:=by
  intro d hd hd2
  obtain⟨r,hr,hrd⟩:=Pg d hd2
  have h3:=h r hr (Nat.dvd_trans hrd hd)
  have h4:=Nat.le_of_dvd (by have:=hr.1;omega) h3
  have h5:=Nat.le_of_dvd (by omega) hrd
  have:=hr.1
  omega
 have m0:m≠0:=fun e=>by subst e;omega
 have k0:k≠0:=fun e=>by subst e;omega
 have m2:2≤m:=by
  have:m≠1:=fun e=>hc (.inl e)
  omega
 have k2:2≤k:=by
  have:k≠1:=fun e=>hc (.inr (by rw[hk,e,Nat.mul_one]))
  omega
 have b1:=big m ⟨k,hk⟩ m2
 have b2:=big k ⟨m,by rw[hk,Nat.mul_comm]⟩ k2
 have:F*F<m*k:=Nat.mul_lt_mul'' b1 b2
 omega
theorem KT{p q r:Nat}(hp:mT p)(hq:mT q)(hne:p≠q)(h1:p∣r)(h2:q∣r):p*q∣r:=by
 refine Nat.Coprime.mul_dvd_of_dvd_of_dvd (hp.cop fun hd=>?_) h1 h2
 rcases hq.2 p hd with e |e
 ·have:=hp.1;omega
 ·exact hne e
theorem t_{n q R a:Nat}(hq:mT q)(f:Nat)(h:(Nat.beq n (q*R+1)&&(Nat.ble n (q*q)&&(Nat.ble 2 n&&(Nat.blt n (2^f)&&(Nat.beq (qQ n a f (q*R)) 1&&Nat.beq (Nat.gcd (qQ n a f R+(n-1)) n) 1)))))=true):mT n:=by
 simp only[Bool.and_eq_true,Nat.ble_eq,Nat.blt_eq]at h
 obtain⟨h1,h2,h3,h4,h5,h6⟩:=h
 exact Hh h3 h2 fun r hr hd=>Nt hq (Nat.eq_of_beq_eq_true h1) f h4 (Nat.eq_of_beq_eq_true h5) (Nat.eq_of_beq_eq_true h6) hr hd
theorem BA{n p q R S a b:Nat}(hp:mT p)(hq:mT q)(f:Nat)(h:(Nat.beq n (p*R+1)&&(Nat.beq n (q*S+1)&&(Nat.ble n ((p*q)*(p*q))&&(Nat.ble 2 n&&(Nat.blt n (2^f)&&(!Nat.beq p q&&(Nat.beq (qQ n a f (p*R)) 1&&(Nat.beq (Nat.gcd (qQ n a f R+(n-1)) n) 1&&(Nat.beq (qQ n b f (q*S)) 1&&Nat.beq (Nat.gcd (qQ n b f S+(n-1)) n) 1)))))))))=true):mT n:=by
 simp only[Bool.and_eq_true,Nat.ble_eq,Nat.blt_eq,Bool.not_eq_true']at h
 obtain⟨h1,h2,h3,h4,h5,h6,h7,h8,h9,h10⟩:=h
 have hne:p≠q:=fun e=>by subst e;simp at h6
 exact Hh h4 h3 fun r hr hd=>KT hp hq hne (Nt hp (Nat.eq_of_beq_eq_true h1) f h5 (Nat.eq_of_beq_eq_true h7) (Nat.eq_of_beq_eq_true h8) hr hd) (Nt hq (Nat.eq_of_beq_eq_true h2) f h5 (Nat.eq_of_beq_eq_true h9) (Nat.eq_of_beq_eq_true h10) hr hd)
def Br(n:Nat):Nat→Nat→Bool
 |0,d=>Nat.blt n (d*d)
 |f+1,d=>bif Nat.blt n (d*d)then true else !Nat.beq (n%d) 0&&Br n f (d+1)
theorem wx(n:Nat): ∀(f d:Nat),Br n f d=true→∀m,d≤m→m*m≤n→¬m∣n
 |0,d,h,m,hm,hmm,_=>by
  have h:n<d*d:=by unfold Br at h;exact Nat.blt_eq▸h
  have:=Nat.mul_le_mul hm hm
  omega
 |f+1,d,h,m,hm,hmm,hd=>by
  unfold Br at h
  cases hb:Nat.blt n (d*d)with
  |true=>
   have h:n<d*d:=Nat.blt_eq▸hb
   have:=Nat.mul_le_mul hm hm
   omega
  |false=>
   rw[hb,cond_false,Bool.and_eq_true,Bool.not_eq_true']at h
   by_cases e:m=d
   ·subst e
    rw[Nat.mod_eq_zero_of_dvd hd]at h
    exact absurd h.1 (by decide)
   ·exact wx n f (d+1) h.2 m (by omega) hmm hd
theorem jS{n:Nat}(f:Nat)(h:(Nat.ble 2 n&&Br n f 2)=true):mT n:=by
 rw[Bool.and_eq_true,Nat.ble_eq]at h
 refine⟨h.1,fun m hm=>?_⟩
 false_or_by_contra
 rename_i hc
 obtain⟨k,hk⟩:=hm
 have m0:m≠0:=fun e=>by subst e;omega
 have k0:k≠0:=fun e=>by subst e;omega
 have m1:m≠1:=fun e=>hc (.inl e)
 have k1:k≠1:=fun e=>hc (.inr (by rw[hk,e,Nat.mul_one]))
 rcases Nat.le_total m k with e |e
 ·exact wx n f 2 h.2 m (by omega) (by rw[hk];exact Nat.mul_le_mul_left m e) ⟨k,hk⟩
 ·exact wx n f 2 h.2 k (by omega) (by rw[hk];exact Nat.mul_le_mul_right k e) ⟨m,by rw[hk,Nat.mul_comm]⟩
theorem Jx:mT 127:=jS 12 (by decide +kernel)
theorem GG:mT 4153:=jS 65 (by decide +kernel)
theorem C6:mT 430751:=jS 657 (by decide +kernel)
theorem Cs:mT 531581:=jS 730 (by decide +kernel)
theorem CG:mT 569003:=jS 755 (by decide +kernel)
theorem Bc:mT 1224481:=jS 1107 (by decide +kernel)
theorem AC:mT 8574133:=jS 2929 (by decide +kernel)
theorem oB:mT 1919519569386763:=BA (p:=8574133) (q:=127) (R:=223873314) (S:=15114327318006) (a:=2) (b:=2) AC Jx 52 (by decide +kernel)
theorem ws:mT 2773320623:=t_ (q:=569003) (R:=4874) (a:=2) CG 33 (by decide +kernel)
theorem uu:mT 72106336199:=t_ (q:=2773320623) (R:=26) (a:=2) ws 38 (by decide +kernel)
theorem gC:mT 75445702479781427272750846543864801:=BA (p:=1919519569386763) (q:=72106336199) (R:=39304471641247389600) (S:=1046311689884858398375200) (a:=2) (b:=2) oB uu 117 (by decide +kernel)
theorem oq:mT 31757755568855353:=BA (p:=430751) (q:=4153) (R:=73726481352) (S:=7646943310584) (a:=2) (b:=2) C6 GG 56 (by decide +kernel)
theorem cq:mT 74058212732561358302231226437062788676166966415465897661863160754340907:=BA (p:=75445702479781427272750846543864801) (q:=31757755568855353) (R:=981609426360740691344999861639072106) (S:=2331972502653487852620185443007392165117953542933313402) (a:=2) (b:=2) gC oq 237 (by decide +kernel)
theorem bY:mT 57896044618658097711785492504343953926634992332820282019728792003956564819949:=t_ (q:=74058212732561358302231226437062788676166966415465897661863160754340907) (R:=781764) (a:=2) cq 256 (by decide +kernel)
theorem oE:mT 1257559732178653:=BA (p:=1224481) (q:=531581) (R:=1027014492) (S:=2365697292) (a:=2) (b:=2) Bc Cs 52 (by decide +kernel)
theorem mX:mT 4434155615661930479:=t_ (q:=1257559732178653) (R:=3526) (a:=2) oE 63 (by decide +kernel)
theorem jI:mT 172054593956031949258510691:=t_ (q:=4434155615661930479) (R:=38802110) (a:=2) mX 89 (by decide +kernel)
theorem fj:mT 19757330305831588566944191468367130476339:=t_ (q:=172054593956031949258510691) (R:=114831751082918) (a:=2) jI 135 (by decide +kernel)
theorem ff:mT 276602624281642239937218680557139826668747:=t_ (q:=19757330305831588566944191468367130476339) (R:=14) (a:=2) fj 139 (by decide +kernel)
theorem cd:mT 7237005577332262213973186563042994240857116359379907606001950938285454250989:=t_ (q:=276602624281642239937218680557139826668747) (R:=26163907866482859529727157400808004) (a:=2) ff 254 (by decide +kernel)
end Go.Ed
