/- A part of the proof of TopChain. No condition. -/
import Derived.Test.YtimjjookppejeaaGreatDoorZj
namespace Go.Ed
def pP:Nat:=57896044618658097711785492504343953926634992332820282019728792003956564819949
theorem Hm:mT pP:=bY
instance pP_ne:NeZero pP:=⟨by decide⟩
abbrev K:=Fin pP
def kv(n:Nat):K:=Fin.ofNat pP n
theorem kv_of(x:K):kv x.val=x:=Fin.ext (Nat.mod_eq_of_lt x.isLt)
theorem kv_add(a b:Nat):kv (a+b)=kv a+kv b:=Fin.ext (by show(a+b)%pP=(a%pP+b%pP)%pP;rw[Nat.add_mod])
theorem kv_mul(a b:Nat):kv (a*b)=kv a*kv b:=Fin.ext (by show(a*b)%pP=(a%pP*(b%pP))%pP;rw[Nat.mul_mod])
theorem kv_mod(a:Nat):kv (a%pP)=kv a:=Fin.ext (Nat.mod_mod a pP)
theorem kv_eq{a b:Nat}:kv a=kv b↔a%pP=b%pP:=⟨fun h=>congrArg Fin.val h,fun h=>Fin.ext h⟩
def iv(x:K):K:=kv (x.val^(pP-2))
theorem mul_iv{x:K}(h:x≠0):x*iv x=1:=by
 refine Fin.ext ?_
 show x.val*(x.val^(pP-2)%pP)%pP=1%pP
 rw[Nat.mul_mod_mod,←Nat.pow_succ',show(pP-2).succ=pP-1 by decide,zj Hm fun hd=>?_]
 ·decide
 ·refine h (Fin.ext ?_)
  have h1:=Nat.mod_eq_zero_of_dvd hd
  rw[Nat.mod_eq_of_lt x.isLt]at h1
  exact h1
theorem mul_zero'{x y:K}(h:x*y=0):x=0∨y=0:=by
 by_cases hx:x=0
 ·exact .inl hx
 ·right
  have:=mul_iv hx
  grind
theorem one_ne:(1:K)≠0:=by decide
theorem Hd:(2:K)≠0:=by decide
def dK:K:=kv 37095705934669439343138083508754565189542113879843219016388785533085940283555
def iK:K:=kv 19681161376707505956807079304988542015446066515923890162744021073123829784752
theorem L2:iK*iK = -1:=by decide +kernel
def On(x y:K):Prop:=y*y-x*x=1+dK*x*x*y*y
theorem J3:On 0 1:=by unfold On;decide +kernel
theorem NS:dK.val^((pP-1)/2)%pP=pP-1:=by
 have h:=uK pP dK.val 256 ((pP-1)/2) (by decide)
 rw[←h]
 decide +kernel
theorem Lc(u:K):u*u≠dK:=by
 intro h
 have hu : ¬pP∣u.val:=by
  intro hd
  have h0:u=0:=Fin.ext (by have:=Nat.mod_eq_zero_of_dvd hd;rw[Nat.mod_eq_of_lt u.isLt]at this;exact this)
  rw[h0]at h
  revert h
  decide +kernel
 have h1:=zj Hm hu
 have h2:=NS
 have h3:dK.val=u.val*u.val%pP:=by rw[←h];rfl
 rw[h3,←Nat.pow_mod,Nat.mul_pow,←Nat.pow_add,show(pP-1)/2+(pP-1)/2=pP-1 by decide,h1]at h2
 revert h2
 decide
theorem Gr{a w:K}(h:a*a=dK*(w*w)):w=0:=by
 by_cases hw:w=0
 ·exact hw
 ·exfalso
  have h1:=mul_iv hw
  refine Lc (a*iv w) ?_
  grind
theorem BN{x1 y1 x2 y2 e:K}(h1:On x1 y1)(h2:On x2 y2)(he:e=dK*x1*x2*y1*y2):e*e≠1:=by
 intro h
 unfold On at h1 h2
 have hi:=L2
 have e1:x1*y1*(iK*x2+y2)=0:=by
  refine Gr (a:=iK*x1+e*y1) ?_
  grind
 have e2:x1*y1*(iK*x2-y2)=0:=by
  refine Gr (a:=iK*x1-e*y1) ?_
  grind
 have e3:2*(x1*y1*y2)=0:=by grind
 have e4:x1*y1*y2=0:=(mul_zero' e3).resolve_left Hd
 have e5:e=0:=by rw[he];grind
 rw[e5]at h
 revert h
 decide
theorem DW{x1 y1 x2 y2:K}(h1:On x1 y1)(h2:On x2 y2):1+dK*x1*x2*y1*y2≠0:=by
 intro h
 have:=BN h1 h2 rfl
 grind
theorem DX{x1 y1 x2 y2:K}(h1:On x1 y1)(h2:On x2 y2):1-dK*x1*x2*y1*y2≠0:=by
 intro h
 have:=BN h1 h2 rfl
 grind
def t6(P:K×K):Prop:=On P.1 P.2
def pE(P Q:K×K):K:=dK*P.1*Q.1*P.2*Q.2
def jH(P Q:K×K):K×K:=((P.1*Q.2+Q.1*P.2)*iv (1+pE P Q),(P.2*Q.2+P.1*Q.1)*iv (1-pE P Q))
def pO:K×K:=(0,1)
def uB(P:K×K):K×K:=(-P.1,P.2)
theorem SM:t6 pO:=J3
theorem M5{P Q:K×K}(hP:t6 P)(hQ:t6 Q):(1+pE P Q)*iv (1+pE P Q)=1:=mul_iv (DW hP hQ)
theorem Pb{P Q:K×K}(hP:t6 P)(hQ:t6 Q):(1-pE P Q)*iv (1-pE P Q)=1:=mul_iv (DX hP hQ)
theorem cancel{a b c:K}(hc:c≠0)(h:a*c=b*c):a=b:=by
 have:=mul_iv hc
 grind
theorem wT{P Q:K×K}(hP:t6 P)(hQ:t6 Q):t6 (jH P Q):=by
 have a:=M5 hP hQ
 have b:=Pb hP hQ
 unfold t6 On jH at *
 generalize iv (1+pE P Q)=u at *
 generalize iv (1-pE P Q)=v at *
 unfold pE at a b
 obtain⟨x1,y1⟩:=P
 obtain⟨x2,y2⟩:=Q
 dsimp only at *
 grind
theorem tE(P Q:K×K):jH P Q=jH Q P:=by
 have h:pE P Q=pE Q P:=by unfold pE;grind
 unfold jH
 rw[h]
 refine Prod.ext ?_ ?_<;>dsimp only<;>grind
theorem MW:iv 1=1:=by
 have:=mul_iv one_ne
 grind
theorem oI(P:K×K):jH P pO=P:=by
 have h:pE P pO=0:=by
  show dK*P.1*0*P.2*1=0
  rw[Fin.mul_zero,Fin.zero_mul,Fin.zero_mul]
 unfold jH
 rw[h,Fin.add_zero,Fin.sub_eq_add_neg,show(-0:K)=0 by decide,Fin.add_zero,MW,Fin.mul_one,Fin.mul_one]
 refine Prod.ext ?_ ?_
 ·show P.1*1+0*P.2=P.1
  rw[Fin.mul_one,Fin.zero_mul,Fin.add_zero]
 ·show P.2*1+P.1*0=P.2
  rw[Fin.mul_one,Fin.mul_zero,Fin.add_zero]
theorem C9{P:K×K}(hP:t6 P):t6 (uB P):=by
 unfold t6 On uB at *
 dsimp only
 grind
theorem Hf{P:K×K}(hP:t6 P):jH P (uB P)=pO:=by
 have a:=M5 hP (C9 hP)
 have b:=Pb hP (C9 hP)
 unfold jH pO
 generalize iv (1+pE P (uB P))=u at *
 generalize iv (1-pE P (uB P))=v at *
 unfold pE uB at *
 unfold t6 On at hP
 obtain⟨x,y⟩:=P
 refine Prod.ext ?_ ?_<;>dsimp only at * <;>grind
theorem Lx{e x1 y1 x2 y2 x3 y3:K}(h1:x1*x1*y1*y1=e*(y1*y1-x1*x1-1))(h2:x2*x2*y2*y2=e*(y2*y2-x2*x2-1))(h3:x3*x3*y3*y3=e*(y3*y3-x3*x3-1)):
  ((x1*y2+x2*y1)*(e-x1*x2*y1*y2)*y3+x3*((y1*y2+x1*x2)*(e+x1*x2*y1*y2)))*((e+x2*x3*y2*y3)*(e-x2*x3*y2*y3)+e*(x1*y1*((x2*y3+x3*y2)*(y2*y3+x2*x3))))=(x1*((y2*y3+x2*x3)*(e+x2*x3*y2*y3))+(x2*y3+x3*y2)*(e-x2*x3*y2*y3)*y1)*((e+x1*x2*y1*y2)*(e-x1*x2*y1*y2)+e*(x3*y3*((x1*y2+x2*y1)*(y1*y2+x1*x2)))):=by
 grind -linarith -lia (splits:=0) (ringSteps:=10000000)
theorem Kr{e x1 y1 x2 y2 x3 y3:K}(h1:x1*x1*y1*y1=e*(y1*y1-x1*x1-1))(h2:x2*x2*y2*y2=e*(y2*y2-x2*x2-1))(h3:x3*x3*y3*y3=e*(y3*y3-x3*x3-1)):
  ((y1*y2+x1*x2)*(e+x1*x2*y1*y2)*y3+(x1*y2+x2*y1)*(e-x1*x2*y1*y2)*x3)*((e+x2*x3*y2*y3)*(e-x2*x3*y2*y3)-e*(x1*y1*((x2*y3+x3*y2)*(y2*y3+x2*x3))))=(y1*((y2*y3+x2*x3)*(e+x2*x3*y2*y3))+x1*((x2*y3+x3*y2)*(e-x2*x3*y2*y3)))*((e+x1*x2*y1*y2)*(e-x1*x2*y1*y2)-e*(x3*y3*((x1*y2+x2*y1)*(y1*y2+x1*x2)))):=by
 grind -linarith -lia (splits:=0) (ringSteps:=10000000)
theorem Ts{a1 b1 a2 b2 e d s t r q xa ya xc yc x1 y1 x3 y3:K}(de:d*e=1)(hxa:xa*a1=e*s)(hya:ya*b1=e*t)(hxc:xc*a2=e*r)(hyc:yc*b2=e*q)
  (H:(s*b1*y3+x3*(t*a1))*(a2*b2+e*(x1*y1*(r*q)))=(x1*(q*a2)+r*b2*y1)*(a1*b1+e*(x3*y3*(s*t)))) :
  (xa*y3+x3*ya)*(1+d*x1*xc*y1*yc)*(a1*b1*a2*b2*e)=(x1*yc+xc*y1)*(1+d*xa*x3*ya*y3)*(a1*b1*a2*b2*e):=by
 have h1:(xa*y3+x3*ya)*(1+d*x1*xc*y1*yc)*(a1*b1*a2*b2*e)=((xa*a1)*b1*y3+x3*(ya*b1)*a1)*(e*a2*b2+(d*e)*x1*y1*(xc*a2)*(yc*b2)):=by
  clear de hxa hya hxc hyc H;grind -linarith -lia (splits:=0)
 have h2:(x1*yc+xc*y1)*(1+d*xa*x3*ya*y3)*(a1*b1*a2*b2*e)=(x1*(yc*b2)*a2+(xc*a2)*b2*y1)*(e*a1*b1+(d*e)*x3*y3*(xa*a1)*(ya*b1)):=by
  clear de hxa hya hxc hyc H;grind -linarith -lia (splits:=0)
 rw[h1,h2,de,hxa,hya,hxc,hyc]
 clear h1 h2 de hxa hya hxc hyc
 grind -linarith -lia (splits:=0)
theorem TP{a1 b1 a2 b2 e d s t r q xa ya xc yc x1 y1 x3 y3:K}(de:d*e=1)(hxa:xa*a1=e*s)(hya:ya*b1=e*t)(hxc:xc*a2=e*r)(hyc:yc*b2=e*q)
  (H:(t*a1*y3+s*b1*x3)*(a2*b2-e*(x1*y1*(r*q)))=(y1*(q*a2)+x1*(r*b2))*(a1*b1-e*(x3*y3*(s*t)))) :
  (ya*y3+xa*x3)*(1-d*x1*xc*y1*yc)*(a1*b1*a2*b2*e)=(y1*yc+x1*xc)*(1-d*xa*x3*ya*y3)*(a1*b1*a2*b2*e):=by
 have h1:(ya*y3+xa*x3)*(1-d*x1*xc*y1*yc)*(a1*b1*a2*b2*e)=((ya*b1)*a1*y3+(xa*a1)*b1*x3)*(e*a2*b2-(d*e)*x1*y1*(xc*a2)*(yc*b2)):=by
  clear de hxa hya hxc hyc H;grind -linarith -lia (splits:=0)
 have h2:(y1*yc+x1*xc)*(1-d*xa*x3*ya*y3)*(a1*b1*a2*b2*e)=(y1*(yc*b2)*a2+x1*(xc*a2)*b2)*(e*a1*b1-(d*e)*x3*y3*(xa*a1)*(ya*b1)):=by
  clear de hxa hya hxc hyc H;grind -linarith -lia (splits:=0)
 rw[h1,h2,de,hxa,hya,hxc,hyc]
 clear h1 h2 de hxa hya hxc hyc
 grind -linarith -lia (splits:=0)
theorem nA{a b:K}(ha:a≠0)(hb:b≠0):a*b≠0:=fun h=>(mul_zero' h).elim ha hb
theorem Sa:dK≠0:=by decide +kernel
theorem OB{d i x y:K}(de:d*i=1)(h:y*y-x*x=1+d*x*x*y*y):x*x*y*y=i*(y*y-x*x-1):=by
 grind -linarith -lia (splits:=0)
theorem P8{d i m u s M:K}(de:d*i=1)(hM:M=d*m)(h:(1+M)*u=1):s*u*(i+m)=i*s:=by
 subst hM
 grind -linarith -lia (splits:=0)
theorem RF{d i m u s M:K}(de:d*i=1)(hM:M=d*m)(h:(1-M)*u=1):s*u*(i-m)=i*s:=by
 subst hM
 grind -linarith -lia (splits:=0)
theorem Mj{d i m:K}(de:d*i=1)(h:1+d*m≠0):i+m≠0:=fun h2=>h (by grind -linarith -lia (splits:=0))
theorem Mp{d i m:K}(de:d*i=1)(h:1-d*m≠0):i-m≠0:=fun h2=>h (by grind -linarith -lia (splits:=0))
theorem Sc{A B E F k m:K}(h1:E*k=1)(h2:F*m=1)(X:A*F=B*E):A*k=B*m:=by
 have h3:A*k=(A*F)*k*m:=by clear X;grind -linarith -lia (splits:=0)
 rw[h3,X]
 grind -linarith -lia (splits:=0)
theorem GO(a b c d:K):dK*a*b*c*d=dK*(a*b*c*d):=by grind -linarith -lia (splits:=0)
theorem wE{P Q R:K×K}(hP:t6 P)(hQ:t6 Q)(hR:t6 R):jH (jH P Q) R=jH P (jH Q R):=by
 have de:=mul_iv Sa
 have e0:iv dK≠0:=fun h=>by rw[h,Fin.mul_zero]at de;exact one_ne de.symm
 have a:=M5 hP hQ
 have b:=Pb hP hQ
 have c:=M5 hQ hR
 have d:=Pb hQ hR
 have e:=M5 (wT hP hQ) hR
 have f:=Pb (wT hP hQ) hR
 have g:=M5 hP (wT hQ hR)
 have h:=Pb hP (wT hQ hR)
 have a':=DW hP hQ
 have b':=DX hP hQ
 have c':=DW hQ hR
 have d':=DX hQ hR
 rw[GO]at a' b' c' d'
 have a':=Mj de a'
 have b':=Mp de b'
 have c':=Mj de c'
 have d':=Mp de d'
 have q1:=OB de hP
 have q2:=OB de hQ
 have q3:=OB de hR
 have hn:=nA (nA (nA (nA a' b') c') d') e0
 have a:=P8 (s:=P.1*Q.2+Q.1*P.2) de (GO _ _ _ _) a
 have b:=RF (s:=P.2*Q.2+P.1*Q.1) de (GO _ _ _ _) b
 have c:=P8 (s:=Q.1*R.2+R.1*Q.2) de (GO _ _ _ _) c
 have d:=RF (s:=Q.2*R.2+Q.1*R.1) de (GO _ _ _ _) d
 have X:=cancel hn (Ts de a b c d (Lx q1 q2 q3))
 have Y:=cancel hn (TP de a b c d (Kr q1 q2 q3))
 clear q1 q2 q3 a b c d a' b' c' d' hn de e0
 unfold jH pE at *
 dsimp only at *
 refine Prod.ext ?_ ?_
 ·exact Sc e g X
 ·exact Sc f h Y
def bP:K×K:=(kv 15112221349535400772501151409588531511454012693041857206046113283949847762202,kv 46316835694926478169428394003475163141307993866256225615783033603165251855960)
theorem on_B:t6 bP:=by
 show kv 46316835694926478169428394003475163141307993866256225615783033603165251855960*kv 46316835694926478169428394003475163141307993866256225615783033603165251855960-kv 15112221349535400772501151409588531511454012693041857206046113283949847762202*kv 15112221349535400772501151409588531511454012693041857206046113283949847762202=1+dK*kv 15112221349535400772501151409588531511454012693041857206046113283949847762202*kv 15112221349535400772501151409588531511454012693041857206046113283949847762202*kv 46316835694926478169428394003475163141307993866256225615783033603165251855960*kv 46316835694926478169428394003475163141307993866256225615783033603165251855960
 decide +kernel
def nB:Nat→K×K
 |0=>pO
 |n+1=>jH (nB n) bP
theorem on_nB : ∀n,t6 (nB n)
 |0=>SM
 |n+1=>wT (on_nB n) on_B
theorem nB_add(m:Nat): ∀n,jH (nB m) (nB n)=nB (m+n)
 |0=>oI _
 |n+1=>by
  show jH (nB m) (jH (nB n) bP)=jH (nB (m+n)) bP
  rw[←wE (on_nB m) (on_nB n) on_B,nB_add m n]
structure Ex where
 x:K
 y:K
 z:K
 t:K
def Ex.reps(E:Ex)(P:K×K):Prop:=E.z≠0∧E.x=P.1*E.z∧E.y=P.2*E.z∧E.t=P.1*P.2*E.z
def Ub:Ex:=⟨0,1,1,0⟩
theorem exO_reps:Ub.reps pO:=⟨one_ne,by decide,by decide,by decide⟩
def jq(P Q:Ex):Ex:=
 let a:=(P.y-P.x)*(Q.y-Q.x)
 let b:=(P.y+P.x)*(Q.y+Q.x)
 let c:=P.t*(dK+dK)*Q.t
 let d:=P.z*Q.z+P.z*Q.z
 ⟨(b-a)*(d-c),(d+c)*(b+a),(d-c)*(d+c),(b-a)*(b+a)⟩
theorem T6{x1 y1 x2 y2 z w:K}:(y1*z+x1*z)*(y2*w+x2*w)-(y1*z-x1*z)*(y2*w-x2*w)=2*(z*w)*(x1*y2+x2*y1):=by grind -linarith -lia (splits:=0)
theorem SD{x1 y1 x2 y2 z w:K}:(y1*z+x1*z)*(y2*w+x2*w)+(y1*z-x1*z)*(y2*w-x2*w)=2*(z*w)*(y1*y2+x1*x2):=by grind -linarith -lia (splits:=0)
theorem Tm{x1 y1 x2 y2 z w d:K}:(z*w+z*w)-x1*y1*z*(d+d)*(x2*y2*w)=2*(z*w)*(1-d*x1*x2*y1*y2):=by grind -linarith -lia (splits:=0)
theorem Td{x1 y1 x2 y2 z w d:K}:(z*w+z*w)+x1*y1*z*(d+d)*(x2*y2*w)=2*(z*w)*(1+d*x1*x2*y1*y2):=by grind -linarith -lia (splits:=0)
theorem SK{q s t a b u v:K}(ha:a*u=1)(hb:b*v=1):q*s*(q*b)=s*u*(q*b*(q*a)):=by
 have:s*u*(q*b*(q*a))=q*s*(q*b)*(a*u):=by clear ha hb;grind -linarith -lia (splits:=0)
 rw[this,ha,Fin.mul_one]
theorem TI{q s t a b u v:K}(ha:a*u=1)(hb:b*v=1):q*a*(q*t)=t*v*(q*b*(q*a)):=by
 have:t*v*(q*b*(q*a))=q*a*(q*t)*(b*v):=by clear ha hb;grind -linarith -lia (splits:=0)
 rw[this,hb,Fin.mul_one]
theorem TX{q s t a b u v:K}(ha:a*u=1)(hb:b*v=1):q*s*(q*t)=s*u*(t*v)*(q*b*(q*a)):=by
 have:s*u*(t*v)*(q*b*(q*a))=q*s*(q*t)*(a*u)*(b*v):=by clear ha hb;grind -linarith -lia (splits:=0)
 rw[this,ha,hb,Fin.mul_one,Fin.mul_one]
theorem exAdd_reps{E F:Ex}{P Q:K×K}(hE:E.reps P)(hF:F.reps Q)(hP:t6 P)(hQ:t6 Q):(jq E F).reps (jH P Q):=by
 obtain⟨ex,ey,ez,et⟩:=E
 obtain⟨fx,fy,fz,ft⟩:=F
 obtain⟨h1,h2,h3,h4⟩:=hE
 obtain⟨k1,k2,k3,k4⟩:=hF
 dsimp only at h1 h2 h3 h4 k1 k2 k3 k4
 subst h2 h3 h4 k2 k3 k4
 have a:=M5 hP hQ
 have b:=Pb hP hQ
 have hq:2*(ez*fz)≠0:=nA Hd (nA h1 k1)
 unfold Ex.reps jq
 dsimp only
 rw[T6,SD,Tm,Td]
 refine⟨nA (nA hq (DX hP hQ)) (nA hq (DW hP hQ)),?_,?_,?_⟩
 ·exact SK (t:=0) a b
 ·exact TI (s:=0) a b
 ·exact TX a b
def fZ(p:Ex):Nat→Nat→Ex
 |0,_=>Ub
 |n+1,k=>bif Nat.beq (k%2) 1 then jq (jq (fZ p n (k/2)) (fZ p n (k/2))) p else jq (fZ p n (k/2)) (fZ p n (k/2))
theorem u7{p:Ex}{a:Nat}(hp:p.reps (nB a)): ∀(n k:Nat),k<2^n→(fZ p n k).reps (nB (k*a))
 |0,k,h=>by
  obtain rfl:k=0:=by omega
  rw[Nat.zero_mul]
  exact exO_reps
 |n+1,k,h=>by
  have ih:=u7 hp n (k/2) (by rw[Nat.pow_succ]at h;omega)
  have h2:=exAdd_reps ih ih (on_nB _) (on_nB _)
  rw[nB_add,←Nat.add_mul]at h2
  unfold fZ
  by_cases hk:k%2=1
  ·rw[hk]
   show Ex.reps (jq _ p) _
   have h3:=exAdd_reps h2 hp (on_nB _) (on_nB _)
   rw[nB_add,←Nat.succ_mul,show(k/2+k/2).succ=k by omega]at h3
   exact h3
  ·have:Nat.beq (k%2) 1=false:=by rw[←Bool.not_eq_true];intro h;exact hk (Nat.eq_of_beq_eq_true h)
   rw[this]
   show Ex.reps (jq _ _) _
   rw[show k/2+k/2=k by omega]at h2
   exact h2
def pL:Nat:=7237005577332262213973186563042994240857116359379907606001950938285454250989
theorem Ob:mT pL:=cd
def L5:Ex:=⟨kv 15112221349535400772501151409588531511454012693041857206046113283949847762202,kv 46316835694926478169428394003475163141307993866256225615783033603165251855960,1,kv 15112221349535400772501151409588531511454012693041857206046113283949847762202*kv 46316835694926478169428394003475163141307993866256225615783033603165251855960⟩
theorem G4:L5.reps (nB 1):=by
 have h:nB 1=bP:=by show jH pO bP=bP;rw[tE,oI]
 rw[h]
 refine⟨one_ne,?_,?_,?_⟩
 ·show _=_*(1:K);rw[Fin.mul_one];rfl
 ·show _=_*(1:K);rw[Fin.mul_one];rfl
 ·show _=_*(1:K);rw[Fin.mul_one];rfl
def KV{α:Type}(n:Nat)(f:Nat→α):α:=Nat.rec (motive:=fun _=>α) (f 0) (fun m _=>f (m+1)) n
theorem oG{α:Type}(n:Nat)(f:Nat→α):KV n f=f n:=by cases n<;>rfl
def FQ{α:Type}(x y z t u v w s:Nat)(f:Nat→Nat→Nat→Nat→α):α:=
 KV ((y+(pP-x))*(v+(pP-u))%pP) fun a=>
 KV ((y+x)*(v+u)%pP) fun b=>
 KV (t*(2*dK.val)%pP*s%pP) fun c=>
 KV (2*(z*w)%pP) fun d=>
 KV ((b+(pP-a))*(d+(pP-c))%pP) fun X=>
 KV ((d+c)*(b+a)%pP) fun Y=>
 KV ((d+(pP-c))*(d+c)%pP) fun Z=>
 KV ((b+(pP-a))*(b+a)%pP) fun T=>f X Y Z T
def IX{α:Type}(x y z t:Nat):Nat→Nat→(Nat→Nat→Nat→Nat→α)→α
 |0,_,f=>f 0 1 1 0
 |n+1,k,f=>IX x y z t n (k/2) fun X Y Z T=>FQ X Y Z T X Y Z T fun X Y Z T=>bif Nat.beq (k%2) 1 then FQ X Y Z T x y z t f else f X Y Z T
theorem Pj(x:K):kv (pP-x.val) = -x:=by
 refine Fin.ext ?_
 show(pP-x.val)%pP=(-x).val
 rw[Fin.neg_def]
theorem PB(y x:K):kv (y.val+(pP-x.val))=y-x:=by
 rw[kv_add,Pj,kv_of,Fin.sub_eq_add_neg]
theorem oS{n:Nat}{x:K}(h:kv n=x):n%pP=x.val:=by rw[←h];rfl
theorem D4{α:Type}(E F:Ex)(f:Nat→Nat→Nat→Nat→α):FQ E.x.val E.y.val E.z.val E.t.val F.x.val F.y.val F.z.val F.t.val f=f (jq E F).x.val (jq E F).y.val (jq E F).z.val (jq E F).t.val:=by
 unfold FQ jq
 dsimp only
 have ha:=oS (show kv ((E.y.val+(pP-E.x.val))*(F.y.val+(pP-F.x.val)))=(E.y-E.x)*(F.y-F.x) by rw[kv_mul,PB,PB])
 have hb:=oS (show kv ((E.y.val+E.x.val)*(F.y.val+F.x.val))=(E.y+E.x)*(F.y+F.x) by rw[kv_mul,kv_add,kv_add,kv_of,kv_of,kv_of,kv_of])
 have hc:=oS (show kv (E.t.val*(2*dK.val)%pP*F.t.val)=E.t*(dK+dK)*F.t by rw[kv_mul,kv_mod,kv_mul,Nat.two_mul,kv_add,kv_of,kv_of,kv_of])
 have hd:=oS (show kv (2*(E.z.val*F.z.val))=E.z*F.z+E.z*F.z by rw[Nat.two_mul,kv_add,kv_mul,kv_of,kv_of])
 rw[oG,oG,oG,oG,ha,hb,hc,hd]
 generalize (E.y-E.x)*(F.y-F.x)=a
 generalize (E.y+E.x)*(F.y+F.x)=b
 generalize E.t*(dK+dK)*F.t=c
 generalize E.z*F.z+E.z*F.z=d
 have h1:=oS (show kv ((b.val+(pP-a.val))*(d.val+(pP-c.val)))=(b-a)*(d-c) by rw[kv_mul,PB,PB])
 have h2:=oS (show kv ((d.val+c.val)*(b.val+a.val))=(d+c)*(b+a) by rw[kv_mul,kv_add,kv_add,kv_of,kv_of,kv_of,kv_of])
 have h3:=oS (show kv ((d.val+(pP-c.val))*(d.val+c.val))=(d-c)*(d+c) by rw[kv_mul,PB,kv_add,kv_of,kv_of])
 have h4:=oS (show kv ((b.val+(pP-a.val))*(b.val+a.val))=(b-a)*(b+a) by rw[kv_mul,PB,kv_add,kv_of,kv_of])
 rw[oG,oG,oG,oG,h1,h2,h3,h4]
theorem z0:((0:K)).val=0:=rfl
theorem z1:((1:K)).val=1:=rfl
theorem Pp{α:Type}(p:Ex)(k:Nat)(f:Nat→Nat→Nat→Nat→α):f 0 1 1 0=f (fZ p 0 k).x.val (fZ p 0 k).y.val (fZ p 0 k).z.val (fZ p 0 k).t.val:=by
 show f 0 1 1 0=f ((0:K)).val ((1:K)).val ((1:K)).val ((0:K)).val
 rw[z0,z1]
theorem NM(p:Ex)(n k:Nat)(h:Nat.beq (k%2) 1=true):fZ p (n+1) k=jq (jq (fZ p n (k/2)) (fZ p n (k/2))) p:=by
 rw[fZ,h];rfl
theorem Pq(p:Ex)(n k:Nat)(h:Nat.beq (k%2) 1=false):fZ p (n+1) k=jq (fZ p n (k/2)) (fZ p n (k/2)):=by
 rw[fZ,h];rfl
theorem Ox{α:Type}(x y z t n k:Nat)(f:Nat→Nat→Nat→Nat→α):IX x y z t (n+1) k f=IX x y z t n (k/2) fun X Y Z T=>FQ X Y Z T X Y Z T fun X Y Z T=>bif Nat.beq (k%2) 1 then FQ X Y Z T x y z t f else f X Y Z T:=rfl
theorem Lr{α:Type}(p:Ex)(n:Nat): ∀(k:Nat) (f:Nat→Nat→Nat→Nat→α),IX p.x.val p.y.val p.z.val p.t.val n k f=f (fZ p n k).x.val (fZ p n k).y.val (fZ p n k).z.val (fZ p n k).t.val:=by
 induction n with
 |zero=>intro k f;exact Pp p k f
 |succ n ih=>
  intro k f
  rw[Ox,ih,D4]
  cases h:Nat.beq (k%2) 1 with
  |true=>rw[NM p n k h,cond_true,D4]
  |false=>rw[Pq p n k h,cond_false]
theorem RU{x:K}(h:Nat.beq x.val 0=true):x=0:=Fin.ext ((Nat.eq_of_beq_eq_true h).trans z0.symm)
theorem Nf{x y:K}(h:Nat.beq x.val y.val=true):x=y:=Fin.ext (Nat.eq_of_beq_eq_true h)
theorem Pm:IX 15112221349535400772501151409588531511454012693041857206046113283949847762202 46316835694926478169428394003475163141307993866256225615783033603165251855960 1 46827403850823179245072216630277197565144205554125654976674165829533817101731 253 pL (fun X Y Z _=>(Nat.beq X 0&&Nat.beq Y Z)&&!Nat.beq Z 0)=true:=by decide +kernel
theorem Qz:L5.x.val=15112221349535400772501151409588531511454012693041857206046113283949847762202∧L5.y.val=46316835694926478169428394003475163141307993866256225615783033603165251855960∧L5.z.val=1∧L5.t.val=46827403850823179245072216630277197565144205554125654976674165829533817101731:=⟨by decide +kernel,by decide +kernel,by decide +kernel,by decide +kernel⟩
theorem Qj:pL<2^253:=by decide
theorem SC:nB pL=pO:=by
 have h:=Pm
 obtain⟨v1,v2,v3,v4⟩:=Qz
 rw[←v1,←v2,←v3,←v4]at h
 rw[Lr]at h
 simp only[Bool.and_eq_true]at h
 obtain⟨⟨h1,h2⟩,_⟩:=h
 have r:=u7 G4 253 pL Qj
 rw[Nat.mul_one]at r
 obtain⟨r1,r2,r3,r4⟩:=r
 have h1:(fZ L5 253 pL).x=0:=RU h1
 have h2:(fZ L5 253 pL).y=(fZ L5 253 pL).z:=Nf h2
 rw[h1]at r2
 rw[h2]at r3
 refine Prod.ext ?_ ?_
 ·exact(mul_zero' r2.symm).resolve_right r1
 ·exact(cancel r1 ((Fin.one_mul _).trans r3)).symm
theorem nB_mod(a:Nat):nB (a%pL)=nB a:=by
 have h : ∀k,nB (pL*k)=pO:=by
  intro k
  induction k with
  |zero=>rfl
  |succ k ih=>rw[Nat.mul_succ,←nB_add,ih,SC,oI]
 conv=>rhs;rw[←Nat.mod_add_div a pL,←nB_add,h,oI]
theorem RP:bP≠pO:=by
 intro h
 have:=congrArg (fun P:K×K=>P.1.val) h
 revert this
 decide +kernel
theorem nB_1:nB 1=bP:=by show jH pO bP=bP;rw[tE,oI]
theorem nB_O{a:Nat}(h:nB a=pO):pL∣a:=by
 false_or_by_contra
 rename_i hd
 have hc : ∀k,nB (a*k)=pO:=by
  intro k
  induction k with
  |zero=>rfl
  |succ k ih=>rw[Nat.mul_succ,←nB_add,ih,h,oI]
 have e:(pL-2).succ=pL-1:=by decide
 have f:=zj Ob hd
 generalize pL-2=m at e
 generalize pL-1=n at e f
 subst e
 have h1:=hc (a^m)
 rw[←Nat.pow_succ',←nB_mod,f,nB_1]at h1
 exact RP h1
theorem pNeg_eq{a b:Nat}(h:pL∣a+b):uB (nB a)=nB b:=by
 have h1:nB (a+b)=pO:=by rw[←nB_mod,Nat.mod_eq_zero_of_dvd h];rfl
 have h2:jH (nB b) (jH (nB a) (uB (nB a)))=nB b:=by rw[Hf (on_nB a),oI]
 rw[←wE (on_nB b) (on_nB a) (C9 (on_nB a)),nB_add,Nat.add_comm,h1,tE,oI]at h2
 exact h2
def kpow(x:K)(n:Nat):K:=kv (x.val^n)
theorem kpow_zero(x:K):kpow x 0=1:=rfl
theorem kpow_succ(x:K)(n:Nat):kpow x (n+1)=kpow x n*x:=by unfold kpow;rw[Nat.pow_succ,kv_mul,kv_of]
theorem kpow_add(x:K)(m n:Nat):kpow x (m+n)=kpow x m*kpow x n:=by unfold kpow;rw[Nat.pow_add,kv_mul]
theorem IS(x:K):kpow x 2=x*x:=by rw[kpow_succ,kpow_succ,kpow_zero,Fin.one_mul]
theorem Kl(x:K)(n:Nat):kpow (x*x) n=kpow x (n+n):=by
 induction n with
 |zero=>rfl
 |succ n ih=>rw[kpow_succ,ih,show n+1+(n+1)=(n+n)+1+1 by omega,kpow_succ,kpow_succ,Fin.mul_assoc]
theorem LN(x:K):iv x=kpow x (pP-2):=rfl
theorem IN{x:K}(h:x≠0):kpow x (pP-1)=1:=by
 have h1:=mul_iv h
 rw[LN,Fin.mul_comm,←kpow_succ]at h1
 exact h1
theorem HG{n:Nat}(h:0<n):kpow 0 n=0:=by
 obtain⟨m,rfl⟩ : ∃m,n=m+1:=⟨n-1,by omega⟩
 rw[kpow_succ,Fin.mul_zero]
theorem Kv(a e:Nat)(h:e<2^256):(kpow (kv a) e).val=qQ pP a 256 e:=by
 rw[uK pP a 256 e h]
 show((a%pP)^e)%pP=_
 rw[←Nat.pow_mod]
def i2:K:=kpow (kv 2) ((pP-1)/4)
theorem MP:i2=iK:=by
 refine Fin.ext ?_
 have e:=Kv 2 ((pP-1)/4) (by decide)
 refine Eq.trans e ?_
 decide +kernel
theorem RW:i2*i2 = -1:=by rw[MP];exact L2
theorem sq_root{x v:K}(h:x*x=v):kpow v ((pP+3)/8)*kpow v ((pP+3)/8)=v∨(kpow v ((pP+3)/8)*i2)*(kpow v ((pP+3)/8)*i2)=v:=by
 subst h
 by_cases hx:x=0
 ·subst hx
  left
  rw[show(0:K)*0=0 from Fin.mul_zero 0,HG (by decide),Fin.mul_zero]
 ·have e0:(pP+3)/8+(pP+3)/8+((pP+3)/8+(pP+3)/8)=2+(pP-1)/2:=by decide
  have e1:(pP-1)/2+(pP-1)/2=pP-1:=by decide
  generalize (pP+3)/8=m at *
  have h1:kpow (x*x) m*kpow (x*x) m=x*x*kpow x ((pP-1)/2):=by
   rw[Kl,←kpow_add,e0,kpow_add,IS]
  have h2:kpow x ((pP-1)/2)*kpow x ((pP-1)/2)=1:=by rw[←kpow_add,e1,IN hx]
  generalize kpow x ((pP-1)/2)=h at h1 h2
  generalize kpow (x*x) m=r at h1⊢
  have h3:(h-1)*(h+1)=0:=by grind -linarith -lia (splits:=0)
  have hi:=RW
  rcases mul_zero' h3 with h4 |h4
  ·left
   have:h=1:=by grind -linarith -lia (splits:=0)
   rw[h1,this,Fin.mul_one]
  ·right
   have h5:h = -1:=by grind -linarith -lia (splits:=0)
   rw[h5]at h1
   generalize i2=j at *
   grind -linarith -lia (splits:=0)
theorem NV{r x:K}(h:r*r=x*x):r=x∨r = -x:=by
 have h3:(r-x)*(r+x)=0:=by grind -linarith -lia (splits:=0)
 rcases mul_zero' h3 with h4 |h4
 ·left;grind -linarith -lia (splits:=0)
 ·right;grind -linarith -lia (splits:=0)
theorem Kj{x:K}(h:x≠0):(-x).val=pP-x.val:=by
 rw[Fin.neg_def]
 show(pP-x.val)%pP=_
 refine Nat.mod_eq_of_lt ?_
 have:x.val≠0:=fun e=>h (Fin.ext e)
 have:=x.isLt
 omega
theorem yQ:(-0:K)=0:=by decide
theorem D6{x:K}(h:x≠0):(-x).val%2≠x.val%2:=by
 rw[Kj h]
 have:x.val≠0:=fun e=>h (Fin.ext e)
 have h1:=x.isLt
 have h2:pP%2=1:=by decide
 omega
def evn(r:K):K:=if r.val%2=1 then -r else r
theorem Hy(r:K):(evn r).val%2=0:=by
 unfold evn
 split
 ·rename_i h
  have h0:r≠0:=fun e=>by subst e;revert h;decide
  have:=D6 h0
  omega
 ·omega
theorem IU(r:K):evn r*evn r=r*r:=by
 unfold evn
 split
 ·grind -linarith -lia (splits:=0)
 ·rfl
theorem dec_x{r x:K}(h:r*r=x*x):(if x.val%2=1 then -(evn r)else evn r)=x:=by
 have h1:evn r*evn r=x*x:=(IU r).trans h
 have h2:=Hy r
 generalize evn r=q at h1 h2
 rcases NV h1 with rfl |rfl
 ·rw[if_neg (by omega)]
 ·by_cases hx:x=0
  ·subst hx
   rw[yQ]
   split
   ·exact yQ
   ·rfl
  ·have:=D6 hx
   rw[if_pos (by omega)]
   grind -linarith -lia (splits:=0)
theorem dec_0{r x:K}(h:r*r=x*x)(hx:x.val%2=1):evn r≠0:=by
 intro h0
 have h1:evn r*evn r=x*x:=(IU r).trans h
 rw[h0,Fin.mul_zero]at h1
 have:x=0:=(mul_zero' h1.symm).elim id id
 subst this
 revert hx
 decide
theorem Nh:dK≠ -1:=by decide +kernel
theorem dec_v{x y:K}(h:On x y):(y*y-1)*iv (dK*(y*y)+1)=x*x:=by
 unfold On at h
 have h1:y*y-1=x*x*(dK*(y*y)+1):=by grind -linarith -lia (splits:=0)
 have hn:dK*(y*y)+1≠0:=by
  intro h0
  rw[h0,Fin.mul_zero]at h1
  have h2:y*y=1:=by grind -linarith -lia (splits:=0)
  rw[h2,Fin.mul_one]at h0
  exact Nh (by grind -linarith -lia (splits:=0))
 rw[h1,Fin.mul_assoc,mul_iv hn,Fin.mul_one]
end Go.Ed
