/- A part of the proof of TopChain. No condition. -/
import Derived.Test.YtimjjookppejeaaGreatDoorZf
namespace Go.Proofs.YtimjjookppejeaaGreatDoor
open Go.Gk Go.RowKit
set_option maxRecDepth 100000
def eL{α:Type}:Option α→Bool
 |some _=>true
 |none=>false
theorem GU{α:Type}{o:Option α}(h:eL o=true): ∃y,o=some y:=by
 cases o with
 |none=>cases h
 |some y=>exact⟨y,rfl⟩
theorem G_:nC 80=some [2,3,5,7,11,13,17,19,23,29,31,37,41,43,47,53,59,61,67,71,73,79,83,89,97,101,103,107,109,113,127,131,137,139,149,151,157,163,167,173,179,181,191,193,197,199,211,223,227,229,233,239,241,251,257,263,269,271,277,281,283,293,307,311,313,317,331,337,347,349,353,359,367,373,379,383,389,397,401,409]:=by kernel_rfl
theorem S8:eL (ac 2 3)=true:=by kernel_rfl
theorem TA:eL (ac 3 3)=true:=by kernel_rfl
theorem T5:eL (ac 5 3)=true:=by kernel_rfl
theorem Tl:eL (ac 7 3)=true:=by kernel_rfl
theorem Rc:eL (ac 11 3)=true:=by kernel_rfl
theorem RJ:eL (ac 13 3)=true:=by kernel_rfl
theorem QI:eL (ac 17 3)=true:=by kernel_rfl
theorem Sf:eL (ac 19 3)=true:=by kernel_rfl
theorem R9:eL (ac 23 3)=true:=by kernel_rfl
theorem QH:eL (ac 29 3)=true:=by kernel_rfl
theorem Rp:eL (ac 31 3)=true:=by kernel_rfl
theorem Qp:eL (ac 37 3)=true:=by kernel_rfl
theorem P4:eL (ac 41 3)=true:=by kernel_rfl
theorem Qy:eL (ac 43 3)=true:=by kernel_rfl
theorem Q8:eL (ac 47 3)=true:=by kernel_rfl
theorem PN:eL (ac 53 3)=true:=by kernel_rfl
theorem Qk:eL (ac 59 3)=true:=by kernel_rfl
theorem Q5:eL (ac 61 3)=true:=by kernel_rfl
theorem Qv:eL (ac 67 3)=true:=by kernel_rfl
theorem Qt:eL (ac 71 3)=true:=by kernel_rfl
theorem Rl:eL (ac 73 3)=true:=by kernel_rfl
theorem RR:eL (ac 79 3)=true:=by kernel_rfl
theorem Qe:eL (ac 83 3)=true:=by kernel_rfl
theorem RH:eL (ac 89 3)=true:=by kernel_rfl
theorem Rq:eL (ac 97 3)=true:=by kernel_rfl
theorem Ot:eL (ac 101 3)=true:=by kernel_rfl
theorem Ol:eL (ac 103 3)=true:=by kernel_rfl
theorem Oz:eL (ac 107 3)=true:=by kernel_rfl
theorem Pt:eL (ac 109 3)=true:=by kernel_rfl
theorem M0:eL (ac 113 3)=true:=by kernel_rfl
theorem OK:eL (ac 127 3)=true:=by kernel_rfl
theorem Pa:eL (ac 131 3)=true:=by kernel_rfl
theorem Oi:eL (ac 137 3)=true:=by kernel_rfl
theorem M7:eL (ac 139 3)=true:=by kernel_rfl
theorem Nn:eL (ac 149 3)=true:=by kernel_rfl
theorem N2:eL (ac 151 3)=true:=by kernel_rfl
theorem NL:eL (ac 157 3)=true:=by kernel_rfl
theorem Pw:eL (ac 163 3)=true:=by kernel_rfl
theorem Nb:eL (ac 167 3)=true:=by kernel_rfl
theorem MB:eL (ac 173 3)=true:=by kernel_rfl
theorem Oy:eL (ac 179 3)=true:=by kernel_rfl
theorem Nu:eL (ac 181 3)=true:=by kernel_rfl
theorem NY:eL (ac 191 3)=true:=by kernel_rfl
theorem Of:eL (ac 193 3)=true:=by kernel_rfl
theorem Pi:eL (ac 197 3)=true:=by kernel_rfl
theorem Pn:eL (ac 199 3)=true:=by kernel_rfl
theorem Nq:eL (ac 211 3)=true:=by kernel_rfl
theorem NE:eL (ac 223 3)=true:=by kernel_rfl
theorem Na:eL (ac 227 3)=true:=by kernel_rfl
theorem NC:eL (ac 229 3)=true:=by kernel_rfl
theorem OM:eL (ac 233 3)=true:=by kernel_rfl
theorem Nd:eL (ac 239 3)=true:=by kernel_rfl
theorem Oa:eL (ac 241 3)=true:=by kernel_rfl
theorem Od:eL (ac 251 3)=true:=by kernel_rfl
theorem ON:eL (ac 257 3)=true:=by kernel_rfl
theorem NP:eL (ac 263 3)=true:=by kernel_rfl
theorem MS:eL (ac 269 3)=true:=by kernel_rfl
theorem NZ:eL (ac 271 3)=true:=by kernel_rfl
theorem O_:eL (ac 277 3)=true:=by kernel_rfl
theorem O2:eL (ac 281 3)=true:=by kernel_rfl
theorem Ns:eL (ac 283 3)=true:=by kernel_rfl
theorem MT:eL (ac 293 3)=true:=by kernel_rfl
theorem Nr:eL (ac 307 3)=true:=by kernel_rfl
theorem N9:eL (ac 311 3)=true:=by kernel_rfl
theorem OZ:eL (ac 313 3)=true:=by kernel_rfl
theorem Ok:eL (ac 317 3)=true:=by kernel_rfl
theorem OU:eL (ac 331 3)=true:=by kernel_rfl
theorem NK:eL (ac 337 3)=true:=by kernel_rfl
theorem MG:eL (ac 347 3)=true:=by kernel_rfl
theorem NT:eL (ac 349 3)=true:=by kernel_rfl
theorem Nl:eL (ac 353 3)=true:=by kernel_rfl
theorem Nc:eL (ac 359 3)=true:=by kernel_rfl
theorem MR:eL (ac 367 3)=true:=by kernel_rfl
theorem Nw:eL (ac 373 3)=true:=by kernel_rfl
theorem MC:eL (ac 379 3)=true:=by kernel_rfl
theorem N3:eL (ac 383 3)=true:=by kernel_rfl
theorem NI:eL (ac 389 3)=true:=by kernel_rfl
theorem Po:eL (ac 397 3)=true:=by kernel_rfl
theorem OO:eL (ac 401 3)=true:=by kernel_rfl
theorem O4:eL (ac 409 3)=true:=by kernel_rfl
theorem S6:eL (ac 2 2)=true:=by kernel_rfl
theorem Ti:eL (ac 3 2)=true:=by kernel_rfl
theorem TL:eL (ac 5 2)=true:=by kernel_rfl
theorem Tu:eL (ac 7 2)=true:=by kernel_rfl
theorem Qd:eL (ac 11 2)=true:=by kernel_rfl
theorem QS:eL (ac 13 2)=true:=by kernel_rfl
theorem RQ:eL (ac 17 2)=true:=by kernel_rfl
theorem RM:eL (ac 19 2)=true:=by kernel_rfl
theorem wb : ∀(xs:List UInt64) (k:Nat) (s:aJ),s.1.length+xs.length≤1000→s.2.length=8→xs.all (fun x=>eL (ac x 3))=true→(xs.take (8-k)).all (fun x=>eL (ac x 2))=true→
  ∃r,cS (R:=aJ) (S:=aJ) (α:=UInt64) (fun _ s3=>some (s3.1,s3.2))
   (fun x4 k5 s6 self7=>bnd (β:=aJ) (bnd (ac x4 3) fun x8=>bnd (app s6.1 [x8]) fun x9=>letm (decide ((k5:Int)<8)) fun x10=>
    cond x10 (bnd (ac x4 2) fun x11=>bnd (b_ 8 (k5:Int)) fun x12=>bnd (az s6.2 ((0+x12):Int)) fun _=>letm ((s6.2.set (0+x12) x11)) fun x14=>some (x9,x14)) (some (x9,s6.2))) fun v15=>self7 (v15.1,v15.2)) xs k s=some r∧r.1.length=s.1.length+xs.length∧r.2.length=8
 | [],k,s,_,h2,_,_=>⟨s,rfl,rfl,h2⟩
 |x::xs,k,s,h1,h2,h3,h4=>by
  rw[List.all_cons,Bool.and_eq_true]at h3
  obtain⟨y,hy⟩:=GU h3.1
  rw[List.length_cons]at h1
  rw[vn,hy,ae,lh (by simp only[List.length_cons,List.length_nil];omega),ae,ao]
  by_cases hk:k<8
  ·rw[show 8-k=(8-(k+1))+1 by omega,List.take_succ_cons,List.all_cons,Bool.and_eq_true]at h4
   obtain⟨z,hz⟩:=GU h4.1
   have e1:b_ 8 (k:Int)=some k:=by unfold b_;rw[if_pos (by omega),Int.toNat_natCast]
   rw[decide_eq_true (by omega),pZ,hz,ae,e1,ae,Int.zero_add,g8 (List.getElem?_eq_getElem (show k<s.2.length by omega)),ae,ao,ae]
   obtain⟨r,r1,r2,r3⟩:=wb xs (k+1) (s.1 ++ [y],s.2.set (0+k) z) (by simp only[List.length_append,List.length_cons,List.length_nil];omega) (by rw[List.length_set];exact h2) h3.2 h4.2
   exact⟨r,r1,by simp only[List.length_append,List.length_cons,List.length_nil]at r2⊢;omega,r3⟩
  ·rw[decide_eq_false (by omega),eB,ae]
   obtain⟨r,r1,r2,r3⟩:=wb xs (k+1) (s.1 ++ [y],s.2) (by simp only[List.length_append,List.length_cons,List.length_nil];omega) h2 h3.2 (by rw[show 8-(k+1)=0 by omega];rfl)
   exact⟨r,r1,by simp only[List.length_append,List.length_cons,List.length_nil]at r2⊢;omega,r3⟩
theorem Fs : ∃r,iC 80=some r∧r.1.length=80∧r.2.length=8:=by
 unfold iC
 rw[G_,ae]
 exact wb _ 0 _ (by decide) rfl (by simp only[List.all_cons,List.all_nil,Bool.and_self,S8,TA,T5,Tl,Rc,RJ,QI,Sf,R9,QH,Rp,Qp,P4,Qy,Q8,PN,Qk,Q5,Qv,Qt,Rl,RR,Qe,RH,Rq,Ot,Ol,Oz,Pt,M0,OK,Pa,Oi,M7,Nn,N2,NL,Pw,Nb,MB,Oy,Nu,NY,Of,Pi,Pn,Nq,NE,Na,NC,OM,Nd,Oa,Od,ON,NP,MS,NZ,O_,O2,Ns,MT,Nr,N9,OZ,Ok,OU,NK,MG,NT,Nl,Nc,MR,Nw,MC,N3,NI,Po,OO,O4]) (by simp only[List.take_succ_cons,List.take_zero,Nat.sub_zero,List.all_cons,List.all_nil,Bool.and_self,S6,Ti,TL,Tu,Qd,QS,RQ,RM])
end Go.Proofs.YtimjjookppejeaaGreatDoor
