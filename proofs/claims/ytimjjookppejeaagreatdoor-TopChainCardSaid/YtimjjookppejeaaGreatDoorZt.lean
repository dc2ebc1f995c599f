/- A part of the proof of TopChain. No condition. -/
import Derived.Test.YtimjjookppejeaaGreatDoorZe
import Derived.Lib.ReflectliteSwap
import Derived.Shelf.SlSortFuncK.WholeK
import Derived.Shelf.GgSortFunc.Tiny
namespace Go.Gk
open Go Go.RowKit
section
variable {β : Type} {ρ : bF β} {lab : bf} {w : World} {k E c : Nat} {xs : List β}
theorem cY.stp{lab':bf}{w':World}{ks:List Nat}{oa:Option Addr}(o:cY ρ lab w k E oa c xs)(s:gu ks lab w lab' w')(hk:ks.contains k=false):cY ρ lab' w' k E oa c xs:=o.ke s.ke tK (x_ hk)
end
theorem HW{lab:bf}{W W':World}(t:cm lab W)(hos:W'.os=W.os)(htp:W'.tape=W.tape)(hou:W'.output=W.output)(hsz:W.heap.size≤W'.heap.size)(hb : ∀b,b<W.heap.size→W'.heap[b]?=W.heap[b]?):gu [] lab W lab W':=
 ⟨hos,htp,hou,hsz,fun b h _=>hb b h,fun _ _ _=>rfl,fun b h=>t b (Nat.le_trans hsz h)⟩
def HF(P:Program)(t:PT)(clo:Nat)(lt:den t→den t→Bool):Prop:=
 ∀(lab:bf) (W:World) (G:Nat) (oa:Option Addr) (c:Nat) (xs:List (den t)) (i j:Nat) (x y:den t),xs[i]?=some x→xs[j]?=some y→cm lab W→xs.length≤c→c≤maxLen→At lab W ⟨G,0,none⟩ [.slice oa xs.length c]→SL (rep t) lab W oa c xs→
  Calls P clo #[.int .i64 i,.int .i64 j,.pointer (some ⟨G,0,none⟩)] W fun e W'=>e = .returned (.bool (lt x y))∧∃q,W'=W.drewN q
open Go.Proofs Go.Shelf Go.Lib Go.Sort
theorem ri{α:Type}[Inhabited α](enc:α→List Value)(k:Nat)(w:World)(blk off:Nat)(d:Array α){b:Nat}(h:b≠blk):(putRowK enc k w blk off d).heap[b]?=w.heap[b]?:=by
 show(w.heap.modify blk _)[b]?=_
 rw[Array.getElem?_modify,if_neg (fun e=>h e.symm)]
theorem ma{α:Type}[Inhabited α](enc:α→List Value)(k:Nat)(w:World)(blk off:Nat)(d:Array α):(putRowK enc k w blk off d).heap.size=w.heap.size:=by
 show(w.heap.modify blk _).size=_
 exact Array.size_modify ..
theorem sP{α:Type}[Inhabited α](enc:α→List Value)(k:Nat)(w:World)(blk off:Nat)(d:Array α){du:Array Value}{E:TypeId}{fr:Nat×Nat}(h:w.heap[blk]?=some (.cells du E fr)):(putRowK enc k w blk off d).heap[blk]?=some (.cells (putCells id off (flatK enc k d) du) E fr):=by
 show(w.heap.modify blk _)[blk]?=_
 rw[Array.getElem?_modify,if_pos rfl,h]
 rfl
theorem sw{n k:Nat}[Inhabited (_root_.Fin n)]{css:List (List Value)}(hl:css.length=n)(hk : ∀cs∈css,cs.length=k)(d:Array (_root_.Fin n)):(flatK (fun i:_root_.Fin n=>css.getD i.1 []) k d).toList=(d.toList.map fun i:_root_.Fin n=>css.getD i.1 []).flatten:=by
 have hlen : ∀i:_root_.Fin n,(css.getD i.1 []).length=k:=fun i=>by
  have:i.1<css.length:=by omega
  rw[List.getD_eq_getElem?_getD,List.getElem?_eq_getElem this]
  exact hk _ (List.getElem_mem this)
 have hfl : ∀(l:List (_root_.Fin n)),((l.map fun i:_root_.Fin n=>css.getD i.1 []).flatten).length=l.length*k:=by
  intro l
  induction l with
  |nil=>simp
  |cons a l ih=>rw[List.map_cons,List.flatten_cons,List.length_append,ih,hlen a,List.length_cons,Nat.add_mul,Nat.one_mul,Nat.add_comm]
 apply List.ext_getElem?
 intro t
 rcases Nat.lt_or_ge t (d.size*k)with ht |ht
 ·have h1:=get_flatK (fun i:_root_.Fin n=>css.getD i.1 []) k d t ht
  have hk0:0<k:=by
   rcases Nat.eq_zero_or_pos k with h |h
   ·subst h;simp at ht
   ·exact h
  have hq:t/k<d.size:=(Nat.div_lt_iff_lt_mul hk0).2 ht
  have hm:t%k<k:=Nat.mod_lt _ hk0
  rw[getElem!_pos _ t (by rw[size_flatK];exact ht),getElem!_pos d _ hq]at h1
  have hb:((d.toList.map fun i:_root_.Fin n=>css.getD i.1 []))[t/k]?=some (css.getD (d[t/k]).1 []):=by
   rw[List.getElem?_map]
   simp[hq]
  have h2:=gP ((d.toList.map fun i:_root_.Fin n=>css.getD i.1 [])) (sz:=k) (fun cs hcs=>by obtain⟨i,_,rfl⟩:=List.mem_map.1 hcs;exact hlen i) (t/k) (t%k) _ hb hm
  have he:t/k*k+t%k=t:=Nat.div_add_mod' t k
  rw[he]at h2
  rw[h2]
  have hx:t<(flatK (fun i:_root_.Fin n=>css.getD i.1 []) k d).size:=by rw[size_flatK];exact ht
  rw[show(flatK (fun i:_root_.Fin n=>css.getD i.1 []) k d).toList[t]?=some (flatK (fun i:_root_.Fin n=>css.getD i.1 []) k d)[t]from by simp[hx],h1]
  have hlt:t%k<(css.getD (d[t/k]).1 []).length:=by rw[hlen];exact hm
  rw[getElem!_pos (css.getD (d[t/k]).1 []) (t%k) hlt,List.getElem?_eq_getElem hlt]
 ·rw[List.getElem?_eq_none (by simpa using ht),List.getElem?_eq_none (by rw[hfl];simpa using ht)]
theorem xD{F du:Array Value}{n:Nat}(hF:F.size=n)(hn:n≤du.size):(putCells id 0 F du).toList.take n=F.toList:=by
 apply List.ext_getElem?
 intro j
 rcases Nat.lt_or_ge j n with h |h
 ·rw[List.getElem?_take_of_lt h]
  simp only[putCells,Array.toList_mapIdx,List.getElem?_mapIdx,Array.getElem?_toList,Nat.zero_le,Nat.zero_add,hF,h,true_and,Nat.sub_zero,if_true,id]
  rw[Array.getElem?_eq_getElem (show j<du.size by omega),Array.getElem?_eq_getElem (show j<F.size by omega),getElem!_pos F j (by omega)]
  rfl
 ·rw[List.getElem?_eq_none (by simp;omega),List.getElem?_eq_none (by simp;omega)]
section
variable {t : PT} {lab : bf} {w : World} {k E c gr n : Nat} {xs : List (den t)} {css : List (List Value)} {du : Array Value}
theorem DK{t:PT}{lab:bf}{w:World}: ∀{css:List (List Value)} {xs:List (den t)},css.length=xs.length→(∀(i:Nat) (cs:List Value) (x:den t),css[i]?=some cs→xs[i]?=some x→(rep t).rd lab w cs x)→cT (rep t) lab w css xs
 | [],[],_,_=>trivial
 |cs::css,x::xs,hl,h=>⟨h 0 cs x rfl rfl,DK (by simpa using hl) fun i cs x h1 h2=>h (i+1) cs x h1 h2⟩
 | [],_::_,hl,_=>by simp at hl
 |_::_,[],hl,_=>by simp at hl
theorem Lp [Inhabited (_root_.Fin n)](hn:xs.length=n)(tp:cm lab w)(hk:k≠0)(a1:cT (rep t) lab w css xs)(hg:w.heap[gr]?=some (.cells du E (0,0)))(h3:xs.length≤c)(h4:c≤maxLen)(h5:du.size=c*(rep t).sz)(h7:lab gr=k)
  (dk:Array (_root_.Fin n)) (hd:dk.size=n) (m:Nat) (os:Array Obj) :
  gu [k] lab w lab (grow (putRowK (fun i:_root_.Fin n=>css.getD i.1 []) (rep t).sz (Sort.ahead w m) gr 0 dk) os)∧cY (rep t) lab (grow (putRowK (fun i:_root_.Fin n=>css.getD i.1 []) (rep t).sz (Sort.ahead w m) gr 0 dk) os) k E (some ⟨gr,0,none⟩) c (dk.toList.map fun i:_root_.Fin n=>xs[i.1]'(by omega)):=by
 have hlt:gr<w.heap.size:=(Array.getElem?_eq_some_iff.1 hg).1
 have hcl:=a1.len
 have hbl : ∀b,b<w.heap.size→b≠gr→(grow (putRowK (fun i:_root_.Fin n=>css.getD i.1 []) (rep t).sz (Sort.ahead w m) gr 0 dk) os).heap[b]?=w.heap[b]?:=fun b hb hne=>by
  rw[Sort.heap_grow_old _ _ (by rw[ma];exact hb),ri _ _ _ _ _ _ hne]
  rfl
 have hst:gu [k] lab w lab (grow (putRowK (fun i:_root_.Fin n=>css.getD i.1 []) (rep t).sz (Sort.ahead w m) gr 0 dk) os):=by
  refine⟨rfl,rfl,rfl,?_,fun b hb h=>hbl b hb ?_,fun _ _ _=>rfl,fun b hb=>tp b ?_⟩
  ·rw[Sort.size_grow,ma];exact Nat.le_add_right _ _
  ·rintro rfl
   rcases h with h |h
   ·exact hk (h7.symm.trans h)
   ·rw[h7]at h;simp at h
  ·rw[Sort.size_grow,ma]at hb
   exact Nat.le_trans (Nat.le_add_right _ _) hb
 refine⟨hst,(dk.toList.map fun i:_root_.Fin n=>css.getD i.1 []),?_,.inr ⟨gr,putCells id 0 (flatK (fun i:_root_.Fin n=>css.getD i.1 []) (rep t).sz dk) du,rfl,?_,?_,h4,?_,?_,h7⟩⟩
 ·refine DK (by simp) fun i cs x h1 h2=>?_
  rw[List.getElem?_map,Option.map_eq_some_iff]at h1 h2
  obtain⟨p,hp,rfl⟩:=h1
  obtain⟨p',hp',rfl⟩:=h2
  rw[hp]at hp'
  cases hp'
  have hx:xs[p.1]?=some (xs[p.1]'(by omega)):=List.getElem?_eq_getElem (by omega)
  obtain⟨cs,hc,hrd⟩:=a1.get hx
  rw[List.getD_eq_getElem?_getD,hc]
  exact(rep t).keep hst.keeps hrd
 ·rw[Sort.heap_grow_old _ _ (by rw[ma];exact hlt)]
  exact sP _ _ _ _ _ _ hg
 ·rw[List.length_map,Array.length_toList];omega
 ·simp[putCells,h5]
 ·have e:(dk.toList.map fun i:_root_.Fin n=>xs[i.1]'(by omega)).length=n:=by rw[List.length_map,Array.length_toList,hd]
  rw[e,xD (by rw[size_flatK,hd]) (by rw[h5];exact Nat.mul_le_mul_right _ (by omega))]
  exact sw (by omega) (fun cs h=>(a1.each cs h).1) dk
end
set_option maxHeartbeats 2000000 in
theorem Iq{P:Program}{ρ:Ren}(L:LaysGg.n6 P ρ){t:PT}{T e E:TypeId}{i ie:TypeInfo}(hi:P.info? T=some i)(hd:i.desc = .slice e)(hpk:P.packed T=false)(hie:P.info? e=some ie){ke:Nat}(hke : ∀w,(Extern.Rtype.kind e).run P w = .ok ke w)
  (hs1:ie.size=bZ t) (hagg : ∀w,(isAgg e).run P w = .ok true w) {lt:den t→den t→Bool} (hO:SWO lt) {clo:Nat} (eg : ∀args w,(callFunc clo args).run P w = .ok (.enter clo args) w)
  (hf : ∀ n, ∃ f, P.funcs.findIdx? (·.name == "internal/reflectlite" ++ ".Swapper$" ++ toString (swapperK n ie ke)) = some f ∧ (2 ≤ n → ∃ gS, ∀ args W, (callFunc f args).run P W = ((Extern.ReflectliteSwapper.swap gS args).run P W).andThen fun v w' => .ok (.value v) w'))
  (hless:HF P t clo lt) {lab:bf} {w:World} {k c G:Nat} {oa:Option Addr} {xs:List (den t)} (hl:xs.length≤wZ) (tp:cm lab w) (gl:GL lab w) (hk:k≠0) (o:cY (rep t) lab w k E oa c xs) (hc:w.cell? ⟨G,0,none⟩=some (.slice oa xs.length c)) (hGk:lab G≠k) (hG0:lab G≠0) :
  Calls P (ρ.f 6) #[.iface T (.slice oa xs.length c),.func (.func clo) #[] #[.pointer (some ⟨G,0,none⟩)]] w fun e' w'=>e' = .returned (.tuple #[])∧∃lab' ys,Mh lt xs ys∧gu [k] lab w lab' w'∧cY (rep t) lab' w' k E oa c ys:=by
 have hlen:xs.length≤4294967296:=hl
 have hGl:G<w.heap.size:=by have:=block_lt_of_cell hc;exact this
 rcases Nat.lt_or_ge xs.length 2 with h2 |h2
 ·obtain⟨f,hf1,_⟩:=hf xs.length
  refine(Any.sort_Slice_tiny L T e i ie hi hd hpk hie ke hke oa xs.length c (by omega) f hf1 (.func clo) #[] _ w).mono ?_
  rintro e' w' ⟨rfl,os,rfl⟩
  have hst:gu [] lab w lab (grow w os):=HW tp rfl rfl rfl (by rw[Sort.size_grow];omega) fun b hb=>Sort.heap_grow_old w os hb
  refine⟨rfl,lab,xs,⟨List.Perm.refl _,?_⟩,hst.mono fun k hk=>by simp at hk,o.stp hst rfl⟩
  match xs,h2 with
  | [],_=>exact List.Pairwise.nil
  | [x],_=>exact List.pairwise_singleton _ _
 ·obtain⟨n,hn⟩ : ∃n,n=xs.length:=⟨_,rfl⟩
  have inst:Inhabited (_root_.Fin n):=⟨⟨0,by omega⟩⟩
  obtain⟨css,a1,a2⟩:=o
  rcases a2 with⟨_,_,h⟩ | ⟨gr,du,rfl,hg,h3,h4,h5,h6,h7⟩
  ·rw[h]at h2;simp at h2
  have hgr:gr<w.heap.size:=(Array.getElem?_eq_some_iff.1 hg).1
  obtain⟨f,hf1,hf2⟩:=hf xs.length
  obtain⟨gS,hx⟩:=hf2 h2
  have hcl:=a1.len
  have hlc : ∀cs∈css,cs.length=(rep t).sz:=fun cs h=>(a1.each cs h).1
  have hsz:(rep t).sz=ie.size:=(a_ t).trans hs1.symm
  have hget : ∀i:_root_.Fin n,css.getD i.1 []∈css:=fun i=>by
   have:i.1<css.length:=by omega
   rw[List.getD_eq_getElem?_getD,List.getElem?_eq_getElem this]
   exact List.getElem_mem this
  have hd0:(Array.ofFn (n:=n) id).size=n:=Array.size_ofFn
  have hid:((Array.ofFn (n:=n) id).toList.map fun i:_root_.Fin n=>xs[i.1]'(by omega))=xs:=by
   apply List.ext_getElem?
   intro j
   rw[List.getElem?_map]
   rcases Nat.lt_or_ge j n with h |h
   ·simp[h,List.getElem?_eq_getElem (show j<xs.length by omega)]
   ·rw[List.getElem?_eq_none (by simpa using h),List.getElem?_eq_none (by omega)];rfl
  have hcap:n*(rep t).sz≤du.size:=by rw[h5];exact Nat.mul_le_mul_right _ (by omega)
  have hflat:=sw (n:=n) (by omega) hlc (Array.ofFn (n:=n) id)
  have hall:((Array.ofFn (n:=n) id).toList.map fun i:_root_.Fin n=>css.getD i.1 [])=css:=by
   apply List.ext_getElem?
   intro j
   rw[List.getElem?_map]
   rcases Nat.lt_or_ge j n with h |h
   ·simp[h,List.getElem?_eq_getElem (show j<css.length by omega)]
   ·rw[List.getElem?_eq_none (by simpa using h),List.getElem?_eq_none (by omega)];rfl
  have hH:HoldsK (fun i:_root_.Fin n=>css.getD i.1 []) (rep t).sz w gr 0 (Array.ofFn (n:=n) id):=by
   intro j hj
   have hj':j<n*(rep t).sz:=by rw[size_flatK,hd0]at hj;exact hj
   have e0:(flatK (fun i:_root_.Fin n=>css.getD i.1 []) (rep t).sz (Array.ofFn (n:=n) id)).toList=du.toList.take (xs.length*(rep t).sz):=by rw[hflat,hall,h6]
   refine⟨?_,frozen_of_row w gr _ du E hg⟩
   rw[cell_of_row w gr _ du E (0,0) hg,Nat.zero_add]
   have e1:=congrArg (fun l:List Value=>l[j]?) e0
   simp only[Array.getElem?_toList]at e1
   rw[List.getElem?_take_of_lt (by rw[←hn];exact hj'),Array.getElem?_toList]at e1
   rw[←e1,Array.getElem?_eq_getElem hj,getElem!_pos _ j hj]
   rfl
  have hO':SWO fun a b:_root_.Fin n=>lt (xs[a.1]'(by omega)) (xs[b.1]'(by omega)):=⟨fun x=>hO.irrefl _,fun x y z=>hO.trans _ _ _,fun x y z=>hO.ntrans _ _ _⟩
  have hrow:=fun(dk:Array (_root_.Fin n)) (hd:dk.size=n) (m:Nat) (os:Array Obj)=>Lp (E:=E) (c:=c) hn.symm tp hk a1 hg h3 h4 h5 h7 dk hd m os
  have hL:LessReadsK P clo #[.pointer (some ⟨G,0,none⟩)] (fun i:_root_.Fin n=>css.getD i.1 []) (rep t).sz (fun a b:_root_.Fin n=>lt (xs[a.1]'(by omega)) (xs[b.1]'(by omega))) gr 0 (Array.ofFn (n:=n) id).size w:=by
   intro m os dk hdk i j hi hj
   rw[hd0]at hdk hi hj
   obtain⟨hst,hown⟩:=hrow dk hdk m os
   unfold sortWorldK
   generalize grow (putRowK (fun i:_root_.Fin n=>css.getD i.1 []) (rep t).sz (Sort.ahead w m) gr 0 dk) os=V at hst hown⊢
   have hlt:(dk.toList.map fun i:_root_.Fin n=>xs[i.1]'(by omega)).length=xs.length:=by rw[List.length_map,Array.length_toList,hdk,hn]
   have kp:bd lab V (maskL [k,lab G] lab) V:=bd.maskL
   have hG:V.heap[G]?=w.heap[G]?:=hst.block G hGl (.inr (by simp;exact hGk))
   have hcW:V.cell? ⟨G,0,none⟩=some (.slice (some ⟨gr,0,none⟩) xs.length c):=by rw[World.cell?_of_block (w:=w) hG];exact hc
   have hAt:At (maskL [k,lab G] lab) V ⟨G,0,none⟩ [.slice (some ⟨gr,0,none⟩) (dk.toList.map fun i:_root_.Fin n=>xs[i.1]'(by omega)).length c]:=fun q u hq=>by
    match q with
    |0=>
     simp at hq
     refine⟨?_,?_⟩
     ·show maskL [k,lab G] lab G=0
      rcases jB [k,lab G] lab G with⟨h,_⟩ | ⟨_,h⟩
      ·exact h
      ·exact absurd (by simp) h
     ·rw[←hq,hdk,hn];exact hcW
    |q+1=>simp at hq
   have hSL:SL (rep t) (maskL [k,lab G] lab) V (some ⟨gr,0,none⟩) c (dk.toList.map fun i:_root_.Fin n=>xs[i.1]'(by omega)):=hown.sl kp fun b _ hb=>by
    rcases jB [k,lab G] lab b with⟨h,_⟩ | ⟨_,h⟩
    ·exact h
    ·exact absurd (by rw[hb];simp) h
   have hgi : ∀(i:Nat) (hi:i<n),(dk.toList.map fun i:_root_.Fin n=>xs[i.1]'(by omega))[i]?=some (xs[(dk[i]!).1]'(by omega)):=fun i hi=>by
    have e : dk[i]! = dk[i]'(by omega) := getElem!_pos dk i (by omega)
    rw[List.getElem?_map,Array.getElem?_toList,Array.getElem?_eq_getElem (show i<dk.size by omega)]
    exact congrArg (fun q : _root_.Fin n => some (xs[q.1]'(by omega))) e.symm
   have:=hless (maskL [k,lab G] lab) V G _ c _ i j _ _ (hgi i hi) (hgi j hj) (cm.maskL hst.top) hSL.1 hSL.2.1 hAt hSL
   exact this
  have hcall:=Any.sort_Slice_cells_sorted L T e i ie hi hd hpk hie ke hke (fun i:_root_.Fin n=>css.getD i.1 []) (rep t).sz (fun x=>hlc _ (hget x)) hsz.symm hagg (fun x v hv=>(a1.each _ (hget x)).2 v hv) _ hO' clo #[.pointer (some ⟨G,0,none⟩)] eg gr 0 c (Array.ofFn (n:=n) id) (by rw[hd0];omega) (by rw[hd0];omega) f (by rw[hd0,hn];exact hf1) gS hx w hL hH hgr
  rw[hd0]at hcall
  rw[←hn]
  refine hcall.mono ?_
  rintro e' w' ⟨rfl,d',m,os,hpm,hsr,rfl⟩
  have hds:d'.size=n:=by rw[hpm.1,hd0]
  obtain⟨hst,hown⟩:=hrow d' hds m os
  refine⟨rfl,lab,_,⟨?_,?_⟩,hst,hown⟩
  ·have hp:=hpm.2.2
   have e1:(d'.extract 0 n).toList=d'.toList:=by rw[show d'.extract 0 n=d'.extract 0 d'.size by rw[hds]];simp
   have e2:((Array.ofFn (n:=n) id).extract 0 n).toList=(Array.ofFn (n:=n) id).toList:=by
    have hq:(Array.ofFn (n:=n) id).toList.length=n:=by rw[Array.length_toList,hd0]
    rw[Array.toList_extract,List.extract_eq_take_drop,Nat.sub_zero,List.drop_zero,List.take_of_length_le (by omega)]
   rw[e1,e2]at hp
   have:=hp.map (fun i:_root_.Fin n=>xs[i.1]'(by omega))
   rw[hid]at this
   exact this
  ·refine List.pairwise_iff_getElem.2 fun a b ha hb hab=>?_
   have hb':b<d'.size:=by simpa using hb
   have:=hsr a b (Nat.zero_le _) hab (by omega)
   rw[getElem!_pos d' a (by omega),getElem!_pos d' b hb']at this
   simpa using this
end Go.Gk
