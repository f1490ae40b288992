/- Part 12 of the proof. No conditions. -/
import Derived.Test.YtbjnhllkdilpfaaZb06
namespace Go.Proofs.Ytbjnhllkdilpfaa
open Go.RowKit
set_option linter.unusedVariables false
section
variable {P:Program} {ops:Array Oper} {Q:Exit->Act->World->Prop}
structure oP (ops:Array Oper) (n:Nat) (Fr:Nat->Bool) (a0:Act) (p:Nat) (S:Bool->World->Prop) (R:Bool->Nat->Value->World->Prop) (L:Nat->Bool) (a:Act) (w:World):Prop where
 s:S (L p) w
 defers:a.defers=a0.defers
 size:a.tmps.size=a0.tmps.size
 old:∀d:Tmp,(∀k:Nat,k<n->(ops[k]?).bind (·.dst)≠some d)->a.tmps[d]? =a0.tmps[d]?
 got:∀k:Nat,k<n->L k=true->∃v,aT ops a k v/\R (L p) k v w
 closed:∀(k:Nat) (o:Oper),ops[k]? =some o->L k=true->∀e∈o.after,Region.binds .any e=true->L e.on=true
 fresh:∀k:Nat,k<n->L k=true->Fr k=true->∀v,aT ops a k v->∃g,bZ v=some g/\g<w.heap.size
 apart:∀j k:Nat,j<n->k<n->j≠k->L j=true->L k=true->Fr j=true->Fr k=true->∀u v,aT ops a j u->aT ops a k v->bZ u≠bZ v
def Jo (P:Program) (Q:Exit->Act->World->Prop) (ops:Array Oper) (n:Nat) (Fr:Nat->Bool) (a0:Act) (p:Nat) (S:Bool->World->Prop) (R:Bool->Nat->Value->World->Prop) (k:Nat) (o:Oper):Prop:=
 ∀(K:Act->World->Prop) (L:Nat->Bool) (a:Act) (w:World),oP ops n Fr a0 p S R L a w->L k=false->(∀e∈o.after,Region.binds .any e=true->L e.on=true)->
  (∀v w',w.heap.size<=w'.heap.size->S (L p||(k==p)) w'->(∀j u,k≠j->L j=true->R (L p) j u w->R (L p||(k==p)) j u w')->R (L p||(k==p)) k v w'->(Fr k=true->o.dst.isSome=true/\∃g,bZ v=some g/\w.heap.size<=g/\g<w'.heap.size)->K (a.put o.dst v) w')->
  if Region.wanted o (yielded ops a.tmps)=true then o.wp P a w K Q else K (a.put o.dst undef) w
def vP (P:Program) (Q:Exit->Act->World->Prop) (ops:Array Oper) (n:Nat) (Fr:Nat->Bool) (a0:Act) (p:Nat) (S:Bool->World->Prop) (R:Bool->Nat->Value->World->Prop):Nat->List Oper->Prop
 |_,[]=>True
 |k,o::l=>Jo P Q ops n Fr a0 p S R k o/\vP P Q ops n Fr a0 p S R (k+1) l
theorem vP.get {n:Nat} {Fr:Nat->Bool} {a0:Act} {p:Nat} {S:Bool->World->Prop} {R:Bool->Nat->Value->World->Prop}:∀{l:List Oper} {k i:Nat} {o:Oper},vP P Q ops n Fr a0 p S R k l->l[i]? =some o->Jo P Q ops n Fr a0 p S R (k+i) o
 |[],_,_,_,_,h=>by simp at h
 |x::l,k,0,o,h,ho=>by
  simp only[List.getElem?_cons_zero,Option.some.injEq]at ho;subst ho;exact h.1
 |x::l,k,i+1,o,h,ho=>by
  simp only[List.getElem?_cons_succ]at ho;have:=h.2.get ho
  rwa [show k+1+i=k+(i+1) by omega]at this
theorem oP.next {n : Nat} {Fr : Nat → Bool} {a0 : Act} {p : Nat} {S : Bool → World → Prop} {R : Bool → Nat → Value → World → Prop} (hf : fK ops a0.tmps.size = true)
  {L L':Nat->Bool} {a:Act} {w:World} (hi:oP ops n Fr a0 p S R L a w) {i:Nat} {o:Oper} (hin:i<n) (ho:ops[i]? =some o) (iO:∀e∈o.after,Region.binds .any e=true->L e.on=true)
  (hL:∀k,i≠k->L' k=true->L k=true) (hL2:∀k,L k=true->L' k=true)
  {v:Value} {w':World} (hz:w.heap.size<=w'.heap.size) (hS':S (L' p) w') (QO:∀j u,i≠j->L j=true->R (L p) j u w->R (L' p) j u w') (hR:R (L' p) i v w') (hF:Fr i=true->o.dst.isSome=true/\∃g,bZ v=some g/\w.heap.size<=g/\g<w'.heap.size):oP ops n Fr a0 p S R L' (a.put o.dst v) w':=by
 have hL0:=hL;have jh:=yT (v:=v) hf hi.size ho
 have uniq:Fr i=true->∀u,aT ops (a.put o.dst v) i u->u=v:=by
  intro Nk u hu;obtain⟨hd,_⟩:=hF Nk;unfold aT at hu jh;rw[ho,Option.bind_some]at hu jh;cases hx:o.dst with
  |none=>rw[hx]at hd;cases hd
  |some d=>
   rw[hx]at hu jh;simp only at hu jh;rw[jh]at hu;injection hu with hu
   exact hu.symm
 have back:∀k u,i≠k->aT ops (a.put o.dst v) k u->aT ops a k u:=by
  intro k u hik hu;unfold aT at hu⊢;cases hx:(ops[k]?).bind (·.dst)with
  |none=>trivial
  |some d=>
   rw[hx]at hu;simp only at hu;have hne:=nY hf (i:=k) (j:=i) (Ne.symm hik) (d:=d) hx;unfold lG at hne;rw[ho,Option.bind_some]at hne;cases hy:o.dst with
   |none=>rw[hy]at hu;exact hu
   |some d2=>
    rw[hy]at hu hne;have hu:(a.tmps.setIfInBounds d2 v)[d]? =some u:=hu;rw[Array.getElem?_setIfInBounds_ne (fun e=>hne (by rw[e]))]at hu;exact hu
 refine⟨hS',?_,?_,?_,?_,?_,?_,?_⟩
 ·rw[<-hi.defers];cases o.dst<;>rfl
 ·rw[<-hi.size];cases o.dst<;>simp[Act.put]
 ·intro d hd;rw[<-hi.old d hd];have:=hd i hin;rw[ho,Option.bind_some]at this;cases hx:o.dst with
  |none=>rfl
  |some d2=>
   rw[hx]at this
   show(a.tmps.setIfInBounds d2 v)[d]? =a.tmps[d]?
   exact Array.getElem?_setIfInBounds_ne (fun e=>this (by rw[e]))
 ·intro k hk hL
  by_cases hki:i=k
  ·subst hki;exact⟨v,jh,hR⟩
  ·have hL:=hL0 k hki hL;obtain⟨u,h1,h2⟩:=hi.got k hk hL;exact⟨u,vN hf ho hki h1,QO k u hki hL h2⟩
 ·intro k o2 hk hL e he hb
  by_cases hki:i=k
  ·subst hki;rw[ho]at hk;injection hk with hk
   subst hk;exact hL2 _ (iO e he hb)
  ·have hL:=hL0 k hki hL;exact hL2 _ (hi.closed k o2 hk hL e he hb)
 ·intro k hk hL pg u hu
  by_cases hki:i=k
  ·subst hki;obtain⟨_,g,h1,_,h3⟩:=hF pg;rw[uniq pg u hu];exact⟨g,h1,h3⟩
  ·have hL:=hL0 k hki hL;obtain⟨g,h1,h2⟩:=hi.fresh k hk hL pg u (back k u hki hu);exact⟨g,h1,Nat.lt_of_lt_of_le h2 hz⟩
 ·have new:∀k,k<n->i≠k->L k=true->Fr i=true->Fr k=true->∀u,aT ops (a.put o.dst v) k u->bZ v≠bZ u:=by
   intro k hk hik hL Nk pg u hu;obtain⟨_,g,h1,h2,_⟩:=hF Nk;obtain⟨g2,h4,h5⟩:=hi.fresh k hk hL pg u (back k u hik hu);rw[h1,h4];intro he;injection he with he
   omega
  intro j k hj hk hjk Ed hLk Ee pg u u2 hu hu2
  by_cases hij:i=j
  ·subst hij;have hLk:=hL0 k hjk hLk;rw[uniq Ee u hu];exact new k hk hjk hLk Ee pg u2 hu2
  ·have Ed:=hL0 j hij Ed
   by_cases hik:i=k
   ·subst hik;rw[uniq pg u2 hu2];exact(new j hj hij Ed pg Ee u hu).symm
   ·have hLk:=hL0 k hik hLk;exact hi.apart j k hj hk hjk Ed hLk Ee pg u u2 (back j u hij hu) (back k u2 hik hu2)
theorem zg {n : Nat} {Fr : Nat → Bool} {a0 : Act} {p : Nat} {S : Bool → World → Prop} {R : Bool → Nat → Value → World → Prop} (hn : n ≤ ops.size) (hf : fK ops a0.tmps.size = true) (gK : jV ops n = true)
  (hall:vP P Q ops n Fr a0 p S R 0 (ops.toList.take n))
  (hend:∀a w,(∀L:Nat->Bool,(∀k,k<n->L k=true)->oP ops n Fr a0 p S R L a w->wpOps P ops Q (List.range' n (ops.size-n)) a w)):
  ∀(fuel:Nat) (listed:Array Bool) (a:Act) (w:World),listed.size=ops.size->listed.toList.count false<=fuel->(∀j,n<=j->listed.getD j false=false)->oP ops n Fr a0 p S R (fun k=>listed.getD k false) a w->wpAny P .any ops Q fuel listed a w:=by
 have enough:∀(listed:Array Bool) (m:Nat),listed.size=ops.size->(∀j,m<=j->listed.getD j false=false)->m<=ops.size->ops.size-m<=listed.toList.count false:=by
  intro listed m hz h hm
  have h1:(listed.toList.drop m).count false=ops.size-m:=by
   rw[List.count_eq_length.2]
   ·simp[hz]
   ·intro b hb;obtain⟨i,hi,rfl⟩:=List.mem_iff_getElem.1 hb;have:=h (m+i) (by omega);rw[List.length_drop,Array.length_toList]at hi;rw[Array.getD_eq_getD_getElem?,Array.getElem?_eq_getElem (by omega)]at this;simp only[List.getElem_drop,Array.getElem_toList]
    simpa using this.symm
  have h2:=List.Sublist.count_le false (List.drop_sublist m listed.toList);omega
 intro fuel
 induction fuel with
 |zero=>
  intro listed a w hz hc hl hi;have hlen:=enough listed n hz hl hn
  have fD:∀k,k<n->listed.getD k false=true:=by
   intro k hk;have hlt:k<listed.size:=by omega
   rw[Array.getD_eq_getD_getElem?,Array.getElem?_eq_getElem hlt];have:false∉listed.toList:=List.count_eq_zero.1 (by omega);cases hx:listed[k]with
   |true=>rfl
   |false=>exact absurd (by rw[<-hx];simp) this
  exact kX hf gK 0 n listed a w zL hn (by omega) hz fD hl hi.closed (hend a w _ fD hi)
 |succ fuel ih=>
  intro listed a w hz hc hl hi
  by_cases fD:∀k,k<n->listed.getD k false=true
  ·exact kX hf gK (fuel+1) n listed a w zL hn (by have:=enough listed n hz hl hn;omega) hz fD hl hi.closed (hend a w _ fD hi)
  refine⟨fun hr=>?_,fun i hmem=>?_⟩
  ·exfalso;refine fD ?_;intro k
   induction k using Nat.strongRecOn with
   |ind k ihk=>
    intro hk;cases hlk:listed.getD k false with
    |true=>rfl
    |false=>
     exfalso;have hks:k<ops.size:=by omega
     have hmem:k∈Region.ready .any ops listed:=by
      rw[mem_ready];refine⟨?_,ops[k],Array.getElem?_eq_getElem hks,?_⟩
      ·rw[Array.getD_eq_getD_getElem?,Array.getElem?_eq_getElem (by omega:k<listed.size)]at hlk⊢;exact hlk
      ·intro e he hb;have hlt:=pM hf (Array.getElem?_eq_getElem hks) he hb;exact ihk e.on hlt (by omega)
     rw[hr]at hmem;cases hmem
  obtain⟨hlt0,o,ho,iO⟩:=mem_ready.1 hmem;obtain⟨hlt,hg⟩:=gV hlt0
  have hin:i<n:=by
   rcases Nat.lt_or_ge i n with h|h
   ·exact h
   ·exfalso;exact fD fun k hk=>yj gK ho h (by omega) (L:=fun k=>listed.getD k false) hi.closed iO
  have hs:=hall.get (i:=i) (o:=o) (by rw[List.getElem?_take_of_lt hin];simpa using ho);rw[Nat.zero_add]at hs
  have hLi:listed.getD i false=false:=by
   rw[Array.getD_eq_getD_getElem?,hg];rfl
  have yu:(listed.setIfInBounds i true).getD p false=(listed.getD p false||(i==p)):=by
   by_cases Vm:i=p
   ·subst Vm;rw[Array.getD_eq_getD_getElem?];simp[hlt]
   ·rw[getD_set_ne false Vm];simp[Vm]
  have next:∀v w',w.heap.size<=w'.heap.size->S (listed.getD p false||(i==p)) w'->(∀j u,i≠j->listed.getD j false=true->R (listed.getD p false) j u w->R (listed.getD p false||(i==p)) j u w')->R (listed.getD p false||(i==p)) i v w'->(Fr i=true->o.dst.isSome=true/\∃g,bZ v=some g/\w.heap.size<=g/\g<w'.heap.size)->wpAny P .any ops Q fuel (listed.setIfInBounds i true) (a.put o.dst v) w':=by
   intro v w' hzz hSS hRR hR hF;rw[<-yu]at hSS hRR hR;refine ih _ _ _ (by simpa using hz) ?_ ?_ ?_
   ·have:(listed.toList.set i true).count false=listed.toList.count false-1:=by
     rw[List.count_set (by simpa using hlt)]
     have:listed[i]=false:=by
      rw[Array.getElem?_eq_getElem hlt]at hg
      simpa using hg
     simp[this]
    simp only[Array.toList_setIfInBounds];omega
   ·intro j hj;rw[getD_set_ne false (by omega)];exact hl j hj
   ·exact hi.next hf hin ho iO (fun k hk hx=>by
     have hx:(listed.setIfInBounds i true).getD k false=true:=hx
     rwa [getD_set_ne false hk]at hx) (fun k hx=>getD_set_true hx) hzz hSS hRR hR hF
  have:=hs (wpAny P .any ops Q fuel (listed.setIfInBounds i true)) _ a w hi hLi iO next;unfold wpOp;rw[ho];simp only
  split
  ·rename_i hw
   rw[if_pos hw]at this;exact .inl this
  ·rename_i hw
   rw[if_neg hw]at this;exact this
def Spec.dJ (ops:Array Oper) (p:Nat) (R:Nat->Spec) (b:Bool) (k:Nat) (v:Value) (w:World):Prop:=
 match R k with
 |.st q _=>(b=true/\k≠p/\waits ops k p=false)\/q v w
 |.is x=>v=x
 |.any=>True
theorem og {p:Nat} {R:Nat->Spec} {b:Bool} {k:Nat} {v:Value} {w w':World} (hb:Below w.heap.size w w') (h:Spec.dJ ops p R b k v w):Spec.dJ ops p R b k v w':=by
 unfold Spec.dJ at h⊢
 split at h
 ·rename_i q hq he
  rcases h with h|h
  ·exact .inl h
  ·exact .inr (hq v w w' hb h)
 ·exact h
 ·trivial
theorem zh {p:Nat} {R:Nat->Spec} {k:Nat} {v:Value} {w w':World} (hk:p≠k) (hw:waits ops k p=false) (h:Spec.dJ ops p R false k v w):Spec.dJ ops p R true k v w':=by
 unfold Spec.dJ at h⊢
 split at h
 ·exact .inl ⟨rfl,Ne.symm hk,hw⟩
 ·exact h
 ·trivial
theorem oh {p:Nat} {R:Nat->Spec} {k:Nat} {v:Value} {w:World}:Spec.dJ ops p R false k v w<->(R k).holds v w:=by
 unfold Spec.dJ;cases R k with
 |any=>exact Iff.rfl
 |is x=>exact Iff.rfl
 |st q hq=>exact⟨fun h=>h.resolve_left (fun h=>by cases h.1),fun h=>.inr h⟩
def xO (W:World) (row:Option Nat) (b:Bool) (w:World):Prop:=if b=true then W.grownBy w row else Below W.heap.size W w
theorem xO.keep {W w w':World} {row:Option Nat} {b:Bool} (h:xO W row b w) (hb:Below w.heap.size w w'):xO W row b w':=by
 unfold xO at h⊢;cases b
 ·exact Below.trans h (hb.mono (Below.size h))
 ·exact World.grownBy.trans h (by
   exact⟨hb.os,hb.tape,hb.output,hb.size,fun k hk _=>hb.block k hk⟩)
abbrev cu (P:Program) (Q:Exit->Act->World->Prop) (ops:Array Oper) (n:Nat) (a0:Act) (W:World) (row:Option Nat) (p:Nat) (R:Nat->Spec) (k:Nat) (l:List Oper):Prop:=
 vP P Q ops n (fun _=>false) a0 p (xO W row) (Spec.dJ ops p R) k l
theorem kD {id : Nat} {a0 : Act} {W : World} (n p : Nat) (row : Option Nat) (hp : p < n) (hm : P.follows .mixedOrders = true) (R : Nat → Spec) (hf : (fK ops a0.tmps.size && jV ops n && decide (n ≤ ops.size)) = true)
  (hall:cu P Q ops n a0 W row p R 0 (ops.toList.take n))
  (hend:∀(vals:List Value) (w:World),vals.length=n->W.grownBy w row->(∀k v,vals[k]? =some v->Spec.dJ ops p R true k v w)->wpList P ops Q (ops.toList.drop n) (aN (ops.toList.take n) vals a0) w):
  (Code.region id ops true).wp P Q a0 W:=by
 simp only[Bool.and_eq_true,decide_eq_true_eq]at hf;obtain⟨⟨hf,gK⟩,hn⟩:=hf;refine wp_region_any hm ?_;refine zg (n:=n) (p:=p) (Fr:=fun _=>false) (S:=xO W row) (R:=Spec.dJ ops p R) hn hf gK hall ?_ _ _ _ _ (by simp) (by simp) (by intro j _;simp[Array.getD]) ?_
 ·intro a w L hL hi;obtain⟨vals,hl,hv⟩:=qC (ops:=ops) (a:=a) (w:=w) (R:=Spec.dJ ops p R true) n fun k hk=>by have:=hi.got k hk (hL k hk);rw[hL p hp]at this;exact this
  have hto:∀k:Nat,((ops.toList.take n)[k]?).bind (·.dst)=if k<n then(ops[k]?).bind (·.dst)else none:=by
   intro k
   by_cases hk:k<n
   ·rw[if_pos hk,List.getElem?_take_of_lt hk,Array.getElem?_toList]
   ·rw[if_neg hk,List.getElem?_eq_none (by simp;omega)];rfl
  have:a=aN (ops.toList.take n) vals a0:=by
   obtain⟨tm,df⟩:=a
   have h1:tm=(aN (ops.toList.take n) vals a0).tmps:=by
    apply Array.ext_getElem?
    intro d
    by_cases hd:∃k:Nat,k<n/\(ops[k]?).bind (·.dst)=some d
    ·obtain⟨k,hkn,hk⟩:=hd;have hg:vals[k]? =some vals[k]:=List.getElem?_eq_getElem (by omega);have h2:=(hv k _ hg).1;unfold aT at h2;rw[hk]at h2;simp only at h2;rw[h2]
     symm
     refine kY _ _ _ k (by rw[hto,if_pos hkn];exact hk) hg (fun j hj=>?_) (vM hf (i:=k) hk);rw[hto]
     split
     ·exact nY hf (i:=k) (j:=j) hj (d:=d) hk
     ·simp
    ·have hd:∀k:Nat,k<n->(ops[k]?).bind (·.dst)≠some d:=fun k hkn hk=>hd ⟨k,hkn,hk⟩
     rw[gG _ _ _ (fun k=>by
      rw[hto]
      split
      ·rename_i h;exact hd k h
      ·simp)]
     exact hi.old d hd
   have h2:df=(aN (ops.toList.take n) vals a0).defers:=by rw[gW];exact hi.defers
   rw[h1,h2]
  have hlen:(ops.toList.drop n).length=ops.size-n:=by simp
  rw[<-hlen,wpOps_eq_wpList (ops.toList.drop n) n (by intro j;simp[List.getElem?_drop])];rw[this];have hs:=hi.s;rw[hL p hp]at hs;exact hend vals w hl hs (fun k v h=>(hv k v h).2)
 ·refine⟨?_,rfl,rfl,fun _ _=>rfl,?_,?_,?_,?_⟩
  ·simp only[Array.getD];unfold xO;simp;exact Below.drew zR
  ·intro k _ hk;simp[Array.getD]at hk
  ·intro k o _ hk;simp[Array.getD]at hk
  ·intro k _ hk;simp[Array.getD]at hk
  ·intro j k _ _ _ hk;simp[Array.getD]at hk
theorem zi {k j:Nat} (h:ops[k]? =none):waits ops k j=false:=by
 have hlen:∀(l:List Oper) (acc:List Nat),(masks acc l).length=acc.length+l.length:=by
  intro l
  induction l with
  |nil=>intro acc;simp[masks]
  |cons o l ih=>intro acc;simp only[masks];rw[ih];simp;omega
 have hk:ops.size<=k:=by
  rcases Nat.lt_or_ge k ops.size with hlt|hge
  ·rw[Array.getElem?_eq_getElem hlt]at h;cases h
  ·exact hge
 unfold waits;rw[List.getD_eq_getElem?_getD,List.getElem?_eq_none (by rw[hlen];simpa using hk)];simp
section
variable {n p:Nat} {a0:Act} {W:World} {row:Option Nat} {R:Nat->Spec} {k:Nat} {o:Oper}
theorem Hy {L : Nat → Bool} {a : Act} {w : World} (hi : oP ops n (fun _ => false) a0 p (xO W row) (Spec.dJ ops p R) L a w) (hp : L p = false) (ho : ops[k]? = some o) (hA : ∀ e ∈ o.after, Region.binds .any e = true → L e.on = true) :
  ∀{l:List Nat},(l.all fun j=>decide (j<n)&&waits ops k j)=true->Facts ops (fun k v w=>(R k).holds v w) a w l
 |[],_=>trivial
 |j::l,hl=>by
  simp only[List.all_cons,Bool.and_eq_true,decide_eq_true_eq]at hl;obtain⟨v,h1,h2⟩:=hi.got j hl.1.1 (dH ho hl.1.2 hi.closed hA);rw[hp]at h2;exact⟨⟨v,h1,oh.1 h2⟩,Hy hi hp ho hA hl.2⟩
theorem cu.cons {rest : List Oper} (ho : ops[k]? = some o) (l ds : List Nat) (hkp : (k == p) = false) (op : Oper) (hop : ops[p]? = some op) (hw : waits ops p k = true) (hg : o.guard = none) (hl : (l.all fun j => decide (j < n) && waits ops k j) = true) (hds : ds.all (outer ops) = true)
  (h:∀(K:Act->World->Prop) (a:Act) (w:World),Below W.heap.size W w->dN ops a0 a ds->Facts ops (fun k v w=>(R k).holds v w) a w l->(∀v w',Below w.heap.size w w'->(R k).holds v w'->K (a.put o.dst v) w')->o.wp P a w K Q)
  (hr:cu P Q ops n a0 W row p R (k+1) rest):cu P Q ops n a0 W row p R k (o::rest):=by
 refine⟨fun K L a w hi hLk hA hK=>?_,hr⟩;rw[if_pos (by unfold Region.wanted;rw[hg])]
 have yu:L p=false:=by
  cases hx:L p with
  |false=>rfl
  |true=>
   have:=dH hop hw hi.closed (fun e he hb=>hi.closed p op hop hx e he hb);rw[hLk]at this;cases this
 have hs:=hi.s;rw[yu]at hs hK;rw[hkp]at hK;exact h K a w hs (bM hi.old ds hds) (Hy hi yu ho hA hl) (fun v w' h1 h2=>hK v w' h1.size (xO.keep hs h1) (fun j u _ _ h=>og h1 h) (oh.2 h2) (fun h=>by cases h))
theorem cu.app {rest : List Oper} (ho : ops[p]? = some o) (l ds : List Nat) (hg : o.guard = none) (hl : (l.all fun j => decide (j < n) && waits ops p j) = true) (hds : ds.all (outer ops) = true)
  (h:∀(K:Act->World->Prop) (a:Act) (w:World),Below W.heap.size W w->dN ops a0 a ds->Facts ops (fun k v w=>(R k).holds v w) a w l->(∀v w',W.grownBy w' row->w.heap.size<=w'.heap.size->(R p).holds v w'->K (a.put o.dst v) w')->o.wp P a w K Q)
  (hr:cu P Q ops n a0 W row p R (p+1) rest):cu P Q ops n a0 W row p R p (o::rest):=by
 refine⟨fun K L a w hi hLk hA hK=>?_,hr⟩;rw[if_pos (by unfold Region.wanted;rw[hg])];have hs:=hi.s;rw[hLk]at hs hK;rw[show(false||(p==p))=true from by simp]at hK
 refine h K a w hs (bM hi.old ds hds) (Hy hi hLk ho hA hl) (fun v w' h1 h0 h2=>hK v w' h0 h1 (fun j u hj Ed h=>zh hj (by
  cases Vo:waits ops j p with
  |false=>rfl
  |true=>
   exfalso;cases hoj:ops[j]? with
   |none=>rw[zi hoj]at Vo;cases Vo
   |some oj=>
    have:=dH hoj Vo hi.closed (fun e he hb=>hi.closed j oj hoj Ed e he hb)
    rw[hLk]at this;cases this) h) ?_ (fun h=>by cases h))
 unfold Spec.dJ;cases hR:R p with
 |any=>trivial
 |is x=>rw[hR]at h2;exact h2
 |st q hq=>rw[hR]at h2;exact .inr h2
def TS (ops:Array Oper) (R:Nat->Spec) (a:Act) (j:Nat):Prop:=∀X,R j=.is X->aT ops a j X
def lI (ops:Array Oper) (R:Nat->Spec) (a:Act):List Nat->Prop
 |[]=>True
 |j::l=>TS ops R a j/\lI ops R a l
theorem zk {L : Nat → Bool} {a : Act} {w : World} (hi : oP ops n (fun _ => false) a0 p (xO W row) (Spec.dJ ops p R) L a w) (ho : ops[k]? = some o) (hA : ∀ e ∈ o.after, Region.binds .any e = true → L e.on = true) :
  ∀{l:List Nat},(l.all fun j=>decide (j<n)&&waits ops k j)=true->lI ops R a l
 |[],_=>trivial
 |j::l,hl=>by
  simp only[List.all_cons,Bool.and_eq_true,decide_eq_true_eq]at hl;obtain⟨v,h1,h2⟩:=hi.got j hl.1.1 (dH ho hl.1.2 hi.closed hA);refine⟨fun X hX=>?_,zk hi ho hA hl.2⟩;unfold Spec.dJ at h2;rw[hX]at h2;rw[<-show v=X from h2];exact h1
theorem cu.pure {rest : List Oper} (ho : ops[k]? = some o) (l ds : List Nat) (hkp : (k == p) = false) (hg : o.guard = none) (hl : (l.all fun j => decide (j < n) && waits ops k j) = true) (hds : ds.all (outer ops) = true) (X : Value) (hX : R k = .is X)
  (h:∀(K:Act->World->Prop) (a:Act) (w:World),dN ops a0 a ds->lI ops R a l->K (a.put o.dst X) w->o.wp P a w K Q)
  (hr:cu P Q ops n a0 W row p R (k+1) rest):cu P Q ops n a0 W row p R k (o::rest):=by
 refine⟨fun K L a w hi hLk hA hK=>?_,hr⟩;rw[if_pos (by unfold Region.wanted;rw[hg])];rw[hkp,Bool.or_false]at hK;refine h K a w (bM hi.old ds hds) (zk hi ho hA hl) (hK X w zL hi.s (fun j u _ _ h=>h) ?_ (fun h=>by cases h));unfold Spec.dJ;rw[hX]
theorem cu.read {rest : List Oper} (ho : ops[k]? = some o) (l ds : List Nat) (hkp : (k == p) = false) (hg : o.guard = none) (hl : (l.all fun j => decide (j < n) && waits ops k j) = true) (hds : ds.all (outer ops) = true) (X : Value) (hX : R k = .is X)
  (h:∀(K:Act->World->Prop) (a:Act) (w:World),W.grownBy w row->dN ops a0 a ds->lI ops R a l->K (a.put o.dst X) w->o.wp P a w K Q)
  (hr:cu P Q ops n a0 W row p R (k+1) rest):cu P Q ops n a0 W row p R k (o::rest):=by
 refine⟨fun K L a w hi hLk hA hK=>?_,hr⟩;rw[if_pos (by unfold Region.wanted;rw[hg])];rw[hkp,Bool.or_false]at hK
 have hs:W.grownBy w row:=by
  have:=hi.s;unfold xO at this
  split at this
  ·exact this
  ·exact⟨this.os,this.tape,this.output,this.size,fun q hq _=>this.block q hq⟩
 refine h K a w hs (bM hi.old ds hds) (zk hi ho hA hl) (hK X w zL hi.s (fun j u _ _ h=>h) ?_ (fun h=>by cases h));unfold Spec.dJ;rw[hX]
theorem NF {L : Nat → Bool} {a : Act} {w : World} (hi : oP ops n (fun _ => false) a0 p (xO W row) (Spec.dJ ops p R) L a w) (hp : L p = true) (ho : ops[k]? = some o) (hA : ∀ e ∈ o.after, Region.binds .any e = true → L e.on = true) :
  ∀{l:List Nat},(l.all fun j=>decide (j<n)&&waits ops k j)=true->Facts ops (fun k v w=>Spec.dJ ops p R true k v w) a w l
 |[],_=>trivial
 |j::l,hl=>by
  simp only[List.all_cons,Bool.and_eq_true,decide_eq_true_eq]at hl;obtain⟨v,h1,h2⟩:=hi.got j hl.1.1 (dH ho hl.1.2 hi.closed hA);rw[hp]at h2;exact⟨⟨v,h1,h2⟩,NF hi hp ho hA hl.2⟩
theorem cu.post {rest : List Oper} (ho : ops[k]? = some o) (l ds : List Nat) (hkp : (k == p) = false) (hw : waits ops k p = true) (hg : o.guard = none) (hl : (l.all fun j => decide (j < n) && waits ops k j) = true) (hds : ds.all (outer ops) = true)
  (h:∀(K:Act->World->Prop) (a:Act) (w:World),W.grownBy w row->dN ops a0 a ds->Facts ops (fun k v w=>Spec.dJ ops p R true k v w) a w l->(∀v w',Below w.heap.size w w'->(R k).holds v w'->K (a.put o.dst v) w')->o.wp P a w K Q)
  (hr:cu P Q ops n a0 W row p R (k+1) rest):cu P Q ops n a0 W row p R k (o::rest):=by
 refine⟨fun K L a w hi hLk hA hK=>?_,hr⟩;rw[if_pos (by unfold Region.wanted;rw[hg])];have yu:L p=true:=dH ho hw hi.closed hA;have hs:=hi.s;rw[yu]at hs hK;rw[Bool.true_or]at hK;refine h K a w hs (bM hi.old ds hds) (NF hi yu ho hA hl) (fun v w' h1 h2=>hK v w' h1.size (hs.trans ⟨h1.os,h1.tape,h1.output,h1.size,fun q hq _=>h1.block q hq⟩) (fun j u _ _ h=>og h1 h) ?_ (fun h=>by cases h));unfold Spec.dJ;cases hR:R k with
 |any=>trivial
 |is x=>rw[hR]at h2;exact h2
 |st q hq=>rw[hR]at h2;exact .inr h2
theorem cu.nil:cu P Q ops n a0 W row p R k []:=trivial
theorem jC {a:Act} {j d:Nat} {X:Value} (h:TS ops R a j) (hS:R j=.is X) (hd:(ops[j]?).bind (·.dst)=some d):a.tmps[d]? =some X:=by
 have:=h X hS;unfold aT at this;rw[hd]at this;exact this
theorem iD {j:Nat} {v:Value} {w:World} (h:Spec.dJ ops p R true j v w) (hw:(j==p||waits ops j p)=true):(R j).holds v w:=by
 unfold Spec.dJ at h;cases hR:R j with
 |any=>trivial
 |is x=>rw[hR]at h;exact h
 |st q hq=>
  rw[hR]at h;rcases h with⟨_,h1,h2⟩|h
  ·rw[h2,Bool.or_false]at hw;exact absurd (by simpa using hw) h1
  ·exact h
theorem Vp {a:Act} {w:World} {j d:Nat} {X:Value} (h:∃v,aT ops a j v/\Spec.dJ ops p R true j v w) (hS:R j=.is X) (hd:(ops[j]?).bind (·.dst)=some d):a.tmps[d]? =some X:=by
 obtain⟨v,h1,h2⟩:=h;unfold Spec.dJ at h2;rw[hS]at h2;unfold aT at h1;rw[hd]at h1;rw[show v=X from h2]at h1;exact h1
theorem atP {a:Act} {w:World} {j d:Nat} (h:∃v,aT ops a j v/\Spec.dJ ops p R true j v w) (hd:(ops[j]?).bind (·.dst)=some d) (hw:(j==p||waits ops j p)=true):∃v,a.tmps[d]? =some v/\(R j).holds v w:=by
 obtain⟨v,h1,h2⟩:=h;unfold aT at h1;rw[hd]at h1;exact⟨v,h1,iD h2 hw⟩
end
end
section
variable {P:Program} {ops:Array Oper} {Q:Exit->Act->World->Prop}
structure uD (ops:Array Oper) (n:Nat) (Fr:Nat->Bool) (a0:Act) (p:Nat) (S:Bool->World->Prop) (R:Bool->Nat->Value->World->Prop) (L:Nat->Bool) (a:Act) (w:World):Prop where
 s:S (L p) w
 defers:a.defers=a0.defers
 size:a.tmps.size=a0.tmps.size
 old:∀d:Tmp,(∀k:Nat,k<n->(ops[k]?).bind (·.dst)≠some d)->a.tmps[d]? =a0.tmps[d]?
 got:∀k:Nat,k<n->L k=true->∃v,aT ops a k v/\R (L p) k v w
 closed:∀(k:Nat) (o:Oper),ops[k]? =some o->L k=true->∀e∈o.after,Region.binds .any e=true->L e.on=true
 fresh:∀k:Nat,k<n->L k=true->Fr k=true->∀v,aT ops a k v->∃g,bZ v=some g/\g<w.heap.size
 apart:∀j k:Nat,j<n->k<n->j≠k->L j=true->L k=true->Fr j=true->Fr k=true->∀u v,aT ops a j u->aT ops a k v->bZ u≠bZ v
def Jz (P:Program) (Q:Exit->Act->World->Prop) (ops:Array Oper) (n:Nat) (Fr:Nat->Bool) (a0:Act) (p:Nat) (S:Bool->World->Prop) (R:Bool->Nat->Value->World->Prop) (k:Nat) (o:Oper):Prop:=
 ∀(K:Act->World->Prop) (L:Nat->Bool) (a:Act) (w:World),uD ops n Fr a0 p S R L a w->L k=false->(∀e∈o.after,Region.binds .any e=true->L e.on=true)->
  (∀v w',w.heap.size<=w'.heap.size->S (L p||(k==p)) w'->(∀j u,k≠j->R (L p) j u w->R (L p||(k==p)) j u w')->R (L p||(k==p)) k v w'->(Fr k=true->o.dst.isSome=true/\∃g,bZ v=some g/\w.heap.size<=g/\g<w'.heap.size)->K (a.put o.dst v) w')->
  if Region.wanted o (yielded ops a.tmps)=true then o.wp P a w K Q else K (a.put o.dst undef) w
def zG (P:Program) (Q:Exit->Act->World->Prop) (ops:Array Oper) (n:Nat) (Fr:Nat->Bool) (a0:Act) (p:Nat) (S:Bool->World->Prop) (R:Bool->Nat->Value->World->Prop):Nat->List Oper->Prop
 |_,[]=>True
 |k,o::l=>Jz P Q ops n Fr a0 p S R k o/\zG P Q ops n Fr a0 p S R (k+1) l
theorem zG.get {n:Nat} {Fr:Nat->Bool} {a0:Act} {p:Nat} {S:Bool->World->Prop} {R:Bool->Nat->Value->World->Prop}:∀{l:List Oper} {k i:Nat} {o:Oper},zG P Q ops n Fr a0 p S R k l->l[i]? =some o->Jz P Q ops n Fr a0 p S R (k+i) o
 |[],_,_,_,_,h=>by simp at h
 |x::l,k,0,o,h,ho=>by
  simp only[List.getElem?_cons_zero,Option.some.injEq]at ho;subst ho;exact h.1
 |x::l,k,i+1,o,h,ho=>by
  simp only[List.getElem?_cons_succ]at ho;have:=h.2.get ho
  rwa [show k+1+i=k+(i+1) by omega]at this
theorem uD.next {n : Nat} {Fr : Nat → Bool} {a0 : Act} {p : Nat} {S : Bool → World → Prop} {R : Bool → Nat → Value → World → Prop} (hf : fK ops a0.tmps.size = true)
  {L L':Nat->Bool} {a:Act} {w:World} (hi:uD ops n Fr a0 p S R L a w) {i:Nat} {o:Oper} (hin:i<n) (ho:ops[i]? =some o) (iO:∀e∈o.after,Region.binds .any e=true->L e.on=true)
  (hL:∀k,i≠k->L' k=true->L k=true) (hL2:∀k,L k=true->L' k=true)
  {v:Value} {w':World} (hz:w.heap.size<=w'.heap.size) (hS':S (L' p) w') (QO:∀j u,i≠j->R (L p) j u w->R (L' p) j u w') (hR:R (L' p) i v w') (hF:Fr i=true->o.dst.isSome=true/\∃g,bZ v=some g/\w.heap.size<=g/\g<w'.heap.size):uD ops n Fr a0 p S R L' (a.put o.dst v) w':=by
 have hL0:=hL;have jh:=yT (v:=v) hf hi.size ho
 have uniq:Fr i=true->∀u,aT ops (a.put o.dst v) i u->u=v:=by
  intro Nk u hu;obtain⟨hd,_⟩:=hF Nk;unfold aT at hu jh;rw[ho,Option.bind_some]at hu jh;cases hx:o.dst with
  |none=>rw[hx]at hd;cases hd
  |some d=>
   rw[hx]at hu jh;simp only at hu jh;rw[jh]at hu;injection hu with hu
   exact hu.symm
 have back:∀k u,i≠k->aT ops (a.put o.dst v) k u->aT ops a k u:=by
  intro k u hik hu;unfold aT at hu⊢;cases hx:(ops[k]?).bind (·.dst)with
  |none=>trivial
  |some d=>
   rw[hx]at hu;simp only at hu;have hne:=nY hf (i:=k) (j:=i) (Ne.symm hik) (d:=d) hx;unfold lG at hne;rw[ho,Option.bind_some]at hne;cases hy:o.dst with
   |none=>rw[hy]at hu;exact hu
   |some d2=>
    rw[hy]at hu hne;have hu:(a.tmps.setIfInBounds d2 v)[d]? =some u:=hu;rw[Array.getElem?_setIfInBounds_ne (fun e=>hne (by rw[e]))]at hu;exact hu
 refine⟨hS',?_,?_,?_,?_,?_,?_,?_⟩
 ·rw[<-hi.defers];cases o.dst<;>rfl
 ·rw[<-hi.size];cases o.dst<;>simp[Act.put]
 ·intro d hd;rw[<-hi.old d hd];have:=hd i hin;rw[ho,Option.bind_some]at this;cases hx:o.dst with
  |none=>rfl
  |some d2=>
   rw[hx]at this
   show(a.tmps.setIfInBounds d2 v)[d]? =a.tmps[d]?
   exact Array.getElem?_setIfInBounds_ne (fun e=>this (by rw[e]))
 ·intro k hk hL
  by_cases hki:i=k
  ·subst hki;exact⟨v,jh,hR⟩
  ·have hL:=hL0 k hki hL;obtain⟨u,h1,h2⟩:=hi.got k hk hL;exact⟨u,vN hf ho hki h1,QO k u hki h2⟩
 ·intro k o2 hk hL e he hb
  by_cases hki:i=k
  ·subst hki;rw[ho]at hk;injection hk with hk
   subst hk;exact hL2 _ (iO e he hb)
  ·have hL:=hL0 k hki hL;exact hL2 _ (hi.closed k o2 hk hL e he hb)
 ·intro k hk hL pg u hu
  by_cases hki:i=k
  ·subst hki;obtain⟨_,g,h1,_,h3⟩:=hF pg;rw[uniq pg u hu];exact⟨g,h1,h3⟩
  ·have hL:=hL0 k hki hL;obtain⟨g,h1,h2⟩:=hi.fresh k hk hL pg u (back k u hki hu);exact⟨g,h1,Nat.lt_of_lt_of_le h2 hz⟩
 ·have new:∀k,k<n->i≠k->L k=true->Fr i=true->Fr k=true->∀u,aT ops (a.put o.dst v) k u->bZ v≠bZ u:=by
   intro k hk hik hL Nk pg u hu;obtain⟨_,g,h1,h2,_⟩:=hF Nk;obtain⟨g2,h4,h5⟩:=hi.fresh k hk hL pg u (back k u hik hu);rw[h1,h4];intro he;injection he with he
   omega
  intro j k hj hk hjk Ed hLk Ee pg u u2 hu hu2
  by_cases hij:i=j
  ·subst hij;have hLk:=hL0 k hjk hLk;rw[uniq Ee u hu];exact new k hk hjk hLk Ee pg u2 hu2
  ·have Ed:=hL0 j hij Ed
   by_cases hik:i=k
   ·subst hik;rw[uniq pg u2 hu2];exact(new j hj hij Ed pg Ee u hu).symm
   ·have hLk:=hL0 k hik hLk;exact hi.apart j k hj hk hjk Ed hLk Ee pg u u2 (back j u hij hu) (back k u2 hik hu2)
theorem Iy {n : Nat} {Fr : Nat → Bool} {a0 : Act} {p : Nat} {S : Bool → World → Prop} {R : Bool → Nat → Value → World → Prop} (hn : n ≤ ops.size) (hf : fK ops a0.tmps.size = true) (gK : jV ops n = true)
  (hall:zG P Q ops n Fr a0 p S R 0 (ops.toList.take n))
  (hend:∀a w,(∀L:Nat->Bool,(∀k,k<n->L k=true)->uD ops n Fr a0 p S R L a w->wpOps P ops Q (List.range' n (ops.size-n)) a w)):
  ∀(fuel:Nat) (listed:Array Bool) (a:Act) (w:World),listed.size=ops.size->listed.toList.count false<=fuel->(∀j,n<=j->listed.getD j false=false)->uD ops n Fr a0 p S R (fun k=>listed.getD k false) a w->wpAny P .any ops Q fuel listed a w:=by
 have enough:∀(listed:Array Bool) (m:Nat),listed.size=ops.size->(∀j,m<=j->listed.getD j false=false)->m<=ops.size->ops.size-m<=listed.toList.count false:=by
  intro listed m hz h hm
  have h1:(listed.toList.drop m).count false=ops.size-m:=by
   rw[List.count_eq_length.2]
   ·simp[hz]
   ·intro b hb;obtain⟨i,hi,rfl⟩:=List.mem_iff_getElem.1 hb;have:=h (m+i) (by omega);rw[List.length_drop,Array.length_toList]at hi;rw[Array.getD_eq_getD_getElem?,Array.getElem?_eq_getElem (by omega)]at this;simp only[List.getElem_drop,Array.getElem_toList]
    simpa using this.symm
  have h2:=List.Sublist.count_le false (List.drop_sublist m listed.toList);omega
 intro fuel
 induction fuel with
 |zero=>
  intro listed a w hz hc hl hi;have hlen:=enough listed n hz hl hn
  have fD:∀k,k<n->listed.getD k false=true:=by
   intro k hk;have hlt:k<listed.size:=by omega
   rw[Array.getD_eq_getD_getElem?,Array.getElem?_eq_getElem hlt];have:false∉listed.toList:=List.count_eq_zero.1 (by omega);cases hx:listed[k]with
   |true=>rfl
   |false=>exact absurd (by rw[<-hx];simp) this
  exact kX hf gK 0 n listed a w zL hn (by omega) hz fD hl hi.closed (hend a w _ fD hi)
 |succ fuel ih=>
  intro listed a w hz hc hl hi
  by_cases fD:∀k,k<n->listed.getD k false=true
  ·exact kX hf gK (fuel+1) n listed a w zL hn (by have:=enough listed n hz hl hn;omega) hz fD hl hi.closed (hend a w _ fD hi)
  refine⟨fun hr=>?_,fun i hmem=>?_⟩
  ·exfalso;refine fD ?_;intro k
   induction k using Nat.strongRecOn with
   |ind k ihk=>
    intro hk;cases hlk:listed.getD k false with
    |true=>rfl
    |false=>
     exfalso;have hks:k<ops.size:=by omega
     have hmem:k∈Region.ready .any ops listed:=by
      rw[mem_ready];refine⟨?_,ops[k],Array.getElem?_eq_getElem hks,?_⟩
      ·rw[Array.getD_eq_getD_getElem?,Array.getElem?_eq_getElem (by omega:k<listed.size)]at hlk⊢;exact hlk
      ·intro e he hb;have hlt:=pM hf (Array.getElem?_eq_getElem hks) he hb;exact ihk e.on hlt (by omega)
     rw[hr]at hmem;cases hmem
  obtain⟨hlt0,o,ho,iO⟩:=mem_ready.1 hmem;obtain⟨hlt,hg⟩:=gV hlt0
  have hin:i<n:=by
   rcases Nat.lt_or_ge i n with h|h
   ·exact h
   ·exfalso;exact fD fun k hk=>yj gK ho h (by omega) (L:=fun k=>listed.getD k false) hi.closed iO
  have hs:=hall.get (i:=i) (o:=o) (by rw[List.getElem?_take_of_lt hin];simpa using ho);rw[Nat.zero_add]at hs
  have hLi:listed.getD i false=false:=by
   rw[Array.getD_eq_getD_getElem?,hg];rfl
  have yu:(listed.setIfInBounds i true).getD p false=(listed.getD p false||(i==p)):=by
   by_cases Vm:i=p
   ·subst Vm;rw[Array.getD_eq_getD_getElem?];simp[hlt]
   ·rw[getD_set_ne false Vm];simp[Vm]
  have next:∀v w',w.heap.size<=w'.heap.size->S (listed.getD p false||(i==p)) w'->(∀j u,i≠j->R (listed.getD p false) j u w->R (listed.getD p false||(i==p)) j u w')->R (listed.getD p false||(i==p)) i v w'->(Fr i=true->o.dst.isSome=true/\∃g,bZ v=some g/\w.heap.size<=g/\g<w'.heap.size)->wpAny P .any ops Q fuel (listed.setIfInBounds i true) (a.put o.dst v) w':=by
   intro v w' hzz hSS hRR hR hF;rw[<-yu]at hSS hRR hR;refine ih _ _ _ (by simpa using hz) ?_ ?_ ?_
   ·have:(listed.toList.set i true).count false=listed.toList.count false-1:=by
     rw[List.count_set (by simpa using hlt)]
     have:listed[i]=false:=by
      rw[Array.getElem?_eq_getElem hlt]at hg
      simpa using hg
     simp[this]
    simp only[Array.toList_setIfInBounds];omega
   ·intro j hj;rw[getD_set_ne false (by omega)];exact hl j hj
   ·exact hi.next hf hin ho iO (fun k hk hx=>by
     have hx:(listed.setIfInBounds i true).getD k false=true:=hx
     rwa [getD_set_ne false hk]at hx) (fun k hx=>getD_set_true hx) hzz hSS hRR hR hF
  have:=hs (wpAny P .any ops Q fuel (listed.setIfInBounds i true)) _ a w hi hLi iO next;unfold wpOp;rw[ho];simp only
  split
  ·rename_i hw
   rw[if_pos hw]at this;exact .inl this
  ·rename_i hw
   rw[if_neg hw]at this;exact this
def Spec.both (p:Nat) (R:Nat->Spec) (b:Bool) (k:Nat) (v:Value) (w:World):Prop:=
 match R k with
 |.st q _=>(b=true/\k≠p)\/q v w
 |.is x=>v=x
 |.any=>True
theorem wu {p:Nat} {R:Nat->Spec} {b:Bool} {k:Nat} {v:Value} {w w':World} (hb:Below w.heap.size w w') (h:Spec.both p R b k v w):Spec.both p R b k v w':=by
 unfold Spec.both at h⊢
 split at h
 ·rename_i q hq he
  rcases h with h|h
  ·exact .inl h
  ·exact .inr (hq v w w' hb h)
 ·exact h
 ·trivial
theorem Cf {p:Nat} {R:Nat->Spec} {k:Nat} {v:Value} {w w':World} (hk:p≠k) (h:Spec.both p R false k v w):Spec.both p R true k v w':=by
 unfold Spec.both at h⊢
 split at h
 ·exact .inl ⟨rfl,Ne.symm hk⟩
 ·exact h
 ·trivial
theorem wF {p:Nat} {R:Nat->Spec} {k:Nat} {v:Value} {w:World}:Spec.both p R false k v w<->(R k).holds v w:=by
 unfold Spec.both;cases R k with
 |any=>exact Iff.rfl
 |is x=>exact Iff.rfl
 |st q hq=>exact⟨fun h=>h.resolve_left (fun h=>by cases h.1),fun h=>.inr h⟩
def sU (W:World) (row:Option Nat) (b:Bool) (w:World):Prop:=if b=true then W.grownBy w row else Below W.heap.size W w
theorem sU.keep {W w w':World} {row:Option Nat} {b:Bool} (h:sU W row b w) (hb:Below w.heap.size w w'):sU W row b w':=by
 unfold sU at h⊢;cases b
 ·exact Below.trans h (hb.mono (Below.size h))
 ·exact World.grownBy.trans h (by
   exact⟨hb.os,hb.tape,hb.output,hb.size,fun k hk _=>hb.block k hk⟩)
abbrev bC (P:Program) (Q:Exit->Act->World->Prop) (ops:Array Oper) (n:Nat) (a0:Act) (W:World) (row:Option Nat) (p:Nat) (R:Nat->Spec) (k:Nat) (l:List Oper):Prop:=
 zG P Q ops n (fun _=>false) a0 p (sU W row) (Spec.both p R) k l
theorem mr {id : Nat} {a0 : Act} {W : World} (n p : Nat) (row : Option Nat) (hp : p < n) (hm : P.follows .mixedOrders = true) (R : Nat → Spec) (hf : (fK ops a0.tmps.size && jV ops n && decide (n ≤ ops.size)) = true)
  (hall:bC P Q ops n a0 W row p R 0 (ops.toList.take n))
  (hend:∀(vals:List Value) (w:World),vals.length=n->W.grownBy w row->(∀k v,vals[k]? =some v->Spec.both p R true k v w)->wpList P ops Q (ops.toList.drop n) (aN (ops.toList.take n) vals a0) w):
  (Code.region id ops true).wp P Q a0 W:=by
 simp only[Bool.and_eq_true,decide_eq_true_eq]at hf;obtain⟨⟨hf,gK⟩,hn⟩:=hf;refine wp_region_any hm ?_;refine Iy (n:=n) (p:=p) (Fr:=fun _=>false) (S:=sU W row) (R:=Spec.both p R) hn hf gK hall ?_ _ _ _ _ (by simp) (by simp) (by intro j _;simp[Array.getD]) ?_
 ·intro a w L hL hi;obtain⟨vals,hl,hv⟩:=qC (ops:=ops) (a:=a) (w:=w) (R:=Spec.both p R true) n fun k hk=>by have:=hi.got k hk (hL k hk);rw[hL p hp]at this;exact this
  have hto:∀k:Nat,((ops.toList.take n)[k]?).bind (·.dst)=if k<n then(ops[k]?).bind (·.dst)else none:=by
   intro k
   by_cases hk:k<n
   ·rw[if_pos hk,List.getElem?_take_of_lt hk,Array.getElem?_toList]
   ·rw[if_neg hk,List.getElem?_eq_none (by simp;omega)];rfl
  have:a=aN (ops.toList.take n) vals a0:=by
   obtain⟨tm,df⟩:=a
   have h1:tm=(aN (ops.toList.take n) vals a0).tmps:=by
    apply Array.ext_getElem?
    intro d
    by_cases hd:∃k:Nat,k<n/\(ops[k]?).bind (·.dst)=some d
    ·obtain⟨k,hkn,hk⟩:=hd;have hg:vals[k]? =some vals[k]:=List.getElem?_eq_getElem (by omega);have h2:=(hv k _ hg).1;unfold aT at h2;rw[hk]at h2;simp only at h2;rw[h2]
     symm
     refine kY _ _ _ k (by rw[hto,if_pos hkn];exact hk) hg (fun j hj=>?_) (vM hf (i:=k) hk);rw[hto]
     split
     ·exact nY hf (i:=k) (j:=j) hj (d:=d) hk
     ·simp
    ·have hd:∀k:Nat,k<n->(ops[k]?).bind (·.dst)≠some d:=fun k hkn hk=>hd ⟨k,hkn,hk⟩
     rw[gG _ _ _ (fun k=>by
      rw[hto]
      split
      ·rename_i h;exact hd k h
      ·simp)]
     exact hi.old d hd
   have h2:df=(aN (ops.toList.take n) vals a0).defers:=by rw[gW];exact hi.defers
   rw[h1,h2]
  have hlen:(ops.toList.drop n).length=ops.size-n:=by simp
  rw[<-hlen,wpOps_eq_wpList (ops.toList.drop n) n (by intro j;simp[List.getElem?_drop])];rw[this];have hs:=hi.s;rw[hL p hp]at hs;exact hend vals w hl hs (fun k v h=>(hv k v h).2)
 ·refine⟨?_,rfl,rfl,fun _ _=>rfl,?_,?_,?_,?_⟩
  ·simp only[Array.getD];unfold sU;simp;exact Below.drew zR
  ·intro k _ hk;simp[Array.getD]at hk
  ·intro k o _ hk;simp[Array.getD]at hk
  ·intro k _ hk;simp[Array.getD]at hk
  ·intro j k _ _ _ hk;simp[Array.getD]at hk
section
variable {n p:Nat} {a0:Act} {W:World} {row:Option Nat} {R:Nat->Spec} {k:Nat} {o:Oper}
theorem zI {L : Nat → Bool} {a : Act} {w : World} (hi : uD ops n (fun _ => false) a0 p (sU W row) (Spec.both p R) L a w) (hp : L p = false) (ho : ops[k]? = some o) (hA : ∀ e ∈ o.after, Region.binds .any e = true → L e.on = true) :
  ∀{l:List Nat},(l.all fun j=>decide (j<n)&&waits ops k j)=true->Facts ops (fun k v w=>(R k).holds v w) a w l
 |[],_=>trivial
 |j::l,hl=>by
  simp only[List.all_cons,Bool.and_eq_true,decide_eq_true_eq]at hl;obtain⟨v,h1,h2⟩:=hi.got j hl.1.1 (dH ho hl.1.2 hi.closed hA);rw[hp]at h2;exact⟨⟨v,h1,wF.1 h2⟩,zI hi hp ho hA hl.2⟩
theorem bC.cons {rest : List Oper} (ho : ops[k]? = some o) (l ds : List Nat) (hkp : (k == p) = false) (op : Oper) (hop : ops[p]? = some op) (hw : waits ops p k = true) (hg : o.guard = none) (hl : (l.all fun j => decide (j < n) && waits ops k j) = true) (hds : ds.all (outer ops) = true)
  (h:∀(K:Act->World->Prop) (a:Act) (w:World),Below W.heap.size W w->dN ops a0 a ds->Facts ops (fun k v w=>(R k).holds v w) a w l->(∀v w',Below w.heap.size w w'->(R k).holds v w'->K (a.put o.dst v) w')->o.wp P a w K Q)
  (hr:bC P Q ops n a0 W row p R (k+1) rest):bC P Q ops n a0 W row p R k (o::rest):=by
 refine⟨fun K L a w hi hLk hA hK=>?_,hr⟩;rw[if_pos (by unfold Region.wanted;rw[hg])]
 have yu:L p=false:=by
  cases hx:L p with
  |false=>rfl
  |true=>
   have:=dH hop hw hi.closed (fun e he hb=>hi.closed p op hop hx e he hb);rw[hLk]at this;cases this
 have hs:=hi.s;rw[yu]at hs hK;rw[hkp]at hK;exact h K a w hs (bM hi.old ds hds) (zI hi yu ho hA hl) (fun v w' h1 h2=>hK v w' h1.size (sU.keep hs h1) (fun j u _ h=>wu h1 h) (wF.2 h2) (fun h=>by cases h))
theorem bC.app {rest : List Oper} (ho : ops[p]? = some o) (l ds : List Nat) (hg : o.guard = none) (hl : (l.all fun j => decide (j < n) && waits ops p j) = true) (hds : ds.all (outer ops) = true)
  (h:∀(K:Act->World->Prop) (a:Act) (w:World),Below W.heap.size W w->dN ops a0 a ds->Facts ops (fun k v w=>(R k).holds v w) a w l->(∀v w',W.grownBy w' row->w.heap.size<=w'.heap.size->(R p).holds v w'->K (a.put o.dst v) w')->o.wp P a w K Q)
  (hr:bC P Q ops n a0 W row p R (p+1) rest):bC P Q ops n a0 W row p R p (o::rest):=by
 refine⟨fun K L a w hi hLk hA hK=>?_,hr⟩;rw[if_pos (by unfold Region.wanted;rw[hg])];have hs:=hi.s;rw[hLk]at hs hK;rw[show(false||(p==p))=true from by simp]at hK;refine h K a w hs (bM hi.old ds hds) (zI hi hLk ho hA hl) (fun v w' h1 h0 h2=>hK v w' h0 h1 (fun j u hj h=>Cf hj h) ?_ (fun h=>by cases h));unfold Spec.both;cases hR:R p with
 |any=>trivial
 |is x=>rw[hR]at h2;exact h2
 |st q hq=>rw[hR]at h2;exact .inr h2
def ZQ (ops:Array Oper) (R:Nat->Spec) (a:Act) (j:Nat):Prop:=∀X,R j=.is X->aT ops a j X
def qQ (ops:Array Oper) (R:Nat->Spec) (a:Act):List Nat->Prop
 |[]=>True
 |j::l=>ZQ ops R a j/\qQ ops R a l
theorem uF {L : Nat → Bool} {a : Act} {w : World} (hi : uD ops n (fun _ => false) a0 p (sU W row) (Spec.both p R) L a w) (ho : ops[k]? = some o) (hA : ∀ e ∈ o.after, Region.binds .any e = true → L e.on = true) :
  ∀{l:List Nat},(l.all fun j=>decide (j<n)&&waits ops k j)=true->qQ ops R a l
 |[],_=>trivial
 |j::l,hl=>by
  simp only[List.all_cons,Bool.and_eq_true,decide_eq_true_eq]at hl;obtain⟨v,h1,h2⟩:=hi.got j hl.1.1 (dH ho hl.1.2 hi.closed hA);refine⟨fun X hX=>?_,uF hi ho hA hl.2⟩;unfold Spec.both at h2;rw[hX]at h2;rw[<-show v=X from h2];exact h1
theorem bC.pure {rest : List Oper} (ho : ops[k]? = some o) (l ds : List Nat) (hkp : (k == p) = false) (hg : o.guard = none) (hl : (l.all fun j => decide (j < n) && waits ops k j) = true) (hds : ds.all (outer ops) = true) (X : Value) (hX : R k = .is X)
  (h:∀(K:Act->World->Prop) (a:Act) (w:World),dN ops a0 a ds->qQ ops R a l->K (a.put o.dst X) w->o.wp P a w K Q)
  (hr:bC P Q ops n a0 W row p R (k+1) rest):bC P Q ops n a0 W row p R k (o::rest):=by
 refine⟨fun K L a w hi hLk hA hK=>?_,hr⟩;rw[if_pos (by unfold Region.wanted;rw[hg])];rw[hkp,Bool.or_false]at hK;refine h K a w (bM hi.old ds hds) (uF hi ho hA hl) (hK X w zL hi.s (fun j u _ h=>h) ?_ (fun h=>by cases h));unfold Spec.both;rw[hX]
theorem bC.nil:bC P Q ops n a0 W row p R k []:=trivial
theorem DF {a:Act} {j d:Nat} {X:Value} (h:ZQ ops R a j) (hS:R j=.is X) (hd:(ops[j]?).bind (·.dst)=some d):a.tmps[d]? =some X:=by
 have:=h X hS;unfold aT at this;rw[hd]at this;exact this
theorem yC {v:Value} {w:World} (h:Spec.both p R true p v w):(R p).holds v w:=by
 unfold Spec.both at h;cases hR:R p with
 |any=>trivial
 |is x=>rw[hR]at h;exact h
 |st q hq=>rw[hR]at h;exact h.resolve_left (fun h=>h.2 rfl)
end
end
end Go.Proofs.Ytbjnhllkdilpfaa
