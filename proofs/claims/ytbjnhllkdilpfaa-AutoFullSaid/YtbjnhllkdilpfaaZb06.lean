/- Part 6 of the proof. No conditions. -/
import Derived.Test.YtbjnhllkdilpfaaZb01
namespace Go.Proofs.Ytbjnhllkdilpfaa
open Go.RowKit
section
variable {P:Program} {ops:Array Oper} {Q:Exit->Act->World->Prop}
def aT (ops:Array Oper) (a:Act) (j:Nat) (v:Value):Prop:=
 match(ops[j]?).bind (·.dst)with
 |some d=>a.tmps[d]? =some v
 |none=>True
def bZ:Value->Option Nat
 |.pointer (some a)=>some a.block
 |.slice (some a) _ _=>some a.block
 |_=>none
structure RInv (ops:Array Oper) (n:Nat) (Fr:Nat->Bool) (a0:Act) (S:World->Prop) (R:Nat->Value->World->Prop) (L:Nat->Bool) (a:Act) (w:World):Prop where
 s:S w
 defers:a.defers=a0.defers
 size:a.tmps.size=a0.tmps.size
 old:∀d:Tmp,(∀k:Nat,k<n->(ops[k]?).bind (·.dst)≠some d)->a.tmps[d]? =a0.tmps[d]?
 got:∀k:Nat,k<n->L k=true->∃v,aT ops a k v/\R k v w
 closed:∀(k:Nat) (o:Oper),ops[k]? =some o->L k=true->∀e∈o.after,Region.binds .any e=true->L e.on=true
 fresh:∀k:Nat,k<n->L k=true->Fr k=true->∀v,aT ops a k v->∃g,bZ v=some g/\g<w.heap.size
 apart:∀j k:Nat,j<n->k<n->j≠k->L j=true->L k=true->Fr j=true->Fr k=true->∀u v,aT ops a j u->aT ops a k v->bZ u≠bZ v
def lG (ops:Array Oper) (k:Nat):Option Tmp:=(ops[k]?).bind (·.dst)
def fK (ops:Array Oper) (n:Nat):Bool:=
 (List.range ops.size).all fun i=>
  (match lG ops i with
   |none=>true
   |some d=>decide (d<n)&&(List.range i).all fun j=>lG ops j !=some d)&&
  (match ops[i]? with
   |none=>true
   |some o=>o.after.all fun e=> !Region.binds .any e||decide (e.on<i))
theorem vM {n:Nat} (h:fK ops n=true) {i d:Nat} (hd:lG ops i=some d):d<n:=by
 have hi:i<ops.size:=by
  unfold lG at hd;rcases Nat.lt_or_ge i ops.size with h|h
  ·exact h
  ·rw[Array.getElem?_eq_none h]at hd;cases hd
 have:=List.all_eq_true.1 h i (List.mem_range.2 hi);simp only[hd,Bool.and_eq_true,decide_eq_true_eq]at this;exact this.1.1
theorem Jj {n:Nat} (h:fK ops n=true) {i j d:Nat} (hij:j<i) (hd:lG ops i=some d):lG ops j≠some d:=by
 have hi:i<ops.size:=by
  unfold lG at hd;rcases Nat.lt_or_ge i ops.size with h|h
  ·exact h
  ·rw[Array.getElem?_eq_none h]at hd;cases hd
 have:=List.all_eq_true.1 h i (List.mem_range.2 hi);simp only[hd,Bool.and_eq_true]at this;have:=List.all_eq_true.1 this.1.2 j (List.mem_range.2 hij)
 simpa using this
theorem nY {n:Nat} (h:fK ops n=true) {i j d:Nat} (hij:i≠j) (hd:lG ops i=some d):lG ops j≠some d:=by
 rcases Nat.lt_or_ge i j with hl|hl
 ·intro he;exact Jj h hl he hd
 ·exact Jj h (by omega) hd
theorem pM {n:Nat} (h:fK ops n=true) {i:Nat} {o:Oper} (ho:ops[i]? =some o) {e:Edge} (he:e∈o.after) (hb:Region.binds .any e=true):e.on<i:=by
 have hi:i<ops.size:=(Array.getElem?_eq_some_iff.1 ho).1;have:=List.all_eq_true.1 h i (List.mem_range.2 hi);simp only[ho,Bool.and_eq_true]at this;have h2:=this.2;rw[Array.all_eq_true']at h2;have:=h2 e he
 simpa[hb]using this
def Nj (P:Program) (Q:Exit->Act->World->Prop) (ops:Array Oper) (n:Nat) (Fr:Nat->Bool) (a0:Act) (S:World->Prop) (R:Nat->Value->World->Prop) (T:World->World->Prop) (k:Nat) (o:Oper):Prop:=
 ∀(K:Act->World->Prop) (L:Nat->Bool) (a:Act) (w:World),RInv ops n Fr a0 S R L a w->(∀e∈o.after,Region.binds .any e=true->L e.on=true)->
  (∀v w',T w w'->R k v w'->(Fr k=true->o.dst.isSome=true/\∃g,bZ v=some g/\w.heap.size<=g/\g<w'.heap.size)->K (a.put o.dst v) w')->
  if Region.wanted o (yielded ops a.tmps)=true then o.wp P a w K Q else K (a.put o.dst undef) w
def uh (P:Program) (Q:Exit->Act->World->Prop) (ops:Array Oper) (n:Nat) (Fr:Nat->Bool) (a0:Act) (S:World->Prop) (R:Nat->Value->World->Prop) (T:World->World->Prop):Nat->List Oper->Prop
 |_,[]=>True
 |k,o::l=>Nj P Q ops n Fr a0 S R T k o/\uh P Q ops n Fr a0 S R T (k+1) l
theorem uh.get {n:Nat} {Fr:Nat->Bool} {a0:Act} {S:World->Prop} {R:Nat->Value->World->Prop} {T:World->World->Prop}:∀{l:List Oper} {k i:Nat} {o:Oper},uh P Q ops n Fr a0 S R T k l->l[i]? =some o->Nj P Q ops n Fr a0 S R T (k+i) o
 |[],_,_,_,_,h=>by simp at h
 |x::l,k,0,o,h,ho=>by
  simp only[List.getElem?_cons_zero,Option.some.injEq]at ho;subst ho;exact h.1
 |x::l,k,i+1,o,h,ho=>by
  simp only[List.getElem?_cons_succ]at ho;have:=h.2.get ho
  rwa [show k+1+i=k+(i+1) by omega]at this
theorem yT {a:Act} {v:Value} {n:Nat} (hf:fK ops n=true) (hs:a.tmps.size=n) {k:Nat} {o:Oper} (ho:ops[k]? =some o):aT ops (a.put o.dst v) k v:=by
 unfold aT;rw[ho,Option.bind_some];cases hd:o.dst with
 |none=>trivial
 |some d=>
  have hlt:d<a.tmps.size:=by rw[hs];exact vM hf (i:=k) (by unfold lG;rw[ho];exact hd)
  show(a.tmps.setIfInBounds d v)[d]? =some v
  simp[hlt]
theorem vN {a:Act} {v u:Value} {n:Nat} (hf:fK ops n=true) {k j:Nat} {o:Oper} (ho:ops[k]? =some o) (hj:k≠j) (h:aT ops a j u):aT ops (a.put o.dst v) j u:=by
 unfold aT at h⊢;cases hd:o.dst with
 |none=>exact h
 |some d=>
  have hne:=nY hf hj (d:=d) (by unfold lG;rw[ho];exact hd);unfold lG at hne;cases hx:(ops[j]?).bind (·.dst)with
  |none=>trivial
  |some d2=>
   rw[hx]at h hne
   show(a.tmps.setIfInBounds d v)[d2]? =some u
   rw[Array.getElem?_setIfInBounds_ne (fun e=>hne (by rw[e]))];exact h
def yU (acc:List Nat) (l:List Edge):Nat:=l.foldl (fun m e=>if Region.binds .any e=true then m|||(1 <<< e.on)|||acc.getD e.on 0 else m) 0
def masks:List Nat->List Oper->List Nat
 |acc,[]=>acc
 |acc,o::os=>masks (acc++[yU acc o.after.toList]) os
def waits (ops:Array Oper) (k j:Nat):Bool:=((masks [] ops.toList).getD k 0).testBit j
theorem yV {acc : List Nat} {j : Nat} : ∀ {l : List Edge} {m0 : Nat}, (l.foldl (fun m e => if Region.binds .any e = true then m ||| (1 <<< e.on) ||| acc.getD e.on 0 else m) m0).testBit j = true →
  m0.testBit j=true\/∃e∈l,Region.binds .any e=true/\(e.on=j\/(acc.getD e.on 0).testBit j=true)
 |[],m0,h=>.inl h
 |e::l,m0,h=>by
  rw[List.foldl_cons]at h;rcases yV h with h|⟨e2,h2,h3⟩
  ·split at h
   ·rename_i hb
    rw[Nat.testBit_or,Nat.testBit_or,Bool.or_eq_true,Bool.or_eq_true]at h;rcases h with(h|h)|h
    ·exact .inl h
    ·refine .inr ⟨e,by simp,hb,.inl ?_⟩;rw[Nat.one_shiftLeft,Nat.testBit_two_pow]at h
     simpa using h
    ·exact .inr ⟨e,by simp,hb,.inr h⟩
   ·exact .inl h
  ·exact .inr ⟨e2,by simp[h2],h3⟩
def Jk (ops:Array Oper) (acc:List Nat):Prop:=
 ∀k j o,ops[k]? =some o->(acc.getD k 0).testBit j=true->∀L:Nat->Bool,(∀k o,ops[k]? =some o->L k=true->∀e∈o.after,Region.binds .any e=true->L e.on=true)->
  (∀e∈o.after,Region.binds .any e=true->L e.on=true)->L j=true
theorem EC:∀(os:List Oper) (acc:List Nat),Jk ops acc->(∀i,ops[acc.length+i]? =os[i]?)->Jk ops (masks acc os)
 |[],acc,h,_=>h
 |o::os,acc,h,ho=>by
  refine EC os _ ?_ ?_
  ·intro k j o2 hk hb L hL hA;rcases Nat.lt_or_ge k acc.length with hlt|hge
   ·have hb:(acc.getD k 0).testBit j=true:=by
     have:(acc++[yU acc o.after.toList]).getD k 0=acc.getD k 0:=by
      simp[List.getD,List.getElem?_append_left hlt]
     rwa [this]at hb
    exact h k j o2 hk hb L hL hA
   ·by_cases he:k=acc.length
    ·subst he;have h0:=ho 0;rw[Nat.add_zero,List.getElem?_cons_zero,hk]at h0;injection h0 with h0
     subst h0;have hb:(yU acc o2.after.toList).testBit j=true:=by simpa[List.getD]using hb
     unfold yU at hb;rcases yV hb with h0|⟨e,he,hbe,hj⟩
     ·simp at h0
     ·have hLe:=hA e (by simpa using he) hbe;rcases hj with rfl|hj
      ·exact hLe
      ·cases hoe:ops[e.on]? with
       |none=>
        exfalso;rcases Nat.lt_or_ge e.on acc.length with hq|hq
        ·have hsz:e.on<ops.size:=by
          have hlt2:acc.length<ops.size:=(Array.getElem?_eq_some_iff.1 hk).1;omega
         rw[Array.getElem?_eq_getElem hsz]at hoe;cases hoe
        ·simp[List.getD,List.getElem?_eq_none hq]at hj
       |some oe=>exact h e.on j oe hoe hj L hL (hL e.on oe hoe hLe)
    ·have:(acc++[yU acc o.after.toList]).getD k 0=0:=by
      simp only[List.getD];rw[List.getElem?_eq_none (by simp;omega)];rfl
     rw[this]at hb;simp at hb
  ·intro i;have:=ho (i+1);rw[List.getElem?_cons_succ]at this;rw[<-this]
   congr 1
   simp;omega
theorem dH {k j : Nat} {o : Oper} (ho : ops[k]? = some o) (h : waits ops k j = true) {L : Nat → Bool} (hL : ∀ k o, ops[k]? = some o → L k = true → ∀ e ∈ o.after, Region.binds .any e = true → L e.on = true)
  (hA:∀e∈o.after,Region.binds .any e=true->L e.on=true):L j=true:=by
 refine EC (ops:=ops) ops.toList [] ?_ ?_ k j o ho h L hL hA
 ·intro k j o _ hb;simp[List.getD]at hb
 ·intro i;simp
theorem gV {listed:Array Bool} {i:Nat} (h:listed.getD i true=false):i<listed.size/\listed[i]? =some false:=by
 rw[Array.getD_eq_getD_getElem?]at h;cases hx:listed[i]? with
 |none=>rw[hx]at h;cases h
 |some b=>rw[hx]at h;simp at h;subst h;exact⟨(Array.getElem?_eq_some_iff.1 hx).1,rfl⟩
def jV (ops:Array Oper) (n:Nat):Bool:=(List.range ops.size).all fun k=>decide (k<n)||(List.range k).all fun j=>waits ops k j
theorem yj {n k j : Nat} {o : Oper} (h : jV ops n = true) (ho : ops[k]? = some o) (hn : n ≤ k) (hj : j < k) {L : Nat → Bool} (hL : ∀ (k : Nat) (o : Oper), ops[k]? = some o → L k = true → ∀ e ∈ o.after, Region.binds .any e = true → L e.on = true)
  (hA:∀e∈o.after,Region.binds .any e=true->L e.on=true):L j=true:=by
 have hk:k<ops.size:=(Array.getElem?_eq_some_iff.1 ho).1;have h1:=List.all_eq_true.1 h k (List.mem_range.2 hk);simp only[Bool.or_eq_true,decide_eq_true_eq]at h1;have h2:=h1.resolve_left (by omega);exact dH ho (List.all_eq_true.1 h2 j (List.mem_range.2 hj)) hL hA
theorem kX {n z : Nat} (hf : fK ops z = true) (gK : jV ops n = true) : ∀ (fuel m : Nat) (listed : Array Bool) (a : Act) (w : World), n ≤ m → m ≤ ops.size → ops.size - m ≤ fuel → listed.size = ops.size →
  (∀j,j<m->listed.getD j false=true)->(∀j,m<=j->listed.getD j false=false)->(∀(k:Nat) (o:Oper),ops[k]? =some o->listed.getD k false=true->∀e∈o.after,Region.binds .any e=true->listed.getD e.on false=true)->
  wpOps P ops Q (List.range' m (ops.size-m)) a w->wpAny P .any ops Q fuel listed a w:=by
 have Jl:∀(listed:Array Bool),listed.size=ops.size->(∀j,j<ops.size->listed.getD j false=true)->Region.ready .any ops listed=[]:=by
  intro listed hz hall;cases hr:Region.ready .any ops listed with
  |nil=>rfl
  |cons i l=>
   exfalso;have hi:i∈Region.ready .any ops listed:=by rw[hr];simp
   obtain⟨h1,h2⟩:=gV (mem_ready.1 hi).1;have:=hall i (by omega);rw[Array.getD_eq_getD_getElem?,h2]at this;cases this
 intro fuel
 induction fuel with
 |zero=>
  intro m listed a w hnm hm hs hz h1 h2 hc h;have hm':m=ops.size:=by omega
  subst hm';rw[Nat.sub_self]at h;exact⟨Jl listed hz h1,h⟩
 |succ fuel ih=>
  intro m listed a w hnm hm hs hz h1 h2 hc h
  by_cases hm':m=ops.size
  ·subst hm';rw[Nat.sub_self]at h;have hr:=Jl listed hz h1;exact⟨fun _=>h,by rw[hr];simp⟩
  ·have hlt:m<ops.size:=by omega
   have hmem:m∈Region.ready .any ops listed:=by
    rw[mem_ready];refine⟨?_,ops[m],Array.getElem?_eq_getElem hlt,fun e he hb=>h1 _ (pM hf (Array.getElem?_eq_getElem hlt) he hb)⟩;have h0:=h2 m zL;rw[Array.getD_eq_getD_getElem?,Array.getElem?_eq_getElem (by omega:m<listed.size)]at h0⊢;exact h0
   refine⟨fun hr=>by rw[hr]at hmem;(exact absurd hmem (by simp)),fun i hi=>?_⟩;obtain⟨hl,o,ho,hA⟩:=mem_ready.1 hi
   have him:i=m:=by
    rcases Nat.lt_trichotomy i m with hx|hx|hx
    ·have:=h1 i hx;obtain⟨_,h3⟩:=gV hl;rw[Array.getD_eq_getD_getElem?,h3]at this;cases this
    ·exact hx
    ·have:=yj gK ho (by omega) hx (L:=fun k=>listed.getD k false) hc hA;rw[h2 m zL]at this;cases this
   subst him;have e:ops.size-i=(ops.size-(i+1))+1:=by omega
   rw[e,List.range'_succ,wpOps_cons]at h;refine wpOp_mono (fun a' w' h'=>ih (i+1) _ a' w' (by omega) (by omega) (by omega) (by simpa using hz) ?_ ?_ ?_ h') h
   ·intro j hj
    by_cases hij:i=j
    ·subst hij;rw[Array.getD_eq_getD_getElem?];simp[hz,hlt]
    ·rw[getD_set_ne false hij];exact h1 j (by omega)
   ·intro j hj;rw[getD_set_ne false (by omega)];exact h2 j (by omega)
   ·intro k o2 hk hL e he hb
    by_cases hki:i=k
    ·subst hki;rw[ho]at hk;injection hk with hk
     subst hk;exact getD_set_true (hA e he hb)
    ·rw[getD_set_ne false hki]at hL;exact getD_set_true (hc k o2 hk hL e he hb)
theorem RInv.next {n : Nat} {Fr : Nat → Bool} {a0 : Act} {S : World → Prop} {R : Nat → Value → World → Prop} {T : World → World → Prop} (hf : fK ops a0.tmps.size = true)
  (hST:∀w w',S w->T w w'->S w') (QO:∀k v w w',S w->T w w'->R k v w->R k v w') (YC:∀w w',T w w'->w.heap.size<=w'.heap.size)
  {L L':Nat->Bool} {a:Act} {w:World} (hi:RInv ops n Fr a0 S R L a w) {i:Nat} {o:Oper} (hin:i<n) (ho:ops[i]? =some o) (iO:∀e∈o.after,Region.binds .any e=true->L e.on=true)
  (hL:∀k,i≠k->L' k=true->L k=true) (hL2:∀k,L k=true->L' k=true)
  {v:Value} {w':World} (hT:T w w') (hR:R i v w') (hF:Fr i=true->o.dst.isSome=true/\∃g,bZ v=some g/\w.heap.size<=g/\g<w'.heap.size):RInv ops n Fr a0 S R L' (a.put o.dst v) w':=by
 have hL0:=hL;have jh:=yT (v:=v) hf hi.size ho
 have uniq:Fr i=true->∀u,aT ops (a.put o.dst v) i u->u=v:=by
  intro Nk u hu;obtain⟨hd,_⟩:=hF Nk;unfold aT at hu jh;rw[ho,Option.bind_some]at hu jh;cases hx:o.dst with
  |none=>rw[hx]at hd;cases hd
  |some d=>
   rw[hx]at hu jh;simp only at hu jh;rw[jh]at hu;injection hu with hu
   exact hu.symm
 have back:∀k u,i≠k->aT ops (a.put o.dst v) k u->aT ops a k u:=by
  intro k u hik hu;unfold aT at hu⊢;cases hx:(ops[k]?).bind (·.dst)with
  |none=>trivial
  |some d=>
   rw[hx]at hu;simp only at hu;have hne:=nY hf (i:=k) (j:=i) (Ne.symm hik) (d:=d) hx;unfold lG at hne;rw[ho,Option.bind_some]at hne;cases hy:o.dst with
   |none=>rw[hy]at hu;exact hu
   |some d2=>
    rw[hy]at hu hne;have hu:(a.tmps.setIfInBounds d2 v)[d]? =some u:=hu;rw[Array.getElem?_setIfInBounds_ne (fun e=>hne (by rw[e]))]at hu;exact hu
 refine⟨hST _ _ hi.s hT,?_,?_,?_,?_,?_,?_,?_⟩
 ·rw[<-hi.defers];cases o.dst<;>rfl
 ·rw[<-hi.size];cases o.dst<;>simp[Act.put]
 ·intro d hd;rw[<-hi.old d hd];have:=hd i hin;rw[ho,Option.bind_some]at this;cases hx:o.dst with
  |none=>rfl
  |some d2=>
   rw[hx]at this
   show(a.tmps.setIfInBounds d2 v)[d]? =a.tmps[d]?
   exact Array.getElem?_setIfInBounds_ne (fun e=>this (by rw[e]))
 ·intro k hk hL
  by_cases hki:i=k
  ·subst hki;exact⟨v,jh,hR⟩
  ·have hL:=hL0 k hki hL;obtain⟨u,h1,h2⟩:=hi.got k hk hL;exact⟨u,vN hf ho hki h1,QO k u w w' hi.s hT h2⟩
 ·intro k o2 hk hL e he hb
  by_cases hki:i=k
  ·subst hki;rw[ho]at hk;injection hk with hk
   subst hk;exact hL2 _ (iO e he hb)
  ·have hL:=hL0 k hki hL;exact hL2 _ (hi.closed k o2 hk hL e he hb)
 ·intro k hk hL pg u hu
  by_cases hki:i=k
  ·subst hki;obtain⟨_,g,h1,_,h3⟩:=hF pg;rw[uniq pg u hu];exact⟨g,h1,h3⟩
  ·have hL:=hL0 k hki hL;obtain⟨g,h1,h2⟩:=hi.fresh k hk hL pg u (back k u hki hu);exact⟨g,h1,Nat.lt_of_lt_of_le h2 (YC _ _ hT)⟩
 ·have new:∀k,k<n->i≠k->L k=true->Fr i=true->Fr k=true->∀u,aT ops (a.put o.dst v) k u->bZ v≠bZ u:=by
   intro k hk hik hL Nk pg u hu;obtain⟨_,g,h1,h2,_⟩:=hF Nk;obtain⟨g2,h4,h5⟩:=hi.fresh k hk hL pg u (back k u hik hu);rw[h1,h4];intro he;injection he with he
   omega
  intro j k hj hk hjk Ed hLk Ee pg u u2 hu hu2
  by_cases hij:i=j
  ·subst hij;have hLk:=hL0 k hjk hLk;rw[uniq Ee u hu];exact new k hk hjk hLk Ee pg u2 hu2
  ·have Ed:=hL0 j hij Ed
   by_cases hik:i=k
   ·subst hik;rw[uniq pg u2 hu2];exact(new j hj hij Ed pg Ee u hu).symm
   ·have hLk:=hL0 k hik hLk;exact hi.apart j k hj hk hjk Ed hLk Ee pg u u2 (back j u hij hu) (back k u2 hik hu2)
theorem J3 {n : Nat} {Fr : Nat → Bool} {a0 : Act} {S : World → Prop} {R : Nat → Value → World → Prop} {T : World → World → Prop} (hn : n ≤ ops.size) (hf : fK ops a0.tmps.size = true) (gK : jV ops n = true)
  (hST:∀w w',S w->T w w'->S w') (QO:∀k v w w',S w->T w w'->R k v w->R k v w') (YC:∀w w',T w w'->w.heap.size<=w'.heap.size)
  (hall:uh P Q ops n Fr a0 S R T 0 (ops.toList.take n))
  (hend:∀a w,(∀L:Nat->Bool,(∀k,k<n->L k=true)->RInv ops n Fr a0 S R L a w->wpOps P ops Q (List.range' n (ops.size-n)) a w)):
  ∀(fuel:Nat) (listed:Array Bool) (a:Act) (w:World),listed.size=ops.size->listed.toList.count false<=fuel->(∀j,n<=j->listed.getD j false=false)->RInv ops n Fr a0 S R (fun k=>listed.getD k false) a w->wpAny P .any ops Q fuel listed a w:=by
 have enough:∀(listed:Array Bool) (m:Nat),listed.size=ops.size->(∀j,m<=j->listed.getD j false=false)->m<=ops.size->ops.size-m<=listed.toList.count false:=by
  intro listed m hz h hm
  have h1:(listed.toList.drop m).count false=ops.size-m:=by
   rw[List.count_eq_length.2]
   ·simp[hz]
   ·intro b hb;obtain⟨i,hi,rfl⟩:=List.mem_iff_getElem.1 hb;have:=h (m+i) (by omega);rw[List.length_drop,Array.length_toList]at hi;rw[Array.getD_eq_getD_getElem?,Array.getElem?_eq_getElem (by omega)]at this;simp only[List.getElem_drop,Array.getElem_toList]
    simpa using this.symm
  have h2:=List.Sublist.count_le false (List.drop_sublist m listed.toList);omega
 intro fuel
 induction fuel with
 |zero=>
  intro listed a w hz hc hl hi;have hlen:=enough listed n hz hl hn
  have fD:∀k,k<n->listed.getD k false=true:=by
   intro k hk;have hlt:k<listed.size:=by omega
   rw[Array.getD_eq_getD_getElem?,Array.getElem?_eq_getElem hlt];have:false∉listed.toList:=List.count_eq_zero.1 (by omega);cases hx:listed[k]with
   |true=>rfl
   |false=>exact absurd (by rw[<-hx];simp) this
  exact kX hf gK 0 n listed a w zL hn (by omega) hz fD hl hi.closed (hend a w _ fD hi)
 |succ fuel ih=>
  intro listed a w hz hc hl hi
  by_cases fD:∀k,k<n->listed.getD k false=true
  ·exact kX hf gK (fuel+1) n listed a w zL hn (by have:=enough listed n hz hl hn;omega) hz fD hl hi.closed (hend a w _ fD hi)
  refine⟨fun hr=>?_,fun i hmem=>?_⟩
  ·exfalso;refine fD ?_;intro k
   induction k using Nat.strongRecOn with
   |ind k ihk=>
    intro hk;cases hlk:listed.getD k false with
    |true=>rfl
    |false=>
     exfalso;have hks:k<ops.size:=by omega
     have hmem:k∈Region.ready .any ops listed:=by
      rw[mem_ready];refine⟨?_,ops[k],Array.getElem?_eq_getElem hks,?_⟩
      ·rw[Array.getD_eq_getD_getElem?,Array.getElem?_eq_getElem (by omega:k<listed.size)]at hlk⊢;exact hlk
      ·intro e he hb;have hlt:=pM hf (Array.getElem?_eq_getElem hks) he hb;exact ihk e.on hlt (by omega)
     rw[hr]at hmem;cases hmem
  obtain⟨hlt0,o,ho,iO⟩:=mem_ready.1 hmem;obtain⟨hlt,hg⟩:=gV hlt0
  have hin:i<n:=by
   rcases Nat.lt_or_ge i n with h|h
   ·exact h
   ·exfalso;exact fD fun k hk=>yj gK ho h (by omega) (L:=fun k=>listed.getD k false) hi.closed iO
  have hs:=hall.get (i:=i) (o:=o) (by rw[List.getElem?_take_of_lt hin];simpa using ho);rw[Nat.zero_add]at hs
  have next:∀v w',T w w'->R i v w'->(Fr i=true->o.dst.isSome=true/\∃g,bZ v=some g/\w.heap.size<=g/\g<w'.heap.size)->wpAny P .any ops Q fuel (listed.setIfInBounds i true) (a.put o.dst v) w':=by
   intro v w' hT hR hF;refine ih _ _ _ (by simpa using hz) ?_ ?_ ?_
   ·have:(listed.toList.set i true).count false=listed.toList.count false-1:=by
     rw[List.count_set (by simpa using hlt)]
     have:listed[i]=false:=by
      rw[Array.getElem?_eq_getElem hlt]at hg
      simpa using hg
     simp[this]
    simp only[Array.toList_setIfInBounds];omega
   ·intro j hj;rw[getD_set_ne false (by omega)];exact hl j hj
   ·exact hi.next hf hST QO YC hin ho iO (fun k hk hx=>by
     have hx:(listed.setIfInBounds i true).getD k false=true:=hx
     rwa [getD_set_ne false hk]at hx) (fun k hx=>getD_set_true hx) hT hR hF
  have:=hs (wpAny P .any ops Q fuel (listed.setIfInBounds i true)) _ a w hi iO next;unfold wpOp;rw[ho];simp only
  split
  ·rename_i hw
   rw[if_pos hw]at this;exact .inl this
  ·rename_i hw
   rw[if_neg hw]at this;exact this
def Facts (ops:Array Oper) (R:Nat->Value->World->Prop) (a:Act) (w:World):List Nat->Prop
 |[]=>True
 |j::l=>(∃v,aT ops a j v/\R j v w)/\Facts ops R a w l
theorem RInv.facts {n:Nat} {Fr:Nat->Bool} {a0:Act} {S:World->Prop} {R:Nat->Value->World->Prop} {L:Nat->Bool} {a:Act} {w:World} (h:RInv ops n Fr a0 S R L a w):∀(l:List Nat),(∀j∈l,j<n/\L j=true)->Facts ops R a w l
 |[],_=>trivial
 |j::l,hl=>⟨h.got j (hl j (by simp)).1 (hl j (by simp)).2,h.facts l fun i hi=>hl i (by simp[hi])⟩
inductive Spec where
 |any
 |is (v:Value)
 |st (p:Value->World->Prop) (h:∀v w w',Below w.heap.size w w'->p v w->p v w')
def Spec.holds:Spec->Value->World->Prop
 |.any,_,_=>True
 |.is v,u,_=>u=v
 |.st p _,u,w=>p u w
theorem Spec.keep:∀(s:Spec) {v:Value} {w w':World},Below w.heap.size w w'->s.holds v w->s.holds v w'
 |.any,_,_,_,_,_=>trivial
 |.is _,_,_,_,_,h=>h
 |.st _ hp,v,w,w',hb,h=>hp v w w' hb h
def aN:List Oper->List Value->Act->Act
 |o::os,v::vs,a=>aN os vs (a.put o.dst v)
 |_,_,a=>a
theorem gW:∀(os:List Oper) (vs:List Value) (a:Act),(aN os vs a).defers=a.defers
 |[],_,_=>by simp[aN]
 |_::_,[],_=>by simp[aN]
 |o::os,v::vs,a=>by
  rw[aN,gW os vs];cases o.dst<;>simp[Act.put]
theorem gG {d:Tmp}:∀(os:List Oper) (vs:List Value) (a:Act),(∀k:Nat,(os[k]?).bind (·.dst)≠some d)->(aN os vs a).tmps[d]? =a.tmps[d]?
 |[],_,_,_=>by simp[aN]
 |_::_,[],_,_=>by simp[aN]
 |o::os,v::vs,a,h=>by
  rw[aN,gG os vs _ (fun k=>by simpa using h (k+1))];have h0:o.dst≠some d:=by simpa using h 0
  cases hx:o.dst with
  |none=>rfl
  |some d2=>
   rw[hx]at h0
   show(a.tmps.setIfInBounds d2 v)[d]? =a.tmps[d]?
   exact Array.getElem?_setIfInBounds_ne (fun e=>h0 (by rw[e]))
theorem kY {d:Tmp} {v:Value}:∀(os:List Oper) (vs:List Value) (a:Act) (k:Nat),(os[k]?).bind (·.dst)=some d->vs[k]? =some v->(∀j,k≠j->(os[j]?).bind (·.dst)≠some d)->d<a.tmps.size->(aN os vs a).tmps[d]? =some v
 |[],_,_,k,hd,_,_,_=>by simp at hd
 |_::_,[],_,k,_,hv,_,_=>by simp at hv
 |o::os,u::vs,a,0,hd,hv,hn,hlt=>by
  have hd:o.dst=some d:=by simpa using hd
  have hv:u=v:=by simpa using hv
  subst hv;rw[aN,gG os vs _ (fun k=>by simpa using hn (k+1) (by omega)),hd]
  show(a.tmps.setIfInBounds d u)[d]? =some u
  simp[hlt]
 |o::os,u::vs,a,k+1,hd,hv,hn,hlt=>by
  rw[aN];refine kY os vs _ k (by simpa using hd) (by simpa using hv) (fun j hj=>by simpa using hn (j+1) (by omega)) ?_;cases o.dst<;>simpa[Act.put]using hlt
theorem qC {a:Act} {w:World} {R:Nat->Value->World->Prop}:∀(n:Nat),(∀k,k<n->∃v,aT ops a k v/\R k v w)->∃vals:List Value,vals.length=n/\∀k v,vals[k]? =some v->aT ops a k v/\R k v w
 |0,_=>⟨[],rfl,by simp⟩
 |n+1,h=>by
  obtain⟨vals,hl,hv⟩:=qC n fun k hk=>h k (by omega)
  obtain⟨v,hv2⟩:=h n (by omega);refine⟨vals++[v],by simp[hl],fun k u hu=>?_⟩;rcases Nat.lt_or_ge k n with hlt|hge
  ·rw[List.getElem?_append_left (by omega)]at hu;exact hv k u hu
  ·by_cases he:k=n
   ·subst he;rw[List.getElem?_append_right (by omega),hl,Nat.sub_self]at hu;simp at hu;subst hu;exact hv2
   ·rw[List.getElem?_eq_none (by simp;omega)]at hu;cases hu
theorem cZ {id : Nat} {a0 : Act} {W : World} (n : Nat) (Fr : Nat → Bool) (hm : P.follows .mixedOrders = true) (R : Nat → Spec) (hf : (fK ops a0.tmps.size && jV ops n && decide (n ≤ ops.size)) = true)
  (hall:uh P Q ops n Fr a0 (fun w=>Below W.heap.size W w) (fun k v w=>(R k).holds v w) (fun w w'=>Below w.heap.size w w') 0 (ops.toList.take n))
  (hend:∀(vals:List Value) (w:World),vals.length=n->Below W.heap.size W w->(∀k v,vals[k]? =some v->(R k).holds v w)->
   (∀j k u v,j≠k->Fr j=true->Fr k=true->vals[j]? =some u->vals[k]? =some v->bZ u≠bZ v)->wpList P ops Q (ops.toList.drop n) (aN (ops.toList.take n) vals a0) w):
  (Code.region id ops true).wp P Q a0 W:=by
 simp only[Bool.and_eq_true,decide_eq_true_eq]at hf;obtain⟨⟨hf,gK⟩,hn⟩:=hf;refine wp_region_any hm ?_;refine J3 (n:=n) (Fr:=Fr) (S:=fun w=>Below W.heap.size W w) (R:=fun k v w=>(R k).holds v w) (T:=fun w w'=>Below w.heap.size w w') hn hf gK (fun w w' h1 h2=>h1.trans (h2.mono h1.size)) (fun k v w w' _ h2 h3=>(R k).keep h2 h3) (fun w w' h=>h.size) hall ?_ _ _ _ _ (by simp) (by simp) (by intro j _;simp[Array.getD]) ?_
 ·intro a w L hL hi;obtain⟨vals,hl,hv⟩:=qC (ops:=ops) (a:=a) (w:=w) (R:=fun k v w=>(R k).holds v w) n fun k hk=>hi.got k hk (hL k hk)
  have hto:∀k:Nat,((ops.toList.take n)[k]?).bind (·.dst)=if k<n then(ops[k]?).bind (·.dst)else none:=by
   intro k
   by_cases hk:k<n
   ·rw[if_pos hk,List.getElem?_take_of_lt hk,Array.getElem?_toList]
   ·rw[if_neg hk,List.getElem?_eq_none (by simp;omega)];rfl
  have:a=aN (ops.toList.take n) vals a0:=by
   obtain⟨tm,df⟩:=a
   have h1:tm=(aN (ops.toList.take n) vals a0).tmps:=by
    apply Array.ext_getElem?
    intro d
    by_cases hd:∃k:Nat,k<n/\(ops[k]?).bind (·.dst)=some d
    ·obtain⟨k,hkn,hk⟩:=hd;have hg:vals[k]? =some vals[k]:=List.getElem?_eq_getElem (by omega);have h2:=(hv k _ hg).1;unfold aT at h2;rw[hk]at h2;simp only at h2;rw[h2]
     symm
     refine kY _ _ _ k (by rw[hto,if_pos hkn];exact hk) hg (fun j hj=>?_) (vM hf (i:=k) hk);rw[hto]
     split
     ·exact nY hf (i:=k) (j:=j) hj (d:=d) hk
     ·simp
    ·have hd:∀k:Nat,k<n->(ops[k]?).bind (·.dst)≠some d:=fun k hkn hk=>hd ⟨k,hkn,hk⟩
     rw[gG _ _ _ (fun k=>by
      rw[hto]
      split
      ·rename_i h;exact hd k h
      ·simp)]
     exact hi.old d hd
   have h2:df=(aN (ops.toList.take n) vals a0).defers:=by rw[gW];exact hi.defers
   rw[h1,h2]
  have hlen:(ops.toList.drop n).length=ops.size-n:=by simp
  rw[<-hlen,wpOps_eq_wpList (ops.toList.drop n) n (by intro j;simp[List.getElem?_drop])];rw[this];refine hend vals w hl hi.s (fun k v h=>(hv k v h).2) fun j k u v hjk Ee pg hu hv2=>?_
  have hjn:j<n:=by have:=(List.getElem?_eq_some_iff.1 hu).1;omega
  have hkn:k<n:=by have:=(List.getElem?_eq_some_iff.1 hv2).1;omega
  exact hi.apart j k hjn hkn hjk (hL j hjn) (hL k hkn) Ee pg u v (hv j u hu).1 (hv k v hv2).1
 ·refine⟨?_,rfl,rfl,fun _ _=>rfl,?_,?_,?_,?_⟩
  ·exact Below.drew zR
  ·intro k _ hk;simp[Array.getD]at hk
  ·intro k o _ hk;simp[Array.getD]at hk
  ·intro k _ hk;simp[Array.getD]at hk
  ·intro j k _ _ _ hk;simp[Array.getD]at hk
theorem dU {id : Nat} {a0 : Act} {W : World} (hm : P.follows .mixedOrders = true) (R : Nat → Spec) (hf : (fK ops a0.tmps.size && jV ops ops.size && decide (ops.size ≤ ops.size)) = true)
  (hall:uh P Q ops ops.size (fun _=>false) a0 (fun w=>Below W.heap.size W w) (fun k v w=>(R k).holds v w) (fun w w'=>Below w.heap.size w w') 0 ops.toList)
  (hend:∀(vals:List Value) (w:World),vals.length=ops.size->Below W.heap.size W w->(∀k v,vals[k]? =some v->(R k).holds v w)->Q .normal (aN ops.toList vals a0) w):
  (Code.region id ops true).wp P Q a0 W:=by
 have ht:ops.toList.take ops.size=ops.toList:=List.take_of_length_le (by simp);refine cZ ops.size (fun _=>false) hm R hf (by rw[ht];exact hall) ?_;intro vals w hl hb hv _;rw[ht,List.drop_eq_nil_of_le (by simp)];exact hend vals w hl hb hv
section
variable {n:Nat} {Fr:Nat->Bool} {a0:Act} {W:World} {R:Nat->Spec} {k:Nat} {o:Oper}
abbrev aj (P:Program) (Q:Exit->Act->World->Prop) (ops:Array Oper) (n:Nat) (Fr:Nat->Bool) (a0:Act) (W:World) (R:Nat->Spec) (k:Nat) (l:List Oper):Prop:=
 uh P Q ops n Fr a0 (fun w=>Below W.heap.size W w) (fun k v w=>(R k).holds v w) (fun w w'=>Below w.heap.size w w') k l
def outer (ops:Array Oper) (d:Nat):Bool:=ops.all fun o=>o.dst !=some d
theorem Nl {d:Nat} (h:outer ops d=true):∀k:Nat,(ops[k]?).bind (·.dst)≠some d:=by
 intro k hk;cases ho:ops[k]? with
 |none=>rw[ho]at hk;cases hk
 |some o=>
  rw[ho,Option.bind_some]at hk;unfold outer at h;rw[Array.all_eq_true']at h;have:=h o (Array.mem_of_getElem? ho);simp[hk]at this
def dN (ops:Array Oper) (a0 a:Act):List Nat->Prop
 |[]=>True
 |d::l=>a.tmps[d]? =a0.tmps[d]? /\dN ops a0 a l
theorem bM {a:Act} (h:∀d:Tmp,(∀k:Nat,k<n->(ops[k]?).bind (·.dst)≠some d)->a.tmps[d]? =a0.tmps[d]?):∀(l:List Nat),l.all (outer ops)=true->dN ops a0 a l
 |[],_=>trivial
 |d::l,hl=>by
  simp only[List.all_cons,Bool.and_eq_true]at hl;exact⟨h d (fun k _=>Nl hl.1 k),bM h l hl.2⟩
theorem lH {L : Nat → Bool} {a : Act} {w : World} {S : World → Prop} {R : Nat → Value → World → Prop} (hi : RInv ops n Fr a0 S R L a w) (ho : ops[k]? = some o) (hA : ∀ e ∈ o.after, Region.binds .any e = true → L e.on = true)
  {l:List Nat} (hl:(l.all fun j=>decide (j<n)&&waits ops k j)=true):Facts ops R a w l:=by
 refine hi.facts l fun j hj=>?_
 have:=List.all_eq_true.1 hl j hj;simp only[Bool.and_eq_true,decide_eq_true_eq]at this;exact⟨this.1,dH ho this.2 hi.closed hA⟩
theorem aj.cons {rest : List Oper} (ho : ops[k]? = some o) (l ds : List Nat) (hfr : Fr k = false) (hg : o.guard = none) (hl : (l.all fun j => decide (j < n) && waits ops k j) = true) (hds : ds.all (outer ops) = true)
  (h:∀(K:Act->World->Prop) (a:Act) (w:World),Below W.heap.size W w->dN ops a0 a ds->Facts ops (fun k v w=>(R k).holds v w) a w l->(∀v w',Below w.heap.size w w'->(R k).holds v w'->K (a.put o.dst v) w')->o.wp P a w K Q)
  (hr:aj P Q ops n Fr a0 W R (k+1) rest):aj P Q ops n Fr a0 W R k (o::rest):=by
 refine⟨fun K L a w hi hA hK=>?_,hr⟩;rw[if_pos (by unfold Region.wanted;rw[hg])];exact h K a w hi.s (bM hi.old ds hds) (lH hi ho hA hl) (fun v w' h1 h2=>hK v w' h1 h2 (fun h=>by rw[hfr]at h;cases h))
theorem aj.fresh {rest : List Oper} (ho : ops[k]? = some o) (l ds : List Nat) (hg : o.guard = none) (hd : o.dst.isSome = true) (hl : (l.all fun j => decide (j < n) && waits ops k j) = true) (hds : ds.all (outer ops) = true)
  (h:∀(K:Act->World->Prop) (a:Act) (w:World),Below W.heap.size W w->dN ops a0 a ds->Facts ops (fun k v w=>(R k).holds v w) a w l->(∀v w',Below w.heap.size w w'->(R k).holds v w'->(∃g,bZ v=some g/\w.heap.size<=g/\g<w'.heap.size)->K (a.put o.dst v) w')->o.wp P a w K Q)
  (hr:aj P Q ops n Fr a0 W R (k+1) rest):aj P Q ops n Fr a0 W R k (o::rest):=by
 refine⟨fun K L a w hi hA hK=>?_,hr⟩;rw[if_pos (by unfold Region.wanted;rw[hg])];exact h K a w hi.s (bM hi.old ds hds) (lH hi ho hA hl) (fun v w' h1 h2 h3=>hK v w' h1 h2 (fun _=>⟨hd,h3⟩))
theorem vO {a:Act} {w:World} {g:Nat} {b:Bool} {R:Nat->Spec} (hR:R g=.is (.bool b)) (hd:((ops[g]?).bind (·.dst)).isSome=true) (h:∃v,aT ops a g v/\(R g).holds v w):yielded ops a.tmps g=some b:=by
 obtain⟨v,h1,h2⟩:=h;rw[hR]at h2;have h2:v=.bool b:=h2;subst h2;unfold aT at h1;unfold yielded;cases hx:(ops[g]?).bind (·.dst)with
 |none=>rw[hx]at hd;cases hd
 |some d=>
  rw[hx]at h1;simp only at h1;simp[h1]
theorem aj.yes {rest : List Oper} (ho : ops[k]? = some o) (l ds : List Nat) (hfr : Fr k = false) (g : Nat) (b : Bool) (hg : o.guard = some (g, b)) (hR : R g = .is (.bool b)) (hd : ((ops[g]?).bind (·.dst)).isSome = true) (hw : (decide (g < n) && waits ops k g) = true)
  (hl:(l.all fun j=>decide (j<n)&&waits ops k j)=true) (hds:ds.all (outer ops)=true)
  (h:∀(K:Act->World->Prop) (a:Act) (w:World),Below W.heap.size W w->dN ops a0 a ds->Facts ops (fun k v w=>(R k).holds v w) a w l->(∀v w',Below w.heap.size w w'->(R k).holds v w'->K (a.put o.dst v) w')->o.wp P a w K Q)
  (hr:aj P Q ops n Fr a0 W R (k+1) rest):aj P Q ops n Fr a0 W R k (o::rest):=by
 refine⟨fun K L a w hi hA hK=>?_,hr⟩;have hy:yielded ops a.tmps g=some b:=vO (w:=w) hR hd (lH hi ho hA (l:=[g]) (by simpa using hw)).1;rw[if_pos (by unfold Region.wanted;rw[hg];simp[hy])];exact h K a w hi.s (bM hi.old ds hds) (lH hi ho hA hl) (fun v w' h1 h2=>hK v w' h1 h2 (fun h=>by rw[hfr]at h;cases h))
theorem aj.no {rest : List Oper} (ho : ops[k]? = some o) (hfr : Fr k = false) (g : Nat) (b : Bool) (hg : o.guard = some (g, b)) (hR : R g = .is (.bool (!b))) (hd : ((ops[g]?).bind (·.dst)).isSome = true) (hw : (decide (g < n) && waits ops k g) = true)
  (hu:∀w,(R k).holds undef w)
  (hr:aj P Q ops n Fr a0 W R (k+1) rest):aj P Q ops n Fr a0 W R k (o::rest):=by
 refine⟨fun K L a w hi hA hK=>?_,hr⟩;have hy:yielded ops a.tmps g=some (!b):=vO (w:=w) hR hd (lH hi ho hA (l:=[g]) (by simpa using hw)).1;rw[if_neg (by unfold Region.wanted;rw[hg];simp[hy])];exact hK undef w zR (hu w) (fun h=>by rw[hfr]at h;cases h)
theorem aj.gone {rest : List Oper} (ho : ops[k]? = some o) (hfr : Fr k = false) (g : Nat) (b : Bool) (hg : o.guard = some (g, b)) (hR : R g = .is undef) (hd : ((ops[g]?).bind (·.dst)).isSome = true) (hw : (decide (g < n) && waits ops k g) = true)
  (hu:∀w,(R k).holds undef w)
  (hr:aj P Q ops n Fr a0 W R (k+1) rest):aj P Q ops n Fr a0 W R k (o::rest):=by
 refine⟨fun K L a w hi hA hK=>?_,hr⟩
 have hy:yielded ops a.tmps g=none:=by
  obtain⟨v,h1,h2⟩:=(lH hi ho hA (l:=[g]) (by simpa using hw)).1;have h2:(R g).holds v w:=h2;rw[hR]at h2;have h2:v=undef:=h2;subst h2;unfold aT at h1;unfold yielded;cases hx:(ops[g]?).bind (·.dst)with
  |none=>rw[hx]at hd;cases hd
  |some d=>
   rw[hx]at h1;simp only at h1;simp[h1,undef]
 rw[if_neg (by unfold Region.wanted;rw[hg];simp[hy])];exact hK undef w zR (hu w) (fun h=>by rw[hfr]at h;cases h)
theorem aj.nil:aj P Q ops n Fr a0 W R k []:=trivial
end
end
end Go.Proofs.Ytbjnhllkdilpfaa
