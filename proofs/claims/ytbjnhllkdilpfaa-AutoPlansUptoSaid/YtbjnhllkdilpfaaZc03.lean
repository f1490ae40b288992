/- Part 3 of the proof. No conditions. -/
import Derived.Test.YtbjnhllkdilpfaaZc01
namespace Go.Proofs.Ytbjnhllkdilpfaa
open Go.RowKit
set_option maxRecDepth 100000
set_option maxHeartbeats 16000000
set_option linter.unusedVariables false
set_option linter.unusedSimpArgs false
section
variable {P:Program} {ops:Array Oper} {Q:Exit->Act->World->Prop} {Kp:Nat->Bool}
def dP (ops:Array Oper) (a:Act) (j:Nat) (v:Value):Prop:=
 match(ops[j]?).bind (·.dst)with
 |some d=>a.tmps[d]? =some v
 |none=>True
def dZ:Value->Option Nat
 |.pointer (some a)=>some a.block
 |.slice (some a) _ _=>some a.block
 |_=>none
def nR (ops:Array Oper) (k:Nat):Option Tmp:=(ops[k]?).bind (·.dst)
def iQ (ops:Array Oper) (n:Nat):Bool:=
 (List.range ops.size).all fun i=>
  (match nR ops i with
   |none=>true
   |some d=>decide (d<n)&&(List.range i).all fun j=>nR ops j !=some d)&&
  (match ops[i]? with
   |none=>true
   |some o=>o.after.all fun e=> !Region.binds .any e||decide (e.on<i))
theorem PQ {n:Nat} (h:iQ ops n=true) {i d:Nat} (hd:nR ops i=some d):d<n:=by
 have hi:i<ops.size:=by
  unfold nR at hd;rcases Nat.lt_or_ge i ops.size with h|h
  ·exact h
  ·rw[Array.getElem?_eq_none h]at hd;cases hd
 have:=List.all_eq_true.1 h i (List.mem_range.2 hi);simp only[hd,Bool.and_eq_true,decide_eq_true_eq]at this;exact this.1.1
theorem Lt {n:Nat} (h:iQ ops n=true) {i j d:Nat} (hij:j<i) (hd:nR ops i=some d):nR ops j≠some d:=by
 have hi:i<ops.size:=by
  unfold nR at hd;rcases Nat.lt_or_ge i ops.size with h|h
  ·exact h
  ·rw[Array.getElem?_eq_none h]at hd;cases hd
 have:=List.all_eq_true.1 h i (List.mem_range.2 hi);simp only[hd,Bool.and_eq_true]at this;have:=List.all_eq_true.1 this.1.2 j (List.mem_range.2 hij)
 simpa using this
theorem Jr {n:Nat} (h:iQ ops n=true) {i j d:Nat} (hij:i≠j) (hd:nR ops i=some d):nR ops j≠some d:=by
 rcases Nat.lt_or_ge i j with hl|hl
 ·intro he;exact Lt h hl he hd
 ·exact Lt h (by omega) hd
theorem FZ {n:Nat} (h:iQ ops n=true) {i:Nat} {o:Oper} (ho:ops[i]? =some o) {e:Edge} (he:e∈o.after) (hb:Region.binds .any e=true):e.on<i:=by
 have hi:i<ops.size:=(Array.getElem?_eq_some_iff.1 ho).1;have:=List.all_eq_true.1 h i (List.mem_range.2 hi);simp only[ho,Bool.and_eq_true]at this;have h2:=this.2;rw[Array.all_eq_true']at h2;have:=h2 e he
 simpa[hb]using this
theorem PR {a:Act} {v:Value} {n:Nat} (hf:iQ ops n=true) (hs:a.tmps.size=n) {k:Nat} {o:Oper} (ho:ops[k]? =some o):dP ops (a.put o.dst v) k v:=by
 unfold dP;rw[ho,Option.bind_some];cases hd:o.dst with
 |none=>trivial
 |some d=>
  have hlt:d<a.tmps.size:=by rw[hs];exact PQ hf (i:=k) (by unfold nR;rw[ho];exact hd)
  show(a.tmps.setIfInBounds d v)[d]? =some v
  simp[hlt]
theorem ND {a:Act} {v u:Value} {n:Nat} (hf:iQ ops n=true) {k j:Nat} {o:Oper} (ho:ops[k]? =some o) (hj:k≠j) (h:dP ops a j u):dP ops (a.put o.dst v) j u:=by
 unfold dP at h⊢;cases hd:o.dst with
 |none=>exact h
 |some d=>
  have hne:=Jr hf hj (d:=d) (by unfold nR;rw[ho];exact hd);unfold nR at hne;cases hx:(ops[j]?).bind (·.dst)with
  |none=>trivial
  |some d2=>
   rw[hx]at h hne
   show(a.tmps.setIfInBounds d v)[d2]? =some u
   rw[Array.getElem?_setIfInBounds_ne (fun e=>hne (by rw[e]))];exact h
def zU (acc:List Nat) (l:List Edge):Nat:=l.foldl (fun m e=>if Region.binds .any e=true then m|||(1 <<< e.on)|||acc.getD e.on 0 else m) 0
def masks:List Nat->List Oper->List Nat
 |acc,[]=>acc
 |acc,o::os=>masks (acc++[zU acc o.after.toList]) os
def waits (ops:Array Oper) (k j:Nat):Bool:=((masks [] ops.toList).getD k 0).testBit j
theorem zV {acc : List Nat} {j : Nat} : ∀ {l : List Edge} {m0 : Nat}, (l.foldl (fun m e => if Region.binds .any e = true then m ||| (1 <<< e.on) ||| acc.getD e.on 0 else m) m0).testBit j = true →
  m0.testBit j=true\/∃e∈l,Region.binds .any e=true/\(e.on=j\/(acc.getD e.on 0).testBit j=true)
 |[],m0,h=>.inl h
 |e::l,m0,h=>by
  rw[List.foldl_cons]at h;rcases zV h with h|⟨e2,h2,h3⟩
  ·split at h
   ·rename_i hb
    rw[Nat.testBit_or,Nat.testBit_or,Bool.or_eq_true,Bool.or_eq_true]at h;rcases h with(h|h)|h
    ·exact .inl h
    ·refine .inr ⟨e,by simp,hb,.inl ?_⟩;rw[Nat.one_shiftLeft,Nat.testBit_two_pow]at h
     simpa using h
    ·exact .inr ⟨e,by simp,hb,.inr h⟩
   ·exact .inl h
  ·exact .inr ⟨e2,by simp[h2],h3⟩
def Lu (ops:Array Oper) (acc:List Nat):Prop:=
 ∀k j o,ops[k]? =some o->(acc.getD k 0).testBit j=true->∀L:Nat->Bool,(∀k o,ops[k]? =some o->L k=true->∀e∈o.after,Region.binds .any e=true->L e.on=true)->
  (∀e∈o.after,Region.binds .any e=true->L e.on=true)->L j=true
theorem F5:∀(os:List Oper) (acc:List Nat),Lu ops acc->(∀i,ops[acc.length+i]? =os[i]?)->Lu ops (masks acc os)
 |[],acc,h,_=>h
 |o::os,acc,h,ho=>by
  refine F5 os _ ?_ ?_
  ·intro k j o2 hk hb L hL hA;rcases Nat.lt_or_ge k acc.length with hlt|hge
   ·have hb:(acc.getD k 0).testBit j=true:=by
     have:(acc++[zU acc o.after.toList]).getD k 0=acc.getD k 0:=by
      simp[List.getD,List.getElem?_append_left hlt]
     rwa [this]at hb
    exact h k j o2 hk hb L hL hA
   ·by_cases he:k=acc.length
    ·subst he;have h0:=ho 0;rw[Nat.add_zero,List.getElem?_cons_zero,hk]at h0;injection h0 with h0
     subst h0;have hb:(zU acc o2.after.toList).testBit j=true:=by simpa[List.getD]using hb
     unfold zU at hb;rcases zV hb with h0|⟨e,he,hbe,hj⟩
     ·simp at h0
     ·have hLe:=hA e (by simpa using he) hbe;rcases hj with rfl|hj
      ·exact hLe
      ·cases hoe:ops[e.on]? with
       |none=>
        exfalso;rcases Nat.lt_or_ge e.on acc.length with hq|hq
        ·have hsz:e.on<ops.size:=by
          have hlt2:acc.length<ops.size:=(Array.getElem?_eq_some_iff.1 hk).1;omega
         rw[Array.getElem?_eq_getElem hsz]at hoe;cases hoe
        ·simp[List.getD,List.getElem?_eq_none hq]at hj
       |some oe=>exact h e.on j oe hoe hj L hL (hL e.on oe hoe hLe)
    ·have:(acc++[zU acc o.after.toList]).getD k 0=0:=by
      simp only[List.getD];rw[List.getElem?_eq_none (by simp;omega)];rfl
     rw[this]at hb;simp at hb
  ·intro i;have:=ho (i+1);rw[List.getElem?_cons_succ]at this;rw[<-this]
   congr 1
   simp;omega
theorem jF {k j : Nat} {o : Oper} (ho : ops[k]? = some o) (h : waits ops k j = true) {L : Nat → Bool} (hL : ∀ k o, ops[k]? = some o → L k = true → ∀ e ∈ o.after, Region.binds .any e = true → L e.on = true)
  (hA:∀e∈o.after,Region.binds .any e=true->L e.on=true):L j=true:=by
 refine F5 (ops:=ops) ops.toList [] ?_ ?_ k j o ho h L hL hA
 ·intro k j o _ hb;simp[List.getD]at hb
 ·intro i;simp
theorem Dh:∀(os:List Oper) (acc:List Nat),(masks acc os).length=acc.length+os.length
 |[],acc=>rfl
 |o::os,acc=>by rw[masks,Dh os];simp;omega
theorem Js {k j:Nat} (h:ops[k]? =none):waits ops k j=false:=by
 unfold waits;rw[List.getD_eq_getElem?_getD,List.getElem?_eq_none (by rw[Dh];simpa using Array.getElem?_eq_none_iff.1 h)];simp
theorem nz {listed:Array Bool} {i:Nat} (h:listed.getD i true=false):i<listed.size/\listed[i]? =some false:=by
 rw[Array.getD_eq_getD_getElem?]at h;cases hx:listed[i]? with
 |none=>rw[hx]at h;cases h
 |some b=>rw[hx]at h;simp at h;subst h;exact⟨(Array.getElem?_eq_some_iff.1 hx).1,rfl⟩
def lI (ops:Array Oper) (n:Nat):Bool:=(List.range ops.size).all fun k=>decide (k<n)||(List.range k).all fun j=>waits ops k j
theorem U1 {n k j : Nat} {o : Oper} (h : lI ops n = true) (ho : ops[k]? = some o) (hn : n ≤ k) (hj : j < k) {L : Nat → Bool} (hL : ∀ (k : Nat) (o : Oper), ops[k]? = some o → L k = true → ∀ e ∈ o.after, Region.binds .any e = true → L e.on = true)
  (hA:∀e∈o.after,Region.binds .any e=true->L e.on=true):L j=true:=by
 have hk:k<ops.size:=(Array.getElem?_eq_some_iff.1 ho).1;have h1:=List.all_eq_true.1 h k (List.mem_range.2 hk);simp only[Bool.or_eq_true,decide_eq_true_eq]at h1;have h2:=h1.resolve_left (by omega);exact jF ho (List.all_eq_true.1 h2 j (List.mem_range.2 hj)) hL hA
theorem NF {n z : Nat} (hf : iQ ops z = true) (yw : lI ops n = true) : ∀ (fuel m : Nat) (listed : Array Bool) (a : Act) (w : World), n ≤ m → m ≤ ops.size → ops.size - m ≤ fuel → listed.size = ops.size →
  (∀j,j<m->listed.getD j false=true)->(∀j,m<=j->listed.getD j false=false)->(∀(k:Nat) (o:Oper),ops[k]? =some o->listed.getD k false=true->∀e∈o.after,Region.binds .any e=true->listed.getD e.on false=true)->
  wpOps P ops Q (List.range' m (ops.size-m)) a w->wpAny P .any ops Q fuel listed a w:=by
 have LC:∀(listed:Array Bool),listed.size=ops.size->(∀j,j<ops.size->listed.getD j false=true)->Region.ready .any ops listed=[]:=by
  intro listed hz hall;cases hr:Region.ready .any ops listed with
  |nil=>rfl
  |cons i l=>
   exfalso;have hi:i∈Region.ready .any ops listed:=by rw[hr];simp
   obtain⟨h1,h2⟩:=nz (mem_ready.1 hi).1;have:=hall i (by omega);rw[Array.getD_eq_getD_getElem?,h2]at this;cases this
 intro fuel
 induction fuel with
 |zero=>
  intro m listed a w hnm hm hs hz h1 h2 hc h;have hm':m=ops.size:=by omega
  subst hm';rw[Nat.sub_self]at h;exact⟨LC listed hz h1,h⟩
 |succ fuel ih=>
  intro m listed a w hnm hm hs hz h1 h2 hc h
  by_cases hm':m=ops.size
  ·subst hm';rw[Nat.sub_self]at h;have hr:=LC listed hz h1;exact⟨fun _=>h,by rw[hr];simp⟩
  ·have hlt:m<ops.size:=by omega
   have hmem:m∈Region.ready .any ops listed:=by
    rw[mem_ready];refine⟨?_,ops[m],Array.getElem?_eq_getElem hlt,fun e he hb=>h1 _ (FZ hf (Array.getElem?_eq_getElem hlt) he hb)⟩;have h0:=h2 m zL;rw[Array.getD_eq_getD_getElem?,Array.getElem?_eq_getElem (by omega:m<listed.size)]at h0⊢;exact h0
   refine⟨fun hr=>by rw[hr]at hmem;(exact absurd hmem (by simp)),fun i hi=>?_⟩;obtain⟨hl,o,ho,hA⟩:=mem_ready.1 hi
   have him:i=m:=by
    rcases Nat.lt_trichotomy i m with hx|hx|hx
    ·have:=h1 i hx;obtain⟨_,h3⟩:=nz hl;rw[Array.getD_eq_getD_getElem?,h3]at this;cases this
    ·exact hx
    ·have:=U1 yw ho (by omega) hx (L:=fun k=>listed.getD k false) hc hA;rw[h2 m zL]at this;cases this
   subst him;have e:ops.size-i=(ops.size-(i+1))+1:=by omega
   rw[e,List.range'_succ,wpOps_cons]at h;refine wpOp_mono (fun a' w' h'=>ih (i+1) _ a' w' (by omega) (by omega) (by omega) (by simpa using hz) ?_ ?_ ?_ h') h
   ·intro j hj
    by_cases hij:i=j
    ·subst hij;rw[Array.getD_eq_getD_getElem?];simp[hz,hlt]
    ·rw[getD_set_ne false hij];exact h1 j (by omega)
   ·intro j hj;rw[getD_set_ne false (by omega)];exact h2 j (by omega)
   ·intro k o2 hk hL e he hb
    by_cases hki:i=k
    ·subst hki;rw[ho]at hk;injection hk with hk
     subst hk;exact getD_set_true (hA e he hb)
    ·rw[getD_set_ne false hki]at hL;exact getD_set_true (hc k o2 hk hL e he hb)
inductive Spec where
 |any
 |is (v:Value)
 |st (p:Value->World->Prop) (h:∀v w w',Below w.heap.size w w'->p v w->p v w')
def Spec.holds:Spec->Value->World->Prop
 |.any,_,_=>True
 |.is v,u,_=>u=v
 |.st p _,u,w=>p u w
theorem Spec.keep:∀(s:Spec) {v:Value} {w w':World},Below w.heap.size w w'->s.holds v w->s.holds v w'
 |.any,_,_,_,_,_=>trivial
 |.is _,_,_,_,_,h=>h
 |.st _ hp,v,w,w',hb,h=>hp v w w' hb h
def iD:List Oper->List Value->Act->Act
 |o::os,v::vs,a=>iD os vs (a.put o.dst v)
 |_,_,a=>a
theorem tY:∀(os:List Oper) (vs:List Value) (a:Act),(iD os vs a).defers=a.defers
 |[],_,_=>by simp[iD]
 |_::_,[],_=>by simp[iD]
 |o::os,v::vs,a=>by
  rw[iD,tY os vs];cases o.dst<;>simp[Act.put]
theorem oI {d:Tmp}:∀(os:List Oper) (vs:List Value) (a:Act),(∀k:Nat,(os[k]?).bind (·.dst)≠some d)->(iD os vs a).tmps[d]? =a.tmps[d]?
 |[],_,_,_=>by simp[iD]
 |_::_,[],_,_=>by simp[iD]
 |o::os,v::vs,a,h=>by
  rw[iD,oI os vs _ (fun k=>by simpa using h (k+1))];have h0:o.dst≠some d:=by simpa using h 0
  cases hx:o.dst with
  |none=>rfl
  |some d2=>
   rw[hx]at h0
   show(a.tmps.setIfInBounds d2 v)[d]? =a.tmps[d]?
   exact Array.getElem?_setIfInBounds_ne (fun e=>h0 (by rw[e]))
theorem Di {d:Tmp} {v:Value}:∀(os:List Oper) (vs:List Value) (a:Act) (k:Nat),(os[k]?).bind (·.dst)=some d->vs[k]? =some v->(∀j,k≠j->(os[j]?).bind (·.dst)≠some d)->d<a.tmps.size->(iD os vs a).tmps[d]? =some v
 |[],_,_,k,hd,_,_,_=>by simp at hd
 |_::_,[],_,k,_,hv,_,_=>by simp at hv
 |o::os,u::vs,a,0,hd,hv,hn,hlt=>by
  have hd:o.dst=some d:=by simpa using hd
  have hv:u=v:=by simpa using hv
  subst hv;rw[iD,oI os vs _ (fun k=>by simpa using hn (k+1) (by omega)),hd]
  show(a.tmps.setIfInBounds d u)[d]? =some u
  simp[hlt]
 |o::os,u::vs,a,k+1,hd,hv,hn,hlt=>by
  rw[iD];refine Di os vs _ k (by simpa using hd) (by simpa using hv) (fun j hj=>by simpa using hn (j+1) (by omega)) ?_;cases o.dst<;>simpa[Act.put]using hlt
theorem LD {a:Act} {w:World} {R:Nat->Value->World->Prop}:∀(n:Nat),(∀k,k<n->∃v,dP ops a k v/\R k v w)->∃vals:List Value,vals.length=n/\∀k v,vals[k]? =some v->dP ops a k v/\R k v w
 |0,_=>⟨[],rfl,by simp⟩
 |n+1,h=>by
  obtain⟨vals,hl,hv⟩:=LD n fun k hk=>h k (by omega)
  obtain⟨v,hv2⟩:=h n (by omega);refine⟨vals++[v],by simp[hl],fun k u hu=>?_⟩;rcases Nat.lt_or_ge k n with hlt|hge
  ·rw[List.getElem?_append_left (by omega)]at hu;exact hv k u hu
  ·by_cases he:k=n
   ·subst he;rw[List.getElem?_append_right (by omega),hl,Nat.sub_self]at hu;simp at hu;subst hu;exact hv2
   ·rw[List.getElem?_eq_none (by simp;omega)]at hu;cases hu
theorem Dj {a:Act} {w:World} {g:Nat} {b:Bool} {R:Nat->Spec} (hR:R g=.is (.bool b)) (hd:((ops[g]?).bind (·.dst)).isSome=true) (h:∃v,dP ops a g v/\(R g).holds v w):yielded ops a.tmps g=some b:=by
 obtain⟨v,h1,h2⟩:=h;rw[hR]at h2;have h2:v=.bool b:=h2;subst h2;unfold dP at h1;unfold yielded;cases hx:(ops[g]?).bind (·.dst)with
 |none=>rw[hx]at hd;cases hd
 |some d=>
  rw[hx]at h1;simp only at h1;simp[h1]
def Sp (Kp:Nat->Bool) (ops:Array Oper) (p:Nat) (R:Nat->Spec) (b:Bool) (k:Nat) (v:Value) (w:World):Prop:=
 match R k with
 |.st q _=>(b=true/\k≠p/\waits ops k p=false/\Kp k=false)\/q v w
 |.is x=>v=x
 |.any=>True
theorem Sp.keep {p:Nat} {R:Nat->Spec} {b:Bool} {k:Nat} {v:Value} {w w':World} (hb:Below w.heap.size w w') (h:Sp Kp ops p R b k v w):Sp Kp ops p R b k v w':=by
 unfold Sp at h⊢
 split at h
 ·rename_i q hq he
  exact h.imp id (hq v w w' hb)
 ·exact h
 ·trivial
theorem Sp.none {p:Nat} {R:Nat->Spec} {k:Nat} {v:Value} {w:World}:Sp Kp ops p R false k v w<->(R k).holds v w:=by
 unfold Sp;cases R k with
 |any=>exact Iff.rfl
 |is x=>exact Iff.rfl
 |st q hq=>exact⟨fun h=>h.resolve_left (fun h=>by cases h.1),fun h=>.inr h⟩
theorem Sp.grow {p:Nat} {R:Nat->Spec} {k:Nat} {v:Value} {w w':World} (hk:p≠k) (hw:waits ops k p=false) (hkp:Kp k=true->(R k).holds v w->(R k).holds v w') (h:Sp Kp ops p R false k v w):Sp Kp ops p R true k v w':=by
 have h:=Sp.none.1 h;unfold Sp;cases hR:R k with
 |any=>trivial
 |is x=>rw[hR]at h;exact h
 |st q hq=>
  rw[hR]at h hkp;cases hx:Kp k with
  |true=>exact .inr (hkp hx h)
  |false=>exact .inl ⟨rfl,Ne.symm hk,hw,rfl⟩
theorem Sp.self {p:Nat} {R:Nat->Spec} {b:Bool} {v:Value} {w:World}:Sp Kp ops p R b p v w<->(R p).holds v w:=by
 unfold Sp;cases R p with
 |any=>exact Iff.rfl
 |is x=>exact Iff.rfl
 |st q hq=>exact⟨fun h=>h.resolve_left (fun h=>h.2.1 rfl),fun h=>.inr h⟩
theorem Sp.post {p:Nat} {R:Nat->Spec} {b:Bool} {k:Nat} {v:Value} {w:World} (hw:waits ops k p=true):Sp Kp ops p R b k v w<->(R k).holds v w:=by
 unfold Sp;cases R k with
 |any=>exact Iff.rfl
 |is x=>exact Iff.rfl
 |st q hq=>exact⟨fun h=>h.resolve_left (fun h=>by rw[hw]at h;cases h.2.2.1),fun h=>.inr h⟩
structure RX (Kp:Nat->Bool) (ops:Array Oper) (n:Nat) (Fr:Nat->Bool) (a0:Act) (W:World) (G:World->Prop) (p:Nat) (R:Nat->Spec) (L:Nat->Bool) (a:Act) (w:World):Prop where
 g:G w
 s:L p=false->Below W.heap.size W w
 pn:n<=p->L p=false
 defers:a.defers=a0.defers
 size:a.tmps.size=a0.tmps.size
 old:∀d:Tmp,(∀k:Nat,k<n->(ops[k]?).bind (·.dst)≠some d)->a.tmps[d]? =a0.tmps[d]?
 got:∀k:Nat,k<n->L k=true->∃v,dP ops a k v/\Sp Kp ops p R (L p) k v w
 closed:∀(k:Nat) (o:Oper),ops[k]? =some o->L k=true->∀e∈o.after,Region.binds .any e=true->L e.on=true
 fresh:∀k:Nat,k<n->L k=true->Fr k=true->∀v,dP ops a k v->∃g,dZ v=some g/\g<w.heap.size
 apart:∀j k:Nat,j<n->k<n->j≠k->L j=true->L k=true->Fr j=true->Fr k=true->∀u v,dP ops a j u->dP ops a k v->dZ u≠dZ v
def ah (Kp:Nat->Bool) (P:Program) (Q:Exit->Act->World->Prop) (ops:Array Oper) (n:Nat) (Fr:Nat->Bool) (a0:Act) (W:World) (G:World->Prop) (p:Nat) (R:Nat->Spec) (k:Nat) (o:Oper):Prop:=
 ops[k]? =some o->k<n->∀(K:Act->World->Prop) (L:Nat->Bool) (a:Act) (w:World),RX Kp ops n Fr a0 W G p R L a w->L k=false->(∀e∈o.after,Region.binds .any e=true->L e.on=true)->
  (∀v w',w.heap.size<=w'.heap.size->G w'->((L p||(k==p))=false->Below W.heap.size W w')->(∀j u,k≠j->L j=true->Sp Kp ops p R (L p) j u w->Sp Kp ops p R (L p||(k==p)) j u w')->Sp Kp ops p R (L p||(k==p)) k v w'->(Fr k=true->o.dst.isSome=true/\∃g,dZ v=some g/\w.heap.size<=g/\g<w'.heap.size)->K (a.put o.dst v) w')->
  if Region.wanted o (yielded ops a.tmps)=true then o.wp P a w K Q else K (a.put o.dst undef) w
def vz (Kp:Nat->Bool) (P:Program) (Q:Exit->Act->World->Prop) (ops:Array Oper) (n:Nat) (Fr:Nat->Bool) (a0:Act) (W:World) (G:World->Prop) (p:Nat) (R:Nat->Spec):Nat->List Oper->Prop
 |_,[]=>True
 |k,o::l=>ah Kp P Q ops n Fr a0 W G p R k o/\vz Kp P Q ops n Fr a0 W G p R (k+1) l
section
variable {n:Nat} {Fr:Nat->Bool} {a0:Act} {W:World} {G:World->Prop} {p:Nat} {R:Nat->Spec}
theorem vz.get:∀{l:List Oper} {k i:Nat} {o:Oper},vz Kp P Q ops n Fr a0 W G p R k l->l[i]? =some o->ah Kp P Q ops n Fr a0 W G p R (k+i) o
 |[],_,_,_,_,h=>by simp at h
 |x::l,k,0,o,h,ho=>by
  simp only[List.getElem?_cons_zero,Option.some.injEq]at ho;subst ho;exact h.1
 |x::l,k,i+1,o,h,ho=>by
  simp only[List.getElem?_cons_succ]at ho;have:=h.2.get ho
  rwa [show k+1+i=k+(i+1) by omega]at this
theorem RX.next (hf : iQ ops a0.tmps.size = true) {L L' : Nat → Bool} {a : Act} {w : World} (hi : RX Kp ops n Fr a0 W G p R L a w) {i : Nat} {o : Oper} (hin : i < n) (ho : ops[i]? = some o) (F6 : ∀ e ∈ o.after, Region.binds .any e = true → L e.on = true)
  (hL:∀k,i≠k->L' k=true->L k=true) (hL2:∀k,L k=true->L' k=true)
  {v:Value} {w':World} (hz:w.heap.size<=w'.heap.size) (hG:G w') (hS:L' p=false->Below W.heap.size W w') (hRT:∀j u,i≠j->L j=true->Sp Kp ops p R (L p) j u w->Sp Kp ops p R (L' p) j u w') (hR:Sp Kp ops p R (L' p) i v w') (hF:Fr i=true->o.dst.isSome=true/\∃g,dZ v=some g/\w.heap.size<=g/\g<w'.heap.size):RX Kp ops n Fr a0 W G p R L' (a.put o.dst v) w':=by
 have hL0:=hL;have Dk:=PR (v:=v) hf hi.size ho
 have uniq:Fr i=true->∀u,dP ops (a.put o.dst v) i u->u=v:=by
  intro hFi u hu;obtain⟨hd,_⟩:=hF hFi;unfold dP at hu Dk;rw[ho,Option.bind_some]at hu Dk;cases hx:o.dst with
  |none=>rw[hx]at hd;cases hd
  |some d=>
   rw[hx]at hu Dk;simp only at hu Dk;rw[Dk]at hu;injection hu with hu
   exact hu.symm
 have back:∀k u,i≠k->dP ops (a.put o.dst v) k u->dP ops a k u:=by
  intro k u hik hu;unfold dP at hu⊢;cases hx:(ops[k]?).bind (·.dst)with
  |none=>trivial
  |some d=>
   rw[hx]at hu;simp only at hu;have hne:=Jr hf (i:=k) (j:=i) (Ne.symm hik) (d:=d) hx;unfold nR at hne;rw[ho,Option.bind_some]at hne;cases hy:o.dst with
   |none=>rw[hy]at hu;exact hu
   |some d2=>
    rw[hy]at hu hne;have hu:(a.tmps.setIfInBounds d2 v)[d]? =some u:=hu;rw[Array.getElem?_setIfInBounds_ne (fun e=>hne (by rw[e]))]at hu;exact hu
 refine⟨hG,hS,fun h=>Bool.eq_false_iff.2 fun e=>(by have:=hL p (by omega) e;rw[hi.pn h]at this;cases this),?_,?_,?_,?_,?_,?_,?_⟩
 ·rw[<-hi.defers];cases o.dst<;>rfl
 ·rw[<-hi.size];cases o.dst<;>simp[Act.put]
 ·intro d hd;rw[<-hi.old d hd];have:=hd i hin;rw[ho,Option.bind_some]at this;cases hx:o.dst with
  |none=>rfl
  |some d2=>
   rw[hx]at this
   show(a.tmps.setIfInBounds d2 v)[d]? =a.tmps[d]?
   exact Array.getElem?_setIfInBounds_ne (fun e=>this (by rw[e]))
 ·intro k hk hL
  by_cases hki:i=k
  ·subst hki;exact⟨v,Dk,hR⟩
  ·have hL:=hL0 k hki hL;obtain⟨u,h1,h2⟩:=hi.got k hk hL;exact⟨u,ND hf ho hki h1,hRT k u hki hL h2⟩
 ·intro k o2 hk hL e he hb
  by_cases hki:i=k
  ·subst hki;rw[ho]at hk;injection hk with hk
   subst hk;exact hL2 _ (F6 e he hb)
  ·have hL:=hL0 k hki hL;exact hL2 _ (hi.closed k o2 hk hL e he hb)
 ·intro k hk hL O7 u hu
  by_cases hki:i=k
  ·subst hki;obtain⟨_,g,h1,_,h3⟩:=hF O7;rw[uniq O7 u hu];exact⟨g,h1,h3⟩
  ·have hL:=hL0 k hki hL;obtain⟨g,h1,h2⟩:=hi.fresh k hk hL O7 u (back k u hki hu);exact⟨g,h1,Nat.lt_of_lt_of_le h2 hz⟩
 ·have new:∀k,k<n->i≠k->L k=true->Fr i=true->Fr k=true->∀u,dP ops (a.put o.dst v) k u->dZ v≠dZ u:=by
   intro k hk hik hL hFi O7 u hu;obtain⟨_,g,h1,h2,_⟩:=hF hFi;obtain⟨g2,h4,h5⟩:=hi.fresh k hk hL O7 u (back k u hik hu);rw[h1,h4];intro he;injection he with he
   omega
  intro j k hj hk hjk hLj hLk hFj O7 u u2 hu hu2
  by_cases hij:i=j
  ·subst hij;have hLk:=hL0 k hjk hLk;rw[uniq hFj u hu];exact new k hk hjk hLk hFj O7 u2 hu2
  ·have hLj:=hL0 j hij hLj
   by_cases hik:i=k
   ·subst hik;rw[uniq O7 u2 hu2];exact(new j hj hij hLj O7 hFj u hu).symm
   ·have hLk:=hL0 k hik hLk;exact hi.apart j k hj hk hjk hLj hLk hFj O7 u u2 (back j u hij hu) (back k u2 hik hu2)
def F7 (ops:Array Oper) (n:Nat):Bool:=(List.range ops.size).all fun k=>decide (k<n)||(List.range n).all fun j=>waits ops k j
theorem PU {n k j : Nat} {o : Oper} (h : F7 ops n = true) (ho : ops[k]? = some o) (hn : n ≤ k) (hj : j < n) {L : Nat → Bool} (hL : ∀ (k : Nat) (o : Oper), ops[k]? = some o → L k = true → ∀ e ∈ o.after, Region.binds .any e = true → L e.on = true)
  (hA:∀e∈o.after,Region.binds .any e=true->L e.on=true):L j=true:=by
 have hk:k<ops.size:=(Array.getElem?_eq_some_iff.1 ho).1;have h1:=List.all_eq_true.1 h k (List.mem_range.2 hk);simp only[Bool.or_eq_true,decide_eq_true_eq]at h1;have h2:=h1.resolve_left (by omega);exact jF ho (List.all_eq_true.1 h2 j (List.mem_range.2 hj)) hL hA
def doneN (z n:Nat):Array Bool:=((List.range z).map fun k=>decide (k<n)).toArray
theorem U3 {listed:Array Bool} {z n:Nat} (hz:listed.size=z) (h1:∀k,k<n->listed.getD k false=true) (h2:∀j,n<=j->listed.getD j false=false):listed=doneN z n:=by
 apply Array.ext_getElem?
 intro i
 by_cases hi:i<z
 ·have e:listed[i]? =some (listed.getD i false):=by rw[Array.getD_eq_getD_getElem?,Array.getElem?_eq_getElem (by omega)];rfl
  rw[e];unfold doneN;rw[List.getElem?_toArray,List.getElem?_map,List.getElem?_range hi]
  by_cases hn:i<n
  ·rw[h1 i hn];simp[hn]
  ·rw[h2 i (by omega)];simp[hn]
 ·rw[Array.getElem?_eq_none (by omega),Array.getElem?_eq_none (by simp[doneN];omega)]
theorem XT {n:Nat} (h:lI ops n=true) (hn:n<=ops.size):F7 ops n=true:=by
 unfold lI at h;unfold F7;rw[List.all_eq_true]at h⊢;intro k hk;have:=h k hk;simp only[Bool.or_eq_true,decide_eq_true_eq,List.all_eq_true,List.mem_range]at this⊢;rcases this with h|h
 ·exact .inl h
 ·by_cases hkn:k<n
  ·exact .inl hkn
  ·exact .inr fun j hj=>h j (by omega)
theorem LG (hn : n ≤ ops.size) (hf : iQ ops a0.tmps.size = true) (yw : F7 ops n = true)
  (hall:vz Kp P Q ops n Fr a0 W G p R 0 (ops.toList.take n))
  (hend:∀(fuel:Nat) (listed:Array Bool) a w,ops.size-n<=fuel->listed.size=ops.size->(∀k,k<n->listed.getD k false=true)->(∀j,n<=j->listed.getD j false=false)->RX Kp ops n Fr a0 W G p R (fun k=>listed.getD k false) a w->wpAny P .any ops Q fuel listed a w):
  ∀(fuel:Nat) (listed:Array Bool) (a:Act) (w:World),listed.size=ops.size->listed.toList.count false<=fuel->(∀j,n<=j->listed.getD j false=false)->RX Kp ops n Fr a0 W G p R (fun k=>listed.getD k false) a w->wpAny P .any ops Q fuel listed a w:=by
 have enough:∀(listed:Array Bool) (m:Nat),listed.size=ops.size->(∀j,m<=j->listed.getD j false=false)->m<=ops.size->ops.size-m<=listed.toList.count false:=by
  intro listed m hz h hm
  have h1:(listed.toList.drop m).count false=ops.size-m:=by
   rw[List.count_eq_length.2]
   ·simp[hz]
   ·intro b hb;obtain⟨i,hi,rfl⟩:=List.mem_iff_getElem.1 hb;have:=h (m+i) (by omega);rw[List.length_drop,Array.length_toList]at hi;rw[Array.getD_eq_getD_getElem?,Array.getElem?_eq_getElem (by omega)]at this;simp only[List.getElem_drop,Array.getElem_toList]
    simpa using this.symm
  have h2:=List.Sublist.count_le false (List.drop_sublist m listed.toList);omega
 intro fuel
 induction fuel with
 |zero=>
  intro listed a w hz hc hl hi;have hlen:=enough listed n hz hl hn
  have F8:∀k,k<n->listed.getD k false=true:=by
   intro k hk;have hlt:k<listed.size:=by omega
   rw[Array.getD_eq_getD_getElem?,Array.getElem?_eq_getElem hlt];have:false∉listed.toList:=List.count_eq_zero.1 (by omega);cases hx:listed[k]with
   |true=>rfl
   |false=>exact absurd (by rw[<-hx];simp) this
  exact hend 0 listed a w (by omega) hz F8 hl hi
 |succ fuel ih=>
  intro listed a w hz hc hl hi
  by_cases F8:∀k,k<n->listed.getD k false=true
  ·exact hend (fuel+1) listed a w (by have:=enough listed n hz hl hn;omega) hz F8 hl hi
  refine⟨fun hr=>?_,fun i hmem=>?_⟩
  ·exfalso;refine F8 ?_;intro k
   induction k using Nat.strongRecOn with
   |ind k ihk=>
    intro hk;cases hlk:listed.getD k false with
    |true=>rfl
    |false=>
     exfalso;have hks:k<ops.size:=by omega
     have hmem:k∈Region.ready .any ops listed:=by
      rw[mem_ready];refine⟨?_,ops[k],Array.getElem?_eq_getElem hks,?_⟩
      ·rw[Array.getD_eq_getD_getElem?,Array.getElem?_eq_getElem (by omega:k<listed.size)]at hlk⊢;exact hlk
      ·intro e he hb;have hlt:=FZ hf (Array.getElem?_eq_getElem hks) he hb;exact ihk e.on hlt (by omega)
     rw[hr]at hmem;cases hmem
  obtain⟨hlt0,o,ho,F6⟩:=mem_ready.1 hmem;obtain⟨hlt,hg⟩:=nz hlt0
  have hin:i<n:=by
   rcases Nat.lt_or_ge i n with h|h
   ·exact h
   ·exfalso;exact F8 fun k hk=>PU yw ho h hk (L:=fun k=>listed.getD k false) hi.closed F6
  have hs:=hall.get (i:=i) (o:=o) (by rw[List.getElem?_take_of_lt hin];simpa using ho);rw[Nat.zero_add]at hs
  have hLi:listed.getD i false=false:=by
   rw[Array.getD_eq_getD_getElem?,hg];rfl
  have LH:(listed.setIfInBounds i true).getD p false=(listed.getD p false||(i==p)):=by
   by_cases hip:i=p
   ·subst hip;rw[Array.getD_eq_getD_getElem?];simp[hlt]
   ·rw[getD_set_ne false hip];simp[hip]
  have next:∀v w',w.heap.size<=w'.heap.size->G w'->((listed.getD p false||(i==p))=false->Below W.heap.size W w')->(∀j u,i≠j->listed.getD j false=true->Sp Kp ops p R (listed.getD p false) j u w->Sp Kp ops p R (listed.getD p false||(i==p)) j u w')->Sp Kp ops p R (listed.getD p false||(i==p)) i v w'->(Fr i=true->o.dst.isSome=true/\∃g,dZ v=some g/\w.heap.size<=g/\g<w'.heap.size)->wpAny P .any ops Q fuel (listed.setIfInBounds i true) (a.put o.dst v) w':=by
   intro v w' hzz hGG hSS hRR hR hF;rw[<-LH]at hSS hRR hR;refine ih _ _ _ (by simpa using hz) ?_ ?_ ?_
   ·have:(listed.toList.set i true).count false=listed.toList.count false-1:=by
     rw[List.count_set (by simpa using hlt)]
     have:listed[i]=false:=by
      rw[Array.getElem?_eq_getElem hlt]at hg
      simpa using hg
     simp[this]
    simp only[Array.toList_setIfInBounds];omega
   ·intro j hj;rw[getD_set_ne false (by omega)];exact hl j hj
   ·exact hi.next hf hin ho F6 (fun k hk hx=>by
     have hx:(listed.setIfInBounds i true).getD k false=true:=hx
     rwa [getD_set_ne false hk]at hx) (fun k hx=>getD_set_true hx) hzz hGG hSS hRR hR hF
  have:=hs ho hin (wpAny P .any ops Q fuel (listed.setIfInBounds i true)) _ a w hi hLi F6 next;unfold wpOp;rw[ho];simp only
  split
  ·rename_i hw
   rw[if_pos hw]at this;exact .inl this
  ·rename_i hw
   rw[if_neg hw]at this;exact this
def fin (R:Nat->Spec) (x:Nat->Value):Nat->List Oper->Act->Act
 |_,[],a=>a
 |k,o::l,a=>fin R x (k+1) l (a.put o.dst (match R k with|.is v=>v|_=>x k))
def bJ:List Spec->(Nat->Value)->Nat->List Oper->Act->Act
 |s::Rl,x,k,o::l,a=>bJ Rl x (k+1) l (a.put o.dst (match s with|.is v=>v|_=>x k))
 |_,_,_,_,a=>a
theorem LJ {R:Nat->Spec} {x:Nat->Value}:∀(os:List Oper) (Rl:List Spec) (k:Nat) (a:Act),os.length<=Rl.length->(∀i,i<Rl.length->Rl.getD i .any=R (k+i))->fin R x k os a=bJ Rl x k os a
 |[],[],_,_,_,_=>rfl
 |[],_::_,_,_,_,_=>rfl
 |o::os,s::Rl,k,a,hl,h=>by
  have h0:s=R k:=h 0 (by simp);unfold fin bJ;rw[<-h0]
  exact LJ os Rl (k+1) _ (by simpa using hl) fun i hi=>by
   have:=h (i+1) (by simpa using hi);rw[show k+(i+1)=k+1+i by omega]at this;rw[<-this];rfl
 |_::_,[],_,_,hl,_=>by simp at hl
theorem PV {R:Nat->Spec} {x:Nat->Value}:∀(os:List Oper) (vs:List Value) (k:Nat) (a:Act),vs.length=os.length->(∀i v,vs[i]? =some v->x (k+i)=v/\∀X,R (k+i)=.is X->v=X)->iD os vs a=fin R x k os a
 |[],[],_,_,_,_=>rfl
 |o::os,v::vs,k,a,hl,h=>by
  have h0:=h 0 v rfl;rw[Nat.add_zero]at h0
  have hv:(match R k with|.is v=>v|_=>x k)=v:=by
   cases hR:R k with
   |is X=>exact(h0.2 X hR).symm
   |any=>exact h0.1
   |st q hq=>exact h0.1
  unfold iD fin;rw[hv]
  exact PV os vs (k+1) _ (by simpa using hl) fun i u hu=>by
   have:=h (i+1) u (by simpa using hu)
   rwa [show k+(i+1)=k+1+i by omega]at this
 |[],_::_,_,_,hl,_=>by simp at hl
 |_::_,[],_,_,hl,_=>by simp at hl
theorem RX.end_ (hn : n ≤ ops.size) (hf : iQ ops a0.tmps.size = true) {a : Act} {w : World} {L : Nat → Bool} (hL : ∀ k, k < n → L k = true) (hi : RX Kp ops n Fr a0 W G p R L a w) :
  ∃x:Nat->Value,a=fin R x 0 (ops.toList.take n) a0/\(∀(k:Nat) {q:Value->World->Prop} {h:∀v w w',Below w.heap.size w w'->q v w->q v w'},R k=.st q h->((decide (k<n)&&(k==p||decide (n<=p)||waits ops k p))=true\/(k<n/\Kp k=true))->q (x k) w)/\
   ∀j k,j<n->k<n->j≠k->Fr j=true->Fr k=true->dZ (x j)≠dZ (x k):=by
 obtain⟨vals,hl,hv⟩:=LD (ops:=ops) (a:=a) (w:=w) (R:=Sp Kp ops p R (L p)) n fun k hk=>hi.got k hk (hL k hk)
 have hto:∀k:Nat,((ops.toList.take n)[k]?).bind (·.dst)=if k<n then(ops[k]?).bind (·.dst)else none:=by
  intro k
  by_cases hk:k<n
  ·rw[if_pos hk,List.getElem?_take_of_lt hk,Array.getElem?_toList]
  ·rw[if_neg hk,List.getElem?_eq_none (by simp;omega)];rfl
 have:a=iD (ops.toList.take n) vals a0:=by
  obtain⟨tm,df⟩:=a
  have h1:tm=(iD (ops.toList.take n) vals a0).tmps:=by
   apply Array.ext_getElem?
   intro d
   by_cases hd:∃k:Nat,k<n/\(ops[k]?).bind (·.dst)=some d
   ·obtain⟨k,hkn,hk⟩:=hd;have hg:vals[k]? =some vals[k]:=List.getElem?_eq_getElem (by omega);have h2:=(hv k _ hg).1;unfold dP at h2;rw[hk]at h2;simp only at h2;rw[h2]
    symm
    refine Di _ _ _ k (by rw[hto,if_pos hkn];exact hk) hg (fun j hj=>?_) (PQ hf (i:=k) hk);rw[hto]
    split
    ·exact Jr hf (i:=k) (j:=j) hj (d:=d) hk
    ·simp
   ·have hd:∀k:Nat,k<n->(ops[k]?).bind (·.dst)≠some d:=fun k hkn hk=>hd ⟨k,hkn,hk⟩
    rw[oI _ _ _ (fun k=>by
     rw[hto]
     split
     ·rename_i h;exact hd k h
     ·simp)]
    exact hi.old d hd
  have h2:df=(iD (ops.toList.take n) vals a0).defers:=by rw[tY];exact hi.defers
  rw[h1,h2]
 have hx:∀k,k<n->vals[k]? =some (vals.getD k undef):=fun k hk=>by
  rw[List.getD_eq_getElem?_getD,List.getElem?_eq_getElem (by omega)];rfl
 refine⟨fun k=>vals.getD k undef,?_,fun k q h hR hk=>?_,fun j k hj hk hjk hFj O7=>hi.apart j k hj hk hjk (hL j hj) (hL k hk) hFj O7 _ _ (hv j _ (hx j hj)).1 (hv k _ (hx k hk)).1⟩
 ·rw[this,PV (R:=R) (x:=fun k=>vals.getD k undef) (ops.toList.take n) vals 0 a0 (by simp;omega) (fun i v h=>by
   have hs:=(hv i v h).2;rw[Nat.zero_add];refine⟨by rw[List.getD_eq_getElem?_getD,h];rfl,fun X hX=>?_⟩;unfold Sp at hs;rw[hX]at hs
   exact hs)]
 ·simp only[Bool.and_eq_true,Bool.or_eq_true,decide_eq_true_eq,beq_iff_eq]at hk;have hs:=(hv k _ (hx k (hk.elim And.left And.left))).2;unfold Sp at hs;rw[hR]at hs;rcases hs with⟨h1,h2⟩|hs
  ·rcases hk with hk|hk
   ·rcases hk.2 with(rfl|h3)|h3
    ·exact absurd rfl h2.1
    ·rw[hi.pn h3]at h1;cases h1
    ·rw[h3]at h2;cases h2.2.1
   ·rw[hk.2]at h2;cases h2.2.2
  ·exact hs
theorem RX.start (hG:∀w,Below W.heap.size W w->G w):RX Kp ops n Fr a0 W G p R (fun k=>(Array.replicate ops.size false).getD k false) a0 W.drew:=by
 refine⟨hG _ (Below.drew zR),fun _=>Below.drew zR,fun _=>by simp[Array.getD],rfl,rfl,fun _ _=>rfl,?_,?_,?_,?_⟩
 ·intro k _ hk;simp[Array.getD]at hk
 ·intro k o _ hk;simp[Array.getD]at hk
 ·intro k _ hk;simp[Array.getD]at hk
 ·intro j k _ _ _ hk;simp[Array.getD]at hk
theorem LK (ops:Array Oper) (Rl:List Spec) (x:Nat->Value) (a0:Act):fin (fun k=>Rl.getD k .any) x 0 (ops.toList.take Rl.length) a0=bJ Rl x 0 (ops.toList.take Rl.length) a0:=
 LJ _ Rl 0 a0 (by simp;omega) fun i _=>by rw[Nat.zero_add]
theorem qy {id : Nat} {a0 : Act} {W : World} (p : Nat) (G : World → Prop) (Fr : Nat → Bool) (Rl : List Spec) (hm : P.follows .mixedOrders = true) (hf : (iQ ops a0.tmps.size && lI ops Rl.length && decide (Rl.length ≤ ops.size)) = true) (hG : ∀ w, Below W.heap.size W w → G w)
  (hall:vz Kp P Q ops Rl.length Fr a0 W G p (fun k=>Rl.getD k .any) 0 (ops.toList.take Rl.length))
  (hend:∀(x:Nat->Value) (w:World),G w->(∀(k:Nat) {q:Value->World->Prop} {h:∀v w w',Below w.heap.size w w'->q v w->q v w'},Rl.getD k .any=.st q h->((decide (k<Rl.length)&&(k==p||decide (Rl.length<=p)||waits ops k p))=true\/(k<Rl.length/\Kp k=true))->q (x k) w)->
   (∀j k,j<Rl.length->k<Rl.length->j≠k->Fr j=true->Fr k=true->dZ (x j)≠dZ (x k))->wpList P ops Q (ops.toList.drop Rl.length) (bJ Rl x 0 (ops.toList.take Rl.length) a0) w):
  (Code.region id ops true).wp P Q a0 W:=by
 simp only[Bool.and_eq_true,decide_eq_true_eq]at hf;obtain⟨⟨hf,yw⟩,hn⟩:=hf;refine wp_region_any hm ?_;refine LG (W:=W) (G:=G) (p:=p) hn hf (XT yw hn) hall (fun fuel listed a w hfu hz h1 h2 hi=>?_) _ _ _ _ (by simp) (by simp) (by intro j _;simp[Array.getD]) (RX.start hG);obtain⟨x,rfl,h3,h4⟩:=hi.end_ hn hf h1;have hlen:(ops.toList.drop Rl.length).length=ops.size-Rl.length:=by simp
 have:=hend x w hi.g h3 h4;rw[<-LK,<-wpOps_eq_wpList (ops.toList.drop Rl.length) Rl.length (by intro j;simp[List.getElem?_drop]),hlen]at this;exact NF hf yw fuel Rl.length listed _ w zL hn hfu hz h1 h2 hi.closed this
section
variable {k:Nat} {o:Oper}
def NG:Spec->Bool
 |.is _=>true
 |_=>false
def Spec.v:Spec->Value
 |.is v=>v
 |_=>undef
def tZ (ops:Array Oper) (n d:Nat):Option Nat:=(List.range n).find? fun j=>(ops[j]?).bind (·.dst)==some d
def rho (ops:Array Oper) (n:Nat) (R:Nat->Spec) (a0:Act):Operand->Value
 |.tmp d=>match tZ ops n d with
  |some j=>(R j).v
  |none=>a0.eval (.tmp d)
 |x=>a0.eval x
def PW (ops:Array Oper) (n:Nat) (R:Nat->Spec) (k:Nat):Operand->Bool
 |.tmp d=>match tZ ops n d with
  |some j=>waits ops k j&&NG (R j)
  |none=>true
 |_=>true
def vC:Op->Bool
 |.move _|.assign _|.pick _ _ _|.load _ _|.nilCheck _|.binOp _ _ _ _ _|.unOp _ _ _|.convert _ _ _|.fieldAddr _ _ _|.field _ _ _|.indexAddr _ _ _|.index _ _ _|.extract _ _=>true
 |.call c=>match c.callee with
  |.builtin _=>true
  |_=>false
 |.build _ _=>true
 |_=>false
def LM (ops:Array Oper) (n:Nat) (R:Nat->Spec) (k:Nat) (o:Oper):Bool:=
 match o.guard with
 |none=>true
 |some (g,b)=>decide (g<n)&&waits ops k g&&((ops[g]?).bind (·.dst)).isSome&&(match R g with|.is (.bool c)=>c==b|_=>false)
theorem Jt {r r':Operand->Value} {o:Oper} (hs:vC o.op=true) (h:∀x∈o.op.operands,r x=r' x):execOp r o=execOp r' o:=by
 obtain⟨d,op,t,ps,af,gd⟩:=o;cases op<;>first|(exfalso;simp[vC]at hs;done)|skip
 all_goals(simp[Op.operands]at h)
 case call c=>
  obtain⟨ce,ag,ts⟩:=c;cases ce<;>first|(exfalso;simp[vC]at hs;done)|skip
  simp only[Call.operands,Array.empty_append]at h
  have e:ag.map r=ag.map r':=by
   apply Array.map_congr_left
   intro x hx;exact h x (by simpa using hx)
  simp[execOp,resolve,e]
 case build t ps=>
  have e:ps.map (fun x=>(x.1,r x.2))=ps.map (fun x=>(x.1,r' x.2)):=by
   apply Array.map_congr_left
   intro x hx;rw[h x.2 x.1 (by simpa using hx)]
  simp only[execOp];rw[show(fun(x:Nat×Operand)=>match x with|(i,x)=>(i,r x))=fun x=>(x.1,r x.2)from rfl,show(fun(x:Nat×Operand)=>match x with|(i,x)=>(i,r' x))=fun x=>(x.1,r' x.2)from rfl,e]
 all_goals(simp[execOp,h])
theorem find_range {n:Nat} {f:Nat->Bool} {j:Nat} (h:(List.range n).find? f=some j):j<n/\f j=true:=
 ⟨List.mem_range.1 (List.mem_of_find?_eq_some h),List.find?_some h⟩
theorem LQ {d:Nat} (h:tZ ops n d=none):∀k:Nat,k<n->(ops[k]?).bind (·.dst)≠some d:=fun k hk e=>by
 have:=List.find?_eq_none.1 h k (List.mem_range.2 hk);simp[e]at this
theorem RX.rho {L:Nat->Bool} {a:Act} {w:World} (hi:RX Kp ops n Fr a0 W G p R L a w) (ho:ops[k]? =some o) (hA:∀e∈o.after,Region.binds .any e=true->L e.on=true) {x:Operand} (hx:PW ops n R k x=true):a.eval x=rho ops n R a0 x:=by
 cases x with
 |tmp d=>
  have hx:(match tZ ops n d with|some j=>waits ops k j&&NG (R j)|none=>true)=true:=hx
  show a.eval (.tmp d)=match tZ ops n d with|some j=>(R j).v|none=>a0.eval (.tmp d)
  cases hs:tZ ops n d with
  |none=>
   rw[hs]at hx;simp only[Act.eval,Array.getD_eq_getD_getElem?];rw[hi.old d (LQ hs)]
  |some j=>
   rw[hs]at hx;simp only[Bool.and_eq_true]at hx⊢;obtain⟨hj,hd⟩:=find_range hs;obtain⟨v,h1,h2⟩:=hi.got j hj (jF ho hx.1 hi.closed hA);have hd:(ops[j]?).bind (·.dst)=some d:=by simpa using hd
   unfold dP at h1;rw[hd]at h1;have h1:a.tmps[d]? =some v:=h1;unfold Sp at h2;cases hR:R j with
   |is X=>
    rw[hR]at h2;have h2:v=X:=h2;simp[Act.eval,Array.getD_eq_getD_getElem?,h1,h2,Spec.v]
   |any=>rw[hR]at hx;exact absurd hx.2 (by simp[NG])
   |st q hq=>rw[hR]at hx;exact absurd hx.2 (by simp[NG])
 |const v=>rfl
 |_=>rfl
theorem RX.wanted {L:Nat->Bool} {a:Act} {w:World} (hi:RX Kp ops n Fr a0 W G p R L a w) (ho:ops[k]? =some o) (hA:∀e∈o.after,Region.binds .any e=true->L e.on=true) (hg:LM ops n R k o=true):Region.wanted o (yielded ops a.tmps)=true:=by
 unfold LM at hg;unfold Region.wanted;cases h:o.guard with
 |none=>rfl
 |some x=>
  obtain⟨g,b⟩:=x;rw[h]at hg;simp only[Bool.and_eq_true,decide_eq_true_eq]at hg;obtain⟨⟨⟨h1,h2⟩,h3⟩,h4⟩:=hg;obtain⟨v,h5,h6⟩:=hi.got g h1 (jF ho h2 hi.closed hA);cases hR:R g with
  |is X=>
   rw[hR]at h4;cases X with
   |bool c=>
    have hc:c=b:=by simpa using h4
    subst hc;unfold Sp at h6;rw[hR]at h6;have hy:yielded ops a.tmps g=some c:=Dj (w:=w) hR h3 ⟨v,h5,by unfold Spec.holds;rw[hR];exact h6⟩;simp[hy]
   |_=>cases h4
  |any=>rw[hR]at h4;cases h4
  |st q hq=>rw[hR]at h4;cases h4
def fine (ops:Array Oper) (n:Nat) (Fr:Nat->Bool) (p:Nat) (R:Nat->Spec) (k:Nat):Bool:=
 match ops[k]? with
 |none=>true
 |some o=>vC o.op&&o.op.operands.all (PW ops n R k)&&LM ops n R k o&&NG (R k)&& !Fr k&&(k !=p)
theorem RX.goes {L : Nat → Bool} {a : Act} {w : World} (hi : RX Kp ops n Fr a0 W G p R L a w) (hG : ∀ w w', G w → Below w.heap.size w w' → G w') (hkp : (k == p) = false) (hF : Fr k = false) {K : Act → World → Prop} {d : Option Tmp}
  (hK:∀v w',w.heap.size<=w'.heap.size->G w'->((L p||(k==p))=false->Below W.heap.size W w')->(∀j u,k≠j->L j=true->Sp Kp ops p R (L p) j u w->Sp Kp ops p R (L p||(k==p)) j u w')->Sp Kp ops p R (L p||(k==p)) k v w'->(Fr k=true->d.isSome=true/\∃g,dZ v=some g/\w.heap.size<=g/\g<w'.heap.size)->K (a.put d v) w')
  {v:Value} {w':World} (hb:Below w.heap.size w w') (hv:Sp Kp ops p R (L p) k v w'):K (a.put d v) w':=by
 rw[hkp,Bool.or_false]at hK;exact hK v w' hb.size (hG w w' hi.g hb) (fun e=>(hi.s e).trans (hb.mono (hi.s e).size)) (fun j u _ _ h=>h.keep hb) hv (fun h=>by rw[hF]at h;cases h)
theorem ah.y (hG : ∀ w w', G w → Below w.heap.size w w' → G w') {sp : List Nat} (c : ((List.range n).all fun k => sp.contains k || fine ops n Fr p R k) = true) (hsp : sp.contains k = false)
  (ho:ops[k]? =some o) (hk:k<n) (K:Act->World->Prop) (L:Nat->Bool) (a:Act) (w:World) (hi:RX Kp ops n Fr a0 W G p R L a w) (hLk:L k=false) (hA:∀e∈o.after,Region.binds .any e=true->L e.on=true) (h:(execOp (rho ops n R a0) o).run P w=.ok (.value (R k).v) w)
  (hK:∀v w',w.heap.size<=w'.heap.size->G w'->((L p||(k==p))=false->Below W.heap.size W w')->(∀j u,k≠j->L j=true->Sp Kp ops p R (L p) j u w->Sp Kp ops p R (L p||(k==p)) j u w')->Sp Kp ops p R (L p||(k==p)) k v w'->(Fr k=true->o.dst.isSome=true/\∃g,dZ v=some g/\w.heap.size<=g/\g<w'.heap.size)->K (a.put o.dst v) w'):
  if Region.wanted o (yielded ops a.tmps)=true then o.wp P a w K Q else K (a.put o.dst undef) w:=by
 have hc:=List.all_eq_true.1 c k (List.mem_range.2 hk);rw[hsp,Bool.false_or]at hc;unfold fine at hc;rw[ho]at hc;simp only[Bool.and_eq_true,Bool.not_eq_true',bne_iff_ne,ne_eq]at hc;obtain⟨⟨⟨⟨⟨h1,h2⟩,h3⟩,h4⟩,h5⟩,h6⟩:=hc;rw[if_pos (hi.wanted ho hA h3)];unfold Oper.wp;rw[Jt h1 (r':=rho ops n R a0) (fun x hx=>hi.rho ho hA (by rw[Array.all_eq_true']at h2;exact h2 x hx)),h,Oper.upon_value];refine hi.goes hG (beq_eq_false_iff_ne.2 h6) h5 hK zR ?_;unfold Sp;cases hR:R k with
 |is X=>rfl
 |any=>trivial
 |st q hq=>rw[hR]at h4;cases h4
theorem ah.x (hG : ∀ w w', G w → Below w.heap.size w w' → G w') {sp : List Nat} (c : ((List.range n).all fun k => sp.contains k || fine ops n Fr p R k) = true) (hsp : sp.contains k = false)
  (h:∀w,G w->(execOp (rho ops n R a0) o).run P w=.ok (.value (R k).v) w):ah Kp P Q ops n Fr a0 W G p R k o:=
 fun ho hk K L a w hi hLk hA hK=>ah.y hG c hsp ho hk K L a w hi hLk hA (h w hi.g) hK
def before (ops:Array Oper) (n p k:Nat):Bool:=decide (n<=p)||(waits ops p k&&(ops[p]?).isSome)
theorem RX.before {L:Nat->Bool} {a:Act} {w:World} (hi:RX Kp ops n Fr a0 W G p R L a w) (hb:before ops n p k=true) (hLk:L k=false):L p=false:=by
 unfold Go.Proofs.Ytbjnhllkdilpfaa.before at hb;simp only[Bool.or_eq_true,decide_eq_true_eq,Bool.and_eq_true,Option.isSome_iff_exists]at hb;rcases hb with h|⟨h,op,hop⟩
 ·exact hi.pn h
 ·cases hx:L p with
  |false=>rfl
  |true=>
   have:=jF hop h hi.closed (fun e he hb=>hi.closed p op hop hx e he hb);rw[hLk]at this;cases this
theorem ah.b (hG : ∀ w w', G w → Below w.heap.size w w' → G w') {sp : List Nat} (c : ((List.range n).all fun k => sp.contains k || fine ops n Fr p R k) = true) (hsp : (!sp.contains k && before ops n p k) = true)
  (h:∀w,Below W.heap.size W w->(execOp (rho ops n R a0) o).run P w=.ok (.value (R k).v) w):ah Kp P Q ops n Fr a0 W G p R k o:=by
 intro ho hk K L a w hi hLk hA hK;simp only[Bool.and_eq_true,Bool.not_eq_true']at hsp;exact ah.y hG c hsp.1 ho hk K L a w hi hLk hA (h w (hi.s (hi.before hsp.2 hLk))) hK
def Facts (ops:Array Oper) (R:Nat->Value->World->Prop) (a:Act) (w:World):List Nat->Prop
 |[]=>True
 |j::l=>(∃v,dP ops a j v/\R j v w)/\Facts ops R a w l
def jU (ops:Array Oper) (a0 a:Act):List Nat->Prop
 |[]=>True
 |d::l=>a.tmps[d]? =a0.tmps[d]? /\jU ops a0 a l
theorem RX.qA {L:Nat->Bool} {a:Act} {w:World} (hi:RX Kp ops n Fr a0 W G p R L a w):∀{l:List Nat},(l.all fun d=>(tZ ops n d).isNone)=true->jU ops a0 a l
 |[],_=>trivial
 |d::l,hl=>by
  simp only[List.all_cons,Bool.and_eq_true,Option.isNone_iff_eq_none]at hl;exact⟨hi.old d (LQ hl.1),hi.qA hl.2⟩
theorem RX.facts {L:Nat->Bool} {a:Act} {w:World} (hi:RX Kp ops n Fr a0 W G p R L a w) (ho:ops[k]? =some o) (hA:∀e∈o.after,Region.binds .any e=true->L e.on=true):∀{l:List Nat},(l.all fun j=>decide (j<n)&&waits ops k j)=true->Facts ops (Sp Kp ops p R (L p)) a w l
 |[],_=>trivial
 |j::l,hl=>by
  simp only[List.all_cons,Bool.and_eq_true,decide_eq_true_eq]at hl;exact⟨hi.got j hl.1.1 (jF ho hl.1.2 hi.closed hA),hi.facts ho hA hl.2⟩
theorem Facts.none {a:Act} {w:World}:∀{l:List Nat},Facts ops (Sp Kp ops p R false) a w l->Facts ops (fun k v w=>(R k).holds v w) a w l
 |[],_=>trivial
 |_::_,⟨⟨v,h1,h2⟩,h⟩=>⟨⟨v,h1,Sp.none.1 h2⟩,h.none⟩
def lU (ops:Array Oper) (n:Nat) (R:Nat->Spec) (k:Nat) (o:Oper) (l ds:List Nat):Bool:=
 LM ops n R k o&&(l.all fun j=>decide (j<n)&&waits ops k j)&&(ds.all fun d=>(tZ ops n d).isNone)
theorem ah.z (hG : ∀ w w', G w → Below w.heap.size w w' → G w') (l ds : List Nat) (c : (lU ops n R k o l ds && before ops n p k && !Fr k && (k != p)) = true)
  (h:∀(K:Act->World->Prop) (a:Act) (w:World),Below W.heap.size W w->jU ops a0 a ds->Facts ops (fun k v w=>(R k).holds v w) a w l->(∀v w',Below w.heap.size w w'->(R k).holds v w'->K (a.put o.dst v) w')->o.wp P a w K Q):ah Kp P Q ops n Fr a0 W G p R k o:=by
 intro ho hk K L a w hi hLk hA hK;unfold lU at c;simp only[Bool.and_eq_true,Bool.not_eq_true',bne_iff_ne,ne_eq]at c;obtain⟨⟨⟨⟨⟨c1,c2⟩,c3⟩,c4⟩,c5⟩,c6⟩:=c;rw[if_pos (hi.wanted ho hA c1)];have LH:=hi.before c4 hLk;have hf:=hi.facts ho hA c2;have hgo:=fun v w'=>hi.goes hG (beq_eq_false_iff_ne.2 c6) c5 hK (v:=v) (w':=w')
 rw[LH]at hf hgo;exact h K a w (hi.s LH) (hi.qA c3) hf.none fun v w' hb hv=>hgo v w' hb (Sp.none.2 hv)
theorem ah.t (hG : ∀ w w', G w → Below w.heap.size w w' → G w') {X : Value} (l ds : List Nat) (g : Nat) (b : Bool) {cc : Bool} (hg : o.guard = some (g, b)) (hR : R g = .is (.bool cc)) (hRk : R k = .is (bif (true && (cc == b)) then X else undef))
  (c:(decide (g<n)&&waits ops k g&&((ops[g]?).bind (·.dst)).isSome&&(l.all fun j=>decide (j<n)&&waits ops k j)&&(ds.all fun d=>(tZ ops n d).isNone)&&before ops n p k&& !Fr k&&(k !=p))=true)
  (h:cc=b->(true&&(cc==b))=true->∀(K:Act->World->Prop) (a:Act) (w:World),Below W.heap.size W w->jU ops a0 a ds->Facts ops (fun k v w=>(R k).holds v w) a w l->(∀v w',Below w.heap.size w w'->v=X->K (a.put o.dst v) w')->o.wp P a w K Q):ah Kp P Q ops n Fr a0 W G p R k o:=by
 intro ho hk K L a w hi hLk hA hK;simp only[Bool.and_eq_true,Bool.not_eq_true',bne_iff_ne,ne_eq,decide_eq_true_eq]at c;obtain⟨⟨⟨⟨⟨⟨⟨c1,c2⟩,c3⟩,c4⟩,c5⟩,c6⟩,c7⟩,c8⟩:=c;have LH:=hi.before c6 hLk;obtain⟨v,h5,h6⟩:=hi.got g c1 (jF ho c2 hi.closed hA);unfold Sp at h6;rw[hR]at h6;have hy:yielded ops a.tmps g=some cc:=Dj (w:=w) hR c3 ⟨v,h5,by unfold Spec.holds;rw[hR];exact h6⟩;have hgo:=fun v w'=>hi.goes hG (beq_eq_false_iff_ne.2 c8) c7 hK (v:=v) (w':=w')
 have hs:∀v w',v=(bif (true&&(cc==b))then X else undef)->Sp Kp ops p R (L p) k v w':=fun v w' hv=>by
  unfold Sp;rw[hRk];exact hv
 by_cases hc:cc=b
 ·subst hc;rw[if_pos (by unfold Region.wanted;rw[hg];simp[hy])];have hf:=hi.facts ho hA (by rw[List.all_eq_true]at c4⊢;exact c4);rw[LH]at hf;exact h rfl (by simp) K a w (hi.s LH) (hi.qA c5) hf.none fun v w' hb hv=>hgo v w' hb (hs v w' (by simp[hv]))
 ·rw[if_neg (by unfold Region.wanted;rw[hg];simp[hy,hc])];exact hgo undef w zR (hs undef w (by rw[beq_eq_false_iff_ne.2 hc];rfl))
theorem ah.f (hG : ∀ w w', G w → Below w.heap.size w w' → G w') (l ds : List Nat) (c : (lU ops n R k o l ds && before ops n p k && o.dst.isSome && (k != p)) = true)
  (h:∀(K:Act->World->Prop) (a:Act) (w:World),Below W.heap.size W w->jU ops a0 a ds->Facts ops (fun k v w=>(R k).holds v w) a w l->(∀v w',Below w.heap.size w w'->(R k).holds v w'->(∃g,dZ v=some g/\w.heap.size<=g/\g<w'.heap.size)->K (a.put o.dst v) w')->o.wp P a w K Q):ah Kp P Q ops n Fr a0 W G p R k o:=by
 intro ho hk K L a w hi hLk hA hK;unfold lU at c;simp only[Bool.and_eq_true,bne_iff_ne,ne_eq]at c;obtain⟨⟨⟨⟨⟨c1,c2⟩,c3⟩,c4⟩,c5⟩,c6⟩:=c;rw[if_pos (hi.wanted ho hA c1)];have LH:=hi.before c4 hLk;have hf:=hi.facts ho hA c2;rw[beq_eq_false_iff_ne.2 c6,Bool.or_false]at hK;rw[LH]at hf hK;exact h K a w (hi.s LH) (hi.qA c3) hf.none fun v w' hb hv hg=>hK v w' hb.size (hG w w' hi.g hb) (fun _=>(hi.s LH).trans (hb.mono (hi.s LH).size)) (fun j u _ _ h=>h.keep hb) (Sp.none.2 hv) fun _=>⟨c5,hg⟩
theorem ah.gk (l ds : List Nat) (c : (lU ops n R p o l ds && !Fr p) = true)
  (h:∀(K:Act->World->Prop) (a:Act) (w:World),Below W.heap.size W w->jU ops a0 a ds->Facts ops (fun k v w=>(R k).holds v w) a w l->(∀v w',G w'->w.heap.size<=w'.heap.size->(∀j,Kp j=true->∀u,(R j).holds u w->(R j).holds u w')->(R p).holds v w'->K (a.put o.dst v) w')->o.wp P a w K Q):ah Kp P Q ops n Fr a0 W G p R p o:=by
 intro ho hk K L a w hi hLk hA hK;unfold lU at c;simp only[Bool.and_eq_true,Bool.not_eq_true']at c;obtain⟨⟨⟨c1,c2⟩,c3⟩,c4⟩:=c;rw[if_pos (hi.wanted ho hA c1)];have hf:=hi.facts ho hA c2;rw[hLk]at hf;rw[beq_self_eq_true,Bool.or_true]at hK
 exact h K a w (hi.s hLk) (hi.qA c3) hf.none fun v w' hg hz hkp hv=>hK v w' hz hg (fun e=>by cases e) (fun j u hj hL h=>by
  rw[hLk]at h;refine h.grow hj (Bool.eq_false_iff.2 fun hw=>?_) (fun hx=>hkp j hx u);cases hoj:ops[j]? with
  |none=>exact absurd hw (by rw[Js hoj];decide)
  |some oj=>have:=jF hoj hw hi.closed (hi.closed j oj hoj hL);rw[hLk]at this;cases this) (Sp.self.2 hv) (fun e=>by rw[c4]at e;cases e)
theorem ah.g (l ds : List Nat) (c : (lU ops n R p o l ds && !Fr p) = true)
  (h:∀(K:Act->World->Prop) (a:Act) (w:World),Below W.heap.size W w->jU ops a0 a ds->Facts ops (fun k v w=>(R k).holds v w) a w l->(∀v w',G w'->w.heap.size<=w'.heap.size->(R p).holds v w'->K (a.put o.dst v) w')->o.wp P a w K Q):ah (fun _=>false) P Q ops n Fr a0 W G p R p o:=
 ah.gk l ds c fun K a w h1 h2 h3 h4=>h K a w h1 h2 h3 fun v w' h5 h6 h7=>h4 v w' h5 h6 (fun _ e=>by cases e) h7
theorem ah.kept (hG : ∀ w w', G w → Below w.heap.size w w' → G w') (l ds : List Nat) (c : (lU ops n R k o l ds && !Fr k && (k != p)) = true)
  (h:∀(K:Act->World->Prop) (a:Act) (w:World),G w->jU ops a0 a ds->(∃b,Facts ops (Sp Kp ops p R b) a w l)->(∀v w',Below w.heap.size w w'->(R k).holds v w'->K (a.put o.dst v) w')->o.wp P a w K Q):ah Kp P Q ops n Fr a0 W G p R k o:=by
 intro ho hk K L a w hi hLk hA hK;unfold lU at c;simp only[Bool.and_eq_true,Bool.not_eq_true',bne_iff_ne,ne_eq]at c;obtain⟨⟨⟨⟨c1,c2⟩,c3⟩,c5⟩,c6⟩:=c;rw[if_pos (hi.wanted ho hA c1)];refine h K a w hi.g (hi.qA c3) ⟨_,hi.facts ho hA c2⟩ fun v w' hb hv=>hi.goes hG (beq_eq_false_iff_ne.2 c6) c5 hK hb ?_
 unfold Sp;cases hR:R k with
 |is X=>rw[hR]at hv;exact hv
 |any=>trivial
 |st q hq=>rw[hR]at hv;exact .inr hv
theorem ah.a (hG : ∀ w w', G w → Below w.heap.size w w' → G w') (l ds : List Nat) (c : (lU ops n R k o l ds && NG (R k) && !Fr k && (k != p)) = true)
  (h:∀(K:Act->World->Prop) (a:Act) (w:World),G w->jU ops a0 a ds->(∃b,Facts ops (Sp Kp ops p R b) a w l)->(∀w',Below w.heap.size w w'->K (a.put o.dst (R k).v) w')->o.wp P a w K Q):ah Kp P Q ops n Fr a0 W G p R k o:=by
 intro ho hk K L a w hi hLk hA hK;unfold lU at c;simp only[Bool.and_eq_true,Bool.not_eq_true',bne_iff_ne,ne_eq]at c;obtain⟨⟨⟨⟨⟨c1,c2⟩,c3⟩,c4⟩,c5⟩,c6⟩:=c;rw[if_pos (hi.wanted ho hA c1)];refine h K a w hi.g (hi.qA c3) ⟨_,hi.facts ho hA c2⟩ fun w' hb=>hi.goes hG (beq_eq_false_iff_ne.2 c6) c5 hK hb ?_
 unfold Sp;cases hR:R k with
 |is X=>rfl
 |any=>trivial
 |st q hq=>rw[hR]at c4;cases c4
theorem ah.q (hG : ∀ w w', G w → Below w.heap.size w w' → G w') (l ds : List Nat) (c : (lU ops n R k o l ds && waits ops k p && decide (p < n) && !Fr k && (k != p)) = true)
  (h:∀(K:Act->World->Prop) (a:Act) (w:World),G w->jU ops a0 a ds->Facts ops (Sp Kp ops p R true) a w l->(∀v w',Below w.heap.size w w'->(R k).holds v w'->K (a.put o.dst v) w')->o.wp P a w K Q):ah Kp P Q ops n Fr a0 W G p R k o:=by
 intro ho hk K L a w hi hLk hA hK;unfold lU at c;simp only[Bool.and_eq_true,Bool.not_eq_true',bne_iff_ne,ne_eq,decide_eq_true_eq]at c;obtain⟨⟨⟨⟨⟨⟨c1,c2⟩,c3⟩,c4⟩,c7⟩,c5⟩,c6⟩:=c;rw[if_pos (hi.wanted ho hA c1)];have LH:=jF ho c4 hi.closed hA;have hf:=hi.facts ho hA c2;rw[LH]at hf;exact h K a w hi.g (hi.qA c3) hf fun v w' hb hv=>hi.goes hG (beq_eq_false_iff_ne.2 c6) c5 hK hb ((Sp.post c4).2 hv)
theorem vz.c {l:List Oper} (h:ah Kp P Q ops n Fr a0 W G p R k o) (hl:vz Kp P Q ops n Fr a0 W G p R (k+1) l):vz Kp P Q ops n Fr a0 W G p R k (o::l):=⟨h,hl⟩
theorem vz.nil:vz Kp P Q ops n Fr a0 W G p R k []:=trivial
theorem ay {a:Act} {w:World} {j d:Nat} {S:Spec} {X:Value} (h:∃v,dP ops a j v/\S.holds v w) (hS:S=.is X) (hd:(ops[j]?).bind (·.dst)=some d):a.tmps[d]? =some X:=by
 obtain⟨v,h1,h2⟩:=h;subst hS;have h2:v=X:=h2;subst h2;unfold dP at h1;rw[hd]at h1;exact h1
theorem fif {a:Act} {w:World} {j d:Nat} {S:Spec} {X:Value} {q:Bool} (h:∃v,dP ops a j v/\S.holds v w) (hS:S=.is (bif q then X else undef)) (hp:q=true) (hd:(ops[j]?).bind (·.dst)=some d):a.tmps[d]? =some X:=by
 subst hp;exact ay h hS hd
theorem Ee {a:Act} {w:World} {b:Bool} {j d:Nat} {X:Value} (h:∃v,dP ops a j v/\Sp Kp ops p R b j v w) (hS:R j=.is X) (hd:(ops[j]?).bind (·.dst)=some d):a.tmps[d]? =some X:=by
 obtain⟨v,h1,h2⟩:=h;unfold Sp at h2;rw[hS]at h2;have h2:v=X:=h2;subst h2;unfold dP at h1;rw[hd]at h1;exact h1
end
section
variable {a0:Act} {W:World} {Rl:List Spec} {k:Nat} {o:Oper}
abbrev AllB (P:Program) (Q:Exit->Act->World->Prop) (ops:Array Oper) (Fr:Nat->Bool) (a0:Act) (W:World) (Rl:List Spec) (k:Nat) (l:List Oper):Prop:=vz (fun _=>false) P Q ops Rl.length Fr a0 W (fun w=>Below W.heap.size W w) ops.size (fun k=>Rl.getD k .any) k l
abbrev StepB (P:Program) (Q:Exit->Act->World->Prop) (ops:Array Oper) (Fr:Nat->Bool) (a0:Act) (W:World) (Rl:List Spec) (k:Nat) (o:Oper):Prop:=ah (fun _=>false) P Q ops Rl.length Fr a0 W (fun w=>Below W.heap.size W w) ops.size (fun k=>Rl.getD k .any) k o
abbrev F9 (ops:Array Oper) (Fr:Nat->Bool) (Rl:List Spec) (sp:List Nat):Bool:=(List.range Rl.length).all fun k=>sp.contains k||fine ops Rl.length Fr ops.size (fun k=>Rl.getD k .any) k
theorem bG (w w':World) (h:Below W.heap.size W w) (hb:Below w.heap.size w w'):Below W.heap.size W w':=h.trans (hb.mono h.size)
theorem px {Fr:Nat->Bool} {sp:List Nat} (c:F9 ops Fr Rl sp=true) (hsp:sp.contains k=false) (h:∀w,Below W.heap.size W w->(execOp (rho ops Rl.length (fun k=>Rl.getD k .any) a0) o).run P w=.ok (.value (Rl.getD k .any).v) w):StepB P Q ops Fr a0 W Rl k o:=ah.x bG c hsp h
theorem pz {Fr : Nat → Bool} (l ds : List Nat) (c : (lU ops Rl.length (fun k => Rl.getD k .any) k o l ds && before ops Rl.length ops.size k && !Fr k && (k != ops.size)) = true)
  (h:∀(K:Act->World->Prop) (a:Act) (w:World),Below W.heap.size W w->jU ops a0 a ds->Facts ops (fun k v w=>(Rl.getD k .any).holds v w) a w l->(∀v w',Below w.heap.size w w'->(Rl.getD k .any).holds v w'->K (a.put o.dst v) w')->o.wp P a w K Q):StepB P Q ops Fr a0 W Rl k o:=ah.z bG l ds c h
theorem pf {Fr : Nat → Bool} (l ds : List Nat) (c : (lU ops Rl.length (fun k => Rl.getD k .any) k o l ds && before ops Rl.length ops.size k && o.dst.isSome && (k != ops.size)) = true)
  (h:∀(K:Act->World->Prop) (a:Act) (w:World),Below W.heap.size W w->jU ops a0 a ds->Facts ops (fun k v w=>(Rl.getD k .any).holds v w) a w l->(∀v w',Below w.heap.size w w'->(Rl.getD k .any).holds v w'->(∃g,dZ v=some g/\w.heap.size<=g/\g<w'.heap.size)->K (a.put o.dst v) w')->o.wp P a w K Q):StepB P Q ops Fr a0 W Rl k o:=ah.f bG l ds c h
theorem po {Fr : Nat → Bool} {X : Value} (l ds : List Nat) (g : Nat) (b : Bool) {cc : Bool} (hg : o.guard = some (g, b)) (hR : Rl.getD g .any = .is (.bool cc)) (hRk : Rl.getD k .any = .is (bif (true && (cc == b)) then X else undef))
  (c:(decide (g<Rl.length)&&waits ops k g&&((ops[g]?).bind (·.dst)).isSome&&(l.all fun j=>decide (j<Rl.length)&&waits ops k j)&&(ds.all fun d=>(tZ ops Rl.length d).isNone)&&before ops Rl.length ops.size k&& !Fr k&&(k !=ops.size))=true)
  (h:cc=b->(true&&(cc==b))=true->∀(K:Act->World->Prop) (a:Act) (w:World),Below W.heap.size W w->jU ops a0 a ds->Facts ops (fun k v w=>(Rl.getD k .any).holds v w) a w l->(∀v w',Below w.heap.size w w'->v=X->K (a.put o.dst v) w')->o.wp P a w K Q):StepB P Q ops Fr a0 W Rl k o:=ah.t bG l ds g b hg hR hRk c h
theorem wx {id : Nat} (Fr : Nat → Bool) (Rl : List Spec) (sp : List Nat) (hm : P.follows .mixedOrders = true) (hf : (iQ ops a0.tmps.size && lI ops Rl.length && decide (Rl.length ≤ ops.size)) = true) (hc : F9 ops Fr Rl sp = true)
  (hall:F9 ops Fr Rl sp=true->AllB P Q ops Fr a0 W Rl 0 (ops.toList.take Rl.length))
  (hend:∀(x:Nat->Value) (w:World),Below W.heap.size W w->(∀(k:Nat) {q:Value->World->Prop} {h:∀v w w',Below w.heap.size w w'->q v w->q v w'},Rl.getD k .any=.st q h->(decide (k<Rl.length)&&(k==ops.size||decide (Rl.length<=ops.size)||waits ops k ops.size))=true->q (x k) w)->
   (∀j k,j<Rl.length->k<Rl.length->j≠k->Fr j=true->Fr k=true->dZ (x j)≠dZ (x k))->wpList P ops Q (ops.toList.drop Rl.length) (bJ Rl x 0 (ops.toList.take Rl.length) a0) w):
  (Code.region id ops true).wp P Q a0 W:=qy ops.size _ Fr Rl hm hf (fun _ h=>h) (hall hc) fun x w h1 h2=>hend x w h1 fun k _ _ e c=>h2 k e (.inl c)
end
theorem bc {w w':World} {b o:Nat} {v:Value} (hb:Below w.heap.size w w') (h:w.cell? ⟨b,o,none⟩=some v):w'.cell? ⟨b,o,none⟩=some v:=zE hb h
theorem bW {r:Operand->Value} {d:Option Tmp} {t:TypeId} {x:Operand} {ty:TypeId} {ps:String} {af:Array Edge} {gd:Option (Nat×Bool)} {w:World} {v:Value} (h:(Instr.loadAt t (r x)).run P w=.ok v w):(execOp r {dst:=d,op:=.load t x,type:=ty,pos:=ps,after:=af,guard:=gd}).run P w=.ok (.value v) w:=by
 simp[execOp,h]
theorem zn {a:Act} {w:World} (h:Q .normal a w):wpList P ops Q [] a w:=h
theorem below_grown {w w':World} (h:Below w.heap.size w w') (row:Option Nat):w.grownBy w' row:=⟨h.os,h.tape,h.output,h.size,fun k hk _=>h.block k hk⟩
theorem rG {W:World} (row:Option Nat) (w w':World) (h:W.grownBy w row) (hb:Below w.heap.size w w'):W.grownBy w' row:=World.grownBy.trans h (below_grown hb row)
theorem wg {id : Nat} {a0 : Act} {W : World} (p : Nat) (G : World → Prop) (Rl : List Spec) (sp : List Nat) (hG : ∀ w, Below W.heap.size W w → G w) (hm : P.follows .mixedOrders = true) (hf : (iQ ops a0.tmps.size && lI ops Rl.length && decide (Rl.length ≤ ops.size)) = true)
  (hc:((List.range Rl.length).all fun k=>sp.contains k||fine ops Rl.length (fun _=>false) p (fun k=>Rl.getD k .any) k)=true)
  (hall:((List.range Rl.length).all fun k=>sp.contains k||fine ops Rl.length (fun _=>false) p (fun k=>Rl.getD k .any) k)=true->vz (fun _=>false) P Q ops Rl.length (fun _=>false) a0 W G p (fun k=>Rl.getD k .any) 0 (ops.toList.take Rl.length))
  (hend:∀(x:Nat->Value) (w:World),G w->(∀(k:Nat) {q:Value->World->Prop} {h:∀v w w',Below w.heap.size w w'->q v w->q v w'},Rl.getD k .any=.st q h->(decide (k<Rl.length)&&(k==p||decide (Rl.length<=p)||waits ops k p))=true->q (x k) w)->wpList P ops Q (ops.toList.drop Rl.length) (bJ Rl x 0 (ops.toList.take Rl.length) a0) w):
  (Code.region id ops true).wp P Q a0 W:=qy p G _ Rl hm hf hG (hall hc) fun x w h1 h2 _=>hend x w h1 fun k _ _ e c=>h2 k e (.inl c)
abbrev LU (ops:Array Oper) (p:Nat) (Rl:List Spec) (sp:List Nat):Bool:=(List.range Rl.length).all fun k=>sp.contains k||fine ops Rl.length (fun _=>false) p (fun k=>Rl.getD k .any) k
theorem wr {id : Nat} {a0 : Act} {W : World} (p : Nat) (row : Option Nat) (Rl : List Spec) (sp : List Nat) (hm : P.follows .mixedOrders = true) (hf : (iQ ops a0.tmps.size && lI ops Rl.length && decide (Rl.length ≤ ops.size)) = true) (hc : LU ops p Rl sp = true)
  (hall:LU ops p Rl sp=true->vz (fun _=>false) P Q ops Rl.length (fun _=>false) a0 W (fun w=>W.grownBy w row) p (fun k=>Rl.getD k .any) 0 (ops.toList.take Rl.length))
  (hend:∀(x:Nat->Value) (w:World),W.grownBy w row->(∀(k:Nat) {q:Value->World->Prop} {h:∀v w w',Below w.heap.size w w'->q v w->q v w'},Rl.getD k .any=.st q h->(decide (k<Rl.length)&&(k==p||decide (Rl.length<=p)||waits ops k p))=true->q (x k) w)->wpList P ops Q (ops.toList.drop Rl.length) (bJ Rl x 0 (ops.toList.take Rl.length) a0) w):
  (Code.region id ops true).wp P Q a0 W:=wg p _ Rl sp (fun w h=>below_grown h row) hm hf hc hall hend
theorem wk {id : Nat} {a0 : Act} {W : World} (Kp : Nat → Bool) (p : Nat) (row : Option Nat) (Rl : List Spec) (sp : List Nat) (hm : P.follows .mixedOrders = true) (hf : (iQ ops a0.tmps.size && lI ops Rl.length && decide (Rl.length ≤ ops.size)) = true) (hc : LU ops p Rl sp = true)
  (hall:LU ops p Rl sp=true->vz Kp P Q ops Rl.length (fun _=>false) a0 W (fun w=>W.grownBy w row) p (fun k=>Rl.getD k .any) 0 (ops.toList.take Rl.length))
  (hend:∀(x:Nat->Value) (w:World),W.grownBy w row->(∀(k:Nat) {q:Value->World->Prop} {h:∀v w w',Below w.heap.size w w'->q v w->q v w'},Rl.getD k .any=.st q h->(decide (k<Rl.length)&&(k==p||decide (Rl.length<=p)||waits ops k p||Kp k))=true->q (x k) w)->wpList P ops Q (ops.toList.drop Rl.length) (bJ Rl x 0 (ops.toList.take Rl.length) a0) w):
  (Code.region id ops true).wp P Q a0 W:=qy p _ _ Rl hm hf (fun w h=>below_grown h row) (hall hc) fun x w h1 h2 _=>hend x w h1 fun k _ _ e c=>h2 k e (by
 simp only[Bool.and_eq_true,Bool.or_eq_true,decide_eq_true_eq]at c⊢
 exact c.2.imp (fun h=>⟨c.1,h⟩) fun h=>⟨c.1,h⟩)
end
end
end Go.Proofs.Ytbjnhllkdilpfaa
