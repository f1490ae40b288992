/- Part 7 of the proof. No conditions. -/
import Derived.Test.YtbjnhllkdilpfaaGreatZf01
set_option linter.unusedVariables false
set_option linter.unusedSimpArgs false
namespace Go.Proofs.YtbjnhllkdilpfaaGreat
open Go.RowKit
section
variable {P:Program} {ops:Array Oper} {Q:Exit->Act->World->Prop} {Kp:Nat->Bool}
def dP (ops:Array Oper) (a:Act) (j:Nat) (v:Value):Prop:=
 match(ops[j]?).bind (·.dst)with
 |some d=>a.tmps[d]? =some v
 |none=>True
def uk:Value->Option Nat
 |.pointer (some a)=>some a.block
 |.slice (some a) _ _=>some a.block
 |_=>none
def pV (ops:Array Oper) (k:Nat):Option Tmp:=(ops[k]?).bind (·.dst)
def iU (ops:Array Oper) (n:Nat):Bool:=
 (List.range ops.size).all λi=>
  (match pV ops i with
   |none=>true
   |some d=>decide (d<n)&&(List.range i).all λj=>pV ops j !=some d)&&
  (match ops[i]? with
   |none=>true
   |some o=>o.after.all λe=> !Region.binds .any e||decide (e.on<i))
theorem TR {n:Nat} (h:iU ops n=true) {i d:Nat} (a:pV ops i=some d):d<n:=by
 have b:i<ops.size:=by
  unfold pV at a;rcases zHu i ops.size with h|h
  ·exact h
  rw[zHz h]at a;cases a
 have:=zGu.1 h i (zHq.2 b);simp only[a,zFn,zF9]at this;exact this.1.1
theorem OU {n:Nat} (h:iU ops n=true) {i j d:Nat} (b:j<i) (a:pV ops i=some d):pV ops j≠some d:=by
 have c:i<ops.size:=by
  unfold pV at a;rcases zHu i ops.size with h|h
  ·exact h
  rw[zHz h]at a;cases a
 have:=zGu.1 h i (zHq.2 c);simp only[a,zFn]at this;have:=zGu.1 this.1.2 j (zHq.2 b)
 simpa using this
theorem MH {n:Nat} (h:iU ops n=true) {i j d:Nat} (c:i≠j) (a:pV ops i=some d):pV ops j≠some d:=by
 rcases zHu i j with b|b
 ·intro e;exact OU h b e a
 exact OU h (by omega) a
theorem IX {n:Nat} (h:iU ops n=true) {i:Nat} {o:Oper} (a:ops[i]? =some o) {e:Edge} (d:e∈o.after) (hb:Region.binds .any e=true):e.on<i:=by
 have c:i<ops.size:=(zHr.1 a).1;have:=zGu.1 h i (zHq.2 c);simp only[a,zFn]at this;have b:=this.2;rw[Array.all_eq_true']at b;have:=b e d
 simpa[hb]using this
theorem TS {a:Act} {v:Value} {n:Nat} (e:iU ops n=true) (f:a.tmps.size=n) {k:Nat} {o:Oper} (c:ops[k]? =some o):dP ops (a.put o.dst v) k v:=by
 unfold dP;rw[c,Option.bind_some];cases hd:o.dst with
 |none=>trivial
 |some d=>
  have b:d<a.tmps.size:=by rw[f];exact TR e (i:=k) (by unfold pV;rw[c];exact hd)
  show(a.tmps.setIfInBounds d v)[d]? =some v
  simp[b]
theorem QA {a:Act} {v u:Value} {n:Nat} (i:iU ops n=true) {k j:Nat} {o:Oper} (c:ops[k]? =some o) (f:k≠j) (h:dP ops a j u):dP ops (a.put o.dst v) j u:=by
 unfold dP at h⊢;cases hd:o.dst with
 |none=>exact h
 |some d=>
  have b:=MH i f (d:=d) (by unfold pV;rw[c];exact hd);unfold pV at b;cases hx:(ops[j]?).bind (·.dst)with
  |none=>trivial
  |some g=>
   rw[hx]at h b
   show(a.tmps.setIfInBounds d v)[g]? =some u
   rw[zH9 (λe=>b (by rw[e]))];exact h
def BO (acc:List Nat) (l:List Edge):Nat:=l.foldl (λm e=>if Region.binds .any e=true then m|||(1 <<< e.on)|||acc.getD e.on 0 else m) 0
def masks:List Nat->List Oper->List Nat
 |acc,[]=>acc
 |acc,o::os=>masks (acc++[BO acc o.after.toList]) os
def waits (ops:Array Oper) (k j:Nat):Bool:=((masks [] ops.toList).getD k 0).testBit j
theorem BP {a:List Nat} {j:Nat}:∀{l:List Edge} {b:Nat},(l.foldl (λm e=>if Region.binds .any e=true then m|||(1 <<< e.on)|||a.getD e.on 0 else m) b).testBit j=true->
  b.testBit j=true\/∃e∈l,Region.binds .any e=true/\(e.on=j\/(a.getD e.on 0).testBit j=true)
 |[],b,h=>.inl h
 |e::l,b,h=>by
  rw[List.foldl_cons]at h;rcases BP h with h|⟨f,c,d⟩
  ·split at h
   ·rename_i hb
    rw[Nat.testBit_or,Nat.testBit_or,zG8,zG8]at h;rcases h with(h|h)|h
    ·exact .inl h
    ·refine .inr ⟨e,by simp,hb,.inl ?_⟩;rw[Nat.one_shiftLeft,Nat.testBit_two_pow]at h
     simpa using h
    exact .inr ⟨e,by simp,hb,.inr h⟩
   exact .inl h
  exact .inr ⟨f,by simp[c],d⟩
def OV (ops:Array Oper) (acc:List Nat):Prop:=
 ∀k j o,ops[k]? =some o->(acc.getD k 0).testBit j=true->∀L:Nat->Bool,(∀k o,ops[k]? =some o->L k=true->∀e∈o.after,Region.binds .any e=true->L e.on=true)->
  (∀e∈o.after,Region.binds .any e=true->L e.on=true)->L j=true
theorem IY:∀(f:List Oper) (a:List Nat),OV ops a->(∀i,ops[a.length+i]? =f[i]?)->OV ops (masks a f)
 |[],a,h,_=>h
 |o::f,a,h,t=>by
  refine IY f _ ?_ ?_
  ·intro k j v g hb L l u;rcases zHu k a.length with p|w
   ·have hb:(a.getD k 0).testBit j=true:=by
     have:(a++[BO a o.after.toList]).getD k 0=a.getD k 0:=by
      simp[List.getD,zGh p]
     rwa [this]at hb
    exact h k j v g hb L l u
   by_cases n:k=a.length
   ·subst n;have b:=t 0;rw[Nat.add_zero,zGe,g]at b;injection b with b
    subst b;have hb:(BO a v.after.toList).testBit j=true:=by simpa[List.getD]using hb
    unfold BO at hb;rcases BP hb with b|⟨e,n,q,d⟩
    ·simp at b
    have c:=u e (by simpa using n) q;rcases d with rfl|d
    ·exact c
    cases hoe:ops[e.on]? with
    |none=>
     exfalso;rcases zHu e.on a.length with s|s
     ·have m:e.on<ops.size:=by
       have r:a.length<ops.size:=(zHr.1 g).1;omega
      rw[zG6 m]at hoe;cases hoe
     simp[List.getD,zG7 s]at d
    |some m=>exact h e.on j m hoe d L l (l e.on m hoe c)
   have:(a++[BO a o.after.toList]).getD k 0=0:=by
    simp only[List.getD];rw[zG7 (by simp;omega)];rfl
   rw[this]at hb;simp at hb
  intro i;have:=t (i+1);rw[zGg]at this;rw[<-this]
  congr 1
  simp;omega
theorem jC {k j:Nat} {o:Oper} (a:ops[k]? =some o) (h:waits ops k j=true) {L:Nat->Bool} (c:∀k o,ops[k]? =some o->L k=true->∀e∈o.after,Region.binds .any e=true->L e.on=true)
  (b:∀e∈o.after,Region.binds .any e=true->L e.on=true):L j=true:=by
 refine IY (ops:=ops) ops.toList [] ?_ ?_ k j o a h L c b
 ·intro k j o _ hb;simp[List.getD]at hb
 intro i;simp
theorem EM:∀(b:List Oper) (a:List Nat),(masks a b).length=a.length+b.length
 |[],a=>rfl
 |o::b,a=>by rw[masks,EM b];simp;omega
theorem BQ {k j:Nat} (h:ops[k]? =none):waits ops k j=false:=by
 unfold waits;rw[zGy,zG7 (by rw[EM];simpa using Array.getElem?_eq_none_iff.1 h)];simp
theorem oZ {a:Array Bool} {i:Nat} (h:a.getD i true=false):i<a.size/\a[i]? =some false:=by
 rw[zGk]at h;cases hx:a[i]? with
 |none=>rw[hx]at h;cases h
 |some b=>rw[hx]at h;simp at h;subst h;exact⟨(zHr.1 hx).1,rfl⟩
def kN (ops:Array Oper) (n:Nat):Bool:=(List.range ops.size).all λk=>decide (k<n)||(List.range k).all λj=>waits ops k j
theorem XN {n k j:Nat} {o:Oper} (h:kN ops n=true) (a:ops[k]? =some o) (i:n<=k) (c:j<k) {L:Nat->Bool} (g:∀(k:Nat) (o:Oper),ops[k]? =some o->L k=true->∀e∈o.after,Region.binds .any e=true->L e.on=true)
  (d:∀e∈o.after,Region.binds .any e=true->L e.on=true):L j=true:=by
 have e:k<ops.size:=(zHr.1 a).1;have b:=zGu.1 h k (zHq.2 e);simp only[zG8,zF9]at b;have f:=b.resolve_left (by omega);exact jC a (zGu.1 f j (zHq.2 c)) g d
theorem QD {n z:Nat} (M:iU ops z=true) (N:kN ops n=true):∀(c m:Nat) (b:Array Bool) (a:Act) (w:World),n<=m->m<=ops.size->ops.size-m<=c->b.size=ops.size->
  (∀j,j<m->b.getD j false=true)->(∀j,m<=j->b.getD j false=false)->(∀(k:Nat) (o:Oper),ops[k]? =some o->b.getD k false=true->∀e∈o.after,Region.binds .any e=true->b.getD e.on false=true)->
  wpOps P ops Q (List.range' m (ops.size-m)) a w->wpAny P .any ops Q c b a w:=by
 have C:∀(b:Array Bool),b.size=ops.size->(∀j,j<ops.size->b.getD j false=true)->Region.ready .any ops b=[]:=by
  intro b q d;cases t:Region.ready .any ops b with
  |nil=>rfl
  |cons i l=>
   exfalso;have B:i∈Region.ready .any ops b:=by rw[t];simp
   obtain⟨f,r⟩:=oZ (mem_ready.1 B).1;have:=d i (by omega);rw[zGk,r]at this;cases this
 intro c
 induction c with
 |zero=>
  intro m b a w A K H q f r y h;have g:m=ops.size:=by omega
  subst g;rw[zJi]at h;exact⟨C b q f,h⟩
 |succ c J=>
  intro m b a w A K H q f r y h
  by_cases g:m=ops.size
  ·subst g;rw[zJi]at h;have t:=C b q f;exact⟨λ_=>h,by rw[t];simp⟩
  have p:m<ops.size:=by omega
  have d:m∈Region.ready .any ops b:=by
   rw[mem_ready];refine⟨?_,ops[m],zG6 p,λe x hb=>f _ (IX M (zG6 p) x hb)⟩;have s:=r m zL;rw[zGk,zG6 (by omega:m<b.size)]at s⊢;exact s
  refine⟨λt=>by rw[t]at d;(exact absurd d (by simp)),λi B=>?_⟩;obtain⟨R,o,E,F⟩:=mem_ready.1 B
  have u:i=m:=by
   rcases Nat.lt_trichotomy i m with s|s|s
   ·have:=f i s;obtain⟨_,v⟩:=oZ R;rw[zGk,v]at this;cases this
   ·exact s
   have:=XN N E (by omega) s (L:=λk=>b.getD k false) y F;rw[r m zL]at this;cases this
  subst u;have e:ops.size-i=(ops.size-(i+1))+1:=by omega
  rw[e,zLf,wpOps_cons]at h;refine wpOp_mono (λG w' O=>J (i+1) _ G w' (by omega) (by omega) (by omega) (by simpa using q) ?_ ?_ ?_ O) h
  ·intro j I
   by_cases v:i=j
   ·subst v;rw[zGk];simp[q,p]
   rw[zKw false v];exact f j (by omega)
  ·intro j I;rw[zKw false (by omega)];exact r j (by omega)
  intro k S s D e x hb
  by_cases u:i=k
  ·subst u;rw[E]at s;injection s with s
   subst s;exact getD_set_true (F e x hb)
  rw[zKw false u]at D;exact getD_set_true (y k S s D e x hb)
inductive Spec where
 |any
 |is (v:Value)
 |st (p:Value->World->Prop) (h:∀v w w',Below w.heap.size w w'->p v w->p v w')
def Spec.holds:Spec->Value->World->Prop
 |.any,_,_=>True
 |.is v,u,_=>u=v
 |.st p _,u,w=>p u w
theorem Spec.keep:∀(s:Spec) {v:Value} {w w':World},Below w w w'->s.holds v w->s.holds v w'
 |.any,_,_,_,_,_=>trivial
 |.is _,_,_,_,_,h=>h
 |.st _ a,v,w,w',hb,h=>a v w w' hb h
def iZ:List Oper->List Value->Act->Act
 |o::os,v::vs,a=>iZ os vs (a.put o.dst v)
 |_,_,a=>a
theorem vG:∀(c:List Oper) (b:List Value) (a:Act),(iZ c b a).defers=a.defers
 |[],_,_=>by simp[iZ]
 |_::_,[],_=>by simp[iZ]
 |o::c,v::b,a=>by
  rw[iZ,vG c b];cases o.dst<;>simp[Act.put]
theorem qE {d:Tmp}:∀(b:List Oper) (c:List Value) (a:Act),(∀k:Nat,(b[k]?).bind (·.dst)≠some d)->(iZ b c a).tmps[d]? =a.tmps[d]?
 |[],_,_,_=>by simp[iZ]
 |_::_,[],_,_=>by simp[iZ]
 |o::b,v::c,a,h=>by
  rw[iZ,qE b c _ (λk=>by simpa using h (k+1))];have f:o.dst≠some d:=by simpa using h 0
  cases hx:o.dst with
  |none=>rfl
  |some g=>
   rw[hx]at f
   show(a.tmps.setIfInBounds g v)[d]? =a.tmps[d]?
   exact zH9 (λe=>f (by rw[e]))
theorem EN {d:Tmp} {v:Value}:∀(c:List Oper) (g:List Value) (a:Act) (k:Nat),(c[k]?).bind (·.dst)=some d->g[k]? =some v->(∀j,k≠j->(c[j]?).bind (·.dst)≠some d)->d<a.tmps.size->(iZ c g a).tmps[d]? =some v
 |[],_,_,k,e,_,_,_=>by simp at e
 |_::_,[],_,k,_,f,_,_=>by simp at f
 |o::c,u::g,a,0,e,f,h,b=>by
  have e:o.dst=some d:=by simpa using e
  have f:u=v:=by simpa using f
  subst f;rw[iZ,qE c g _ (λk=>by simpa using h (k+1) (by omega)),e]
  show(a.tmps.setIfInBounds d u)[d]? =some u
  simp[b]
 |o::c,u::g,a,k+1,e,f,h,b=>by
  rw[iZ];refine EN c g _ k (by simpa using e) (by simpa using f) (λj i=>by simpa using h (j+1) (by omega)) ?_;cases o.dst<;>simpa[Act.put]using b
theorem OX {a:Act} {w:World} {R:Nat->Value->World->Prop}:∀(n:Nat),(∀k,k<n->∃v,dP ops a k v/\R k v w)->∃b:List Value,b.length=n/\∀k v,b[k]? =some v->dP ops a k v/\R k v w
 |0,_=>⟨[],rfl,by simp⟩
 |n+1,h=>by
  obtain⟨b,e,i⟩:=OX n λk c=>h k (by omega)
  obtain⟨v,d⟩:=h n (by omega);refine⟨b++[v],by simp[e],λk u c=>?_⟩;rcases zHu k n with f|g
  ·rw[zGh (by omega)]at c;exact i k u c
  by_cases j:k=n
  ·subst j;rw[zGd (by omega),e,zJi]at c;simp at c;subst c;exact d
  rw[zG7 (by simp;omega)]at c;cases c
theorem EO {a:Act} {w:World} {g:Nat} {b:Bool} {R:Nat->Spec} (i:R g=.is (.bool b)) (f:((ops[g]?).bind (·.dst)).isSome=true) (h:∃v,dP ops a g v/\(R g).holds v w):yielded ops a.tmps g=some b:=by
 obtain⟨v,c,e⟩:=h;rw[i]at e;have e:v=.bool b:=e;subst e;unfold dP at c;unfold yielded;cases hx:(ops[g]?).bind (·.dst)with
 |none=>rw[hx]at f;cases f
 |some d=>
  rw[hx]at c;simp only at c;simp[c]
def Sp (Kp:Nat->Bool) (ops:Array Oper) (p:Nat) (R:Nat->Spec) (b:Bool) (k:Nat) (v:Value) (w:World):Prop:=
 match R k with
 |.st q _=>(b=true/\k≠p/\waits ops k p=false/\Kp k=false)\/q v w
 |.is x=>v=x
 |.any=>True
theorem Sp.keep {p:Nat} {R:Nat->Spec} {b:Bool} {k:Nat} {v:Value} {w w':World} (hb:Below w w w') (h:Sp Kp ops p R b k v w):Sp Kp ops p R b k v w':=by
 unfold Sp at h⊢
 split at h
 ·rename_i q a c
  exact h.imp id (a v w w' hb)
 ·exact h
 trivial
theorem Sp.none {p:Nat} {R:Nat->Spec} {k:Nat} {v:Value} {w:World}:Sp Kp ops p R false k v w<->(R k).holds v w:=by
 unfold Sp;cases R k with
 |any=>exact Iff.rfl
 |is x=>exact Iff.rfl
 |st q a=>exact⟨λh=>h.resolve_left (λh=>by cases h.1),λh=>.inr h⟩
theorem Sp.grow {p:Nat} {R:Nat->Spec} {k:Nat} {v:Value} {w w':World} (b:p≠k) (c:waits ops k p=false) (a:Kp k=true->(R k).holds v w->(R k).holds v w') (h:Sp Kp ops p R false k v w):Sp Kp ops p R true k v w':=by
 have h:=Sp.none.1 h;unfold Sp;cases hR:R k with
 |any=>trivial
 |is x=>rw[hR]at h;exact h
 |st q d=>
  rw[hR]at h a;cases hx:Kp k with
  |true=>exact .inr (a hx h)
  |false=>exact .inl ⟨rfl,zLh b,c,rfl⟩
theorem Sp.self {p:Nat} {R:Nat->Spec} {b:Bool} {v:Value} {w:World}:Sp Kp ops p R b p v w<->(R p).holds v w:=by
 unfold Sp;cases R p with
 |any=>exact Iff.rfl
 |is x=>exact Iff.rfl
 |st q a=>exact⟨λh=>h.resolve_left (λh=>h.2.1 rfl),λh=>.inr h⟩
theorem Sp.post {p:Nat} {R:Nat->Spec} {b:Bool} {k:Nat} {v:Value} {w:World} (a:waits ops k p=true):Sp Kp ops p R b k v w<->(R k).holds v w:=by
 unfold Sp;cases R k with
 |any=>exact Iff.rfl
 |is x=>exact Iff.rfl
 |st q c=>exact⟨λh=>h.resolve_left (λh=>by rw[a]at h;cases h.2.2.1),λh=>.inr h⟩
structure Zm where
 on:Nat->Bool
 J:Bool->Nat->Nat->Nat->Value->World->Prop
 old:∀{b:Bool} {k lo hi:Nat} {v:Value} {w w':World},Below w w w'->J b k lo hi v w->J b k lo hi v w'
def frB (f:Nat->Bool):Zm:=⟨f,λ_ _ lo hi v _=>∃g,uk v=some g/\lo<=g/\g<hi,λ_ h=>h⟩
structure RX (Kp:Nat->Bool) (ops:Array Oper) (n:Nat) (Fr:Zm) (a0:Act) (W:World) (G:World->Prop) (p:Nat) (R:Nat->Spec) (L:Nat->Bool) (a:Act) (w:World):Prop where
 g:G w
 s:L p=false->Below W W w
 pn:n<=p->L p=false
 defers:a.defers=a0.defers
 size:a.tmps.size=a0.tmps.size
 old:∀d:Tmp,(∀k:Nat,k<n->(ops[k]?).bind (·.dst)≠some d)->a.tmps[d]? =a0.tmps[d]?
 got:∀k:Nat,k<n->L k=true->∃v,dP ops a k v/\Sp Kp ops p R (L p) k v w
 closed:∀(k:Nat) (o:Oper),ops[k]? =some o->L k=true->∀e∈o.after,Region.binds .any e=true->L e.on=true
 fresh:∃I:Nat->Nat×Nat,(∀k:Nat,k<n->L k=true->Fr.on k=true->(I k).2<=w.heap.size/\∀v,dP ops a k v->Fr.J (L p) k (I k).1 (I k).2 v w)/\
  ∀j k:Nat,j<n->k<n->j≠k->L j=true->L k=true->Fr.on j=true->Fr.on k=true->(I j).2<=(I k).1\/(I k).2<=(I j).1
def ay (Kp:Nat->Bool) (P:Program) (Q:Exit->Act->World->Prop) (ops:Array Oper) (n:Nat) (Fr:Zm) (a0:Act) (W:World) (G:World->Prop) (p:Nat) (R:Nat->Spec) (k:Nat) (o:Oper):Prop:=
 ops[k]? =some o->k<n->∀(K:Act->World->Prop) (L:Nat->Bool) (a:Act) (w:World),RX Kp ops n Fr a0 W G p R L a w->L k=false->(∀e∈o.after,Region.binds .any e=true->L e.on=true)->
  (∀v w',w.heap.size<=w'.heap.size->G w'->((L p||(k==p))=false->Below W W w')->(∀j u,k≠j->L j=true->Sp Kp ops p R (L p) j u w->Sp Kp ops p R (L p||(k==p)) j u w')->Sp Kp ops p R (L p||(k==p)) k v w'->(Fr.on k=true->o.dst.isSome=true/\∃lo hi,w.heap.size<=lo/\hi<=w'.heap.size/\Fr.J (L p||(k==p)) k lo hi v w')->(∀j lo hi u,j<n->k≠j->L j=true->Fr.on j=true->dP ops a j u->Fr.J (L p) j lo hi u w->Fr.J (L p||(k==p)) j lo hi u w')->K (a.put o.dst v) w')->
  if Region.wanted o (yielded ops a.tmps)=true then o.wp P a w K Q else K (a.put o.dst undef) w
def uU (Kp:Nat->Bool) (P:Program) (Q:Exit->Act->World->Prop) (ops:Array Oper) (n:Nat) (Fr:Zm) (a0:Act) (W:World) (G:World->Prop) (p:Nat) (R:Nat->Spec):Nat->List Oper->Prop
 |_,[]=>True
 |k,o::l=>ay Kp P Q ops n Fr a0 W G p R k o/\uU Kp P Q ops n Fr a0 W G p R (k+1) l
section
variable {n:Nat} {Fr:Zm} {a0:Act} {W:World} {G:World->Prop} {p:Nat} {R:Nat->Spec}
theorem uU.get:∀{l:List Oper} {k i:Nat} {o:Oper},uU Kp P Q ops n Fr a0 W G p R k l->l[i]? =some o->ay Kp P Q ops n Fr a0 W G p R (k+i) o
 |[],_,_,_,_,h=>by simp at h
 |x::l,k,0,o,h,a=>by
  simp only[zGe,zJ0]at a;subst a;exact h.1
 |x::l,k,i+1,o,h,a=>by
  simp only[zGg]at a;have:=h.2.get a
  rwa [show k+1+i=k+(i+1) by omega]at this
theorem RX.next (X:iU ops a0.tmps.size=true) {L B:Nat->Bool} {a:Act} {w:World} (q:RX Kp ops n Fr a0 W G p R L a w) {i:Nat} {o:Oper} (S:i<n) (D:ops[i]? =some o) (IZ:∀e∈o.after,Region.binds .any e=true->L e.on=true)
  (m:∀k,i≠k->B k=true->L k=true) (N:∀k,L k=true->B k=true)
  {v:Value} {w':World} (Z:w.heap.size<=w'.heap.size) (hG:G w') (hS:B p=false->Below W W w') (Q:∀j u,i≠j->L j=true->Sp Kp ops p R (L p) j u w->Sp Kp ops p R (B p) j u w') (hR:Sp Kp ops p R (B p) i v w') (hF:Fr.on i=true->o.dst.isSome=true/\∃A q,w.heap.size<=A/\q<=w'.heap.size/\Fr.J (B p) i A q v w') (hJ:∀j A q u,j<n->i≠j->L j=true->Fr.on j=true->dP ops a j u->Fr.J (L p) j A q u w->Fr.J (B p) j A q u w'):RX Kp ops n Fr a0 W G p R B (a.put o.dst v) w':=by
 have c:=m;have C:=TS (v:=v) X q.size D
 have K:Fr.on i=true->∀u,dP ops (a.put o.dst v) i u->u=v:=by
  intro s u f;obtain⟨H,_⟩:=hF s;unfold dP at f C;rw[D,Option.bind_some]at f C;cases hx:o.dst with
  |none=>rw[hx]at H;cases H
  |some d=>
   rw[hx]at f C;simp only at f C;rw[C]at f;injection f with f
   exact f.symm
 have back:∀k u,i≠k->dP ops (a.put o.dst v) k u->dP ops a k u:=by
  intro k u t f;unfold dP at f⊢;cases hx:(ops[k]?).bind (·.dst)with
  |none=>trivial
  |some d=>
   rw[hx]at f;simp only at f;have b:=MH X (i:=k) (j:=i) (zLh t) (d:=d) hx;unfold pV at b;rw[D,Option.bind_some]at b;cases hy:o.dst with
   |none=>rw[hy]at f;exact f
   |some U=>
    rw[hy]at f b;have f:(a.tmps.setIfInBounds U v)[d]? =some u:=f;rw[zH9 (λe=>b (by rw[e]))]at f;exact f
 refine⟨hG,hS,λh=>zH6.2 λe=>(by have:=m p (by omega) e;rw[q.pn h]at this;cases this),?_,?_,?_,?_,?_,?_⟩
 ·rw[<-q.defers];cases o.dst<;>rfl
 ·rw[<-q.size];cases o.dst<;>simp[Act.put]
 ·intro d H;rw[<-q.old d H];have:=H i S;rw[D,Option.bind_some]at this;cases hx:o.dst with
  |none=>rfl
  |some U=>
   rw[hx]at this
   show(a.tmps.setIfInBounds U v)[d]? =a.tmps[d]?
   exact zH9 (λe=>this (by rw[e]))
 ·intro k g m
  by_cases b:i=k
  ·subst b;exact⟨v,C,hR⟩
  have m:=c k b m;obtain⟨u,P,Y⟩:=q.got k g m;exact⟨u,QA X D b P,Q k u b m Y⟩
 ·intro k o2 g m e he hb
  by_cases b:i=k
  ·subst b;rw[D]at g;injection g with g
   subst g;exact N _ (IZ e he hb)
  have m:=c k b m;exact N _ (q.closed k o2 g m e he hb)
 obtain⟨I,M,hD⟩:=q.fresh;cases s:Fr.on i with
 |false=>
  have r:∀k,Fr.on k=true->i≠k:=λk g e=>by rw[<-e,s]at g;cases g
  exact⟨I,λk g m l=>⟨zFi (M k g (c k (r k l) m) l).1 Z,λu f=>hJ k _ _ u g (r k l) (c k (r k l) m) l (back k u (r k l) f) ((M k g (c k (r k l) m) l).2 u (back k u (r k l) f))⟩,
   λj k O g x z y F l=>hD j k O g x (c j (r j F) z) (c k (r k l) y) F l⟩
 |true=>
  obtain⟨_,A,E,P,Y,h3⟩:=hF s;have r:∀k,i≠k->(if k=i then(A,E)else I k)=I k:=λk g=>zF2 (zLh g)
  refine⟨λk=>if k=i then(A,E)else I k,λk g m l=>?_,λj k O g x z y F l=>?_⟩
  ·by_cases b:i=k
   ·subst b;simp only[zF3];exact⟨Y,λu f=>by rw[K s u f];exact h3⟩
   simp only[r k b];have s:=M k g (c k b m) l;exact⟨zFi s.1 Z,λu f=>hJ k _ _ u g b (c k b m) l (back k u b f) (s.2 u (back k u b f))⟩
  by_cases f:i=j
  ·subst f;simp only[zF3,r k x];exact .inr (zFi (M k g (c k x y) l).1 P)
  by_cases t:i=k
  ·subst t;simp only[zF3,r j f];exact .inl (zFi (M j O (c j f z) F).1 P)
  simp only[r j f,r k t];exact hD j k O g x (c j f z) (c k t y) F l
def I4 (ops:Array Oper) (n:Nat):Bool:=(List.range ops.size).all λk=>decide (k<n)||(List.range n).all λj=>waits ops k j
theorem TT {n k j:Nat} {o:Oper} (h:I4 ops n=true) (a:ops[k]? =some o) (i:n<=k) (c:j<n) {L:Nat->Bool} (g:∀(k:Nat) (o:Oper),ops[k]? =some o->L k=true->∀e∈o.after,Region.binds .any e=true->L e.on=true)
  (d:∀e∈o.after,Region.binds .any e=true->L e.on=true):L j=true:=by
 have e:k<ops.size:=(zHr.1 a).1;have b:=zGu.1 h k (zHq.2 e);simp only[zG8,zF9]at b;have f:=b.resolve_left (by omega);exact jC a (zGu.1 f j (zHq.2 c)) g d
def doneN (z n:Nat):Array Bool:=((List.range z).map λk=>decide (k<n)).toArray
theorem XO {a:Array Bool} {z n:Nat} (g:a.size=z) (c:∀k,k<n->a.getD k false=true) (d:∀j,n<=j->a.getD j false=false):a=doneN z n:=by
 apply zK4
 intro i
 by_cases f:i<z
 ·have e:a[i]? =some (a.getD i false):=by rw[zGk,zG6 (by omega)];rfl
  rw[e];unfold doneN;rw[zF7,zG2,List.getElem?_range f]
  by_cases b:i<n
  ·rw[c i b];simp[b]
  rw[d i (by omega)];simp[b]
 rw[zHz (by omega),zHz (by simp[doneN];omega)]
theorem zAs {n:Nat} (h:kN ops n=true) (d:n<=ops.size):I4 ops n=true:=by
 unfold kN at h;unfold I4;rw[zGu]at h⊢;intro k b;have:=h k b;simp only[zG8,zF9,zGu,zHq]at this⊢;rcases this with h|h
 ·exact .inl h
 by_cases a:k<n
 ·exact .inl a
 exact .inr λj c=>h j (by omega)
theorem OY (X:n<=ops.size) (O:iU ops a0.tmps.size=true) (zK:I4 ops n=true)
  (y:uU Kp P Q ops n Fr a0 W G p R 0 (ops.toList.take n))
  (r:∀(d:Nat) (c:Array Bool) a w,ops.size-n<=d->c.size=ops.size->(∀k,k<n->c.getD k false=true)->(∀j,n<=j->c.getD j false=false)->RX Kp ops n Fr a0 W G p R (λk=>c.getD k false) a w->wpAny P .any ops Q d c a w):
  ∀(d:Nat) (c:Array Bool) (a:Act) (w:World),c.size=ops.size->c.toList.count false<=d->(∀j,n<=j->c.getD j false=false)->RX Kp ops n Fr a0 W G p R (λk=>c.getD k false) a w->wpAny P .any ops Q d c a w:=by
 have g:∀(c:Array Bool) (m:Nat),c.size=ops.size->(∀j,m<=j->c.getD j false=false)->m<=ops.size->ops.size-m<=c.toList.count false:=by
  intro c m q h e
  have f:(c.toList.drop m).count false=ops.size-m:=by
   rw[List.count_eq_length.2]
   ·simp[q]
   intro b hb;obtain⟨i,l,rfl⟩:=zJ3.1 hb;have:=h (m+i) (by omega);rw[zHj,Array.length_toList]at l;rw[zGk,zG6 (by omega)]at this;simp only[List.getElem_drop,Array.getElem_toList]
   simpa using this.symm
  have s:=List.Sublist.count_le false (List.drop_sublist m c.toList);omega
 intro d
 induction d with
 |zero=>
  intro c a w q hc t l;have e:=g c n q t X
  have A:∀k,k<n->c.getD k false=true:=by
   intro k z;have f:k<c.size:=by omega
   rw[zGk,zG6 f];have:false∉c.toList:=List.count_eq_zero.1 (by omega);cases s:c[k]with
   |true=>rfl
   |false=>exact absurd (by rw[<-s];simp) this
  exact r 0 c a w (by omega) q A t l
 |succ d Y=>
  intro c a w q hc t l
  by_cases A:∀k,k<n->c.getD k false=true
  ·exact r (d+1) c a w (by have:=g c n q t X;omega) q A t l
  refine⟨λhr=>?_,λi m=>?_⟩
  ·exfalso;refine A ?_;intro k
   induction k using Nat.strongRecOn with
   |ind k B=>
    intro z;cases hlk:c.getD k false with
    |true=>rfl
    |false=>
     exfalso;have x:k<ops.size:=by omega
     have m:k∈Region.ready .any ops c:=by
      rw[mem_ready];refine⟨?_,ops[k],zG6 x,?_⟩
      ·rw[zGk,zG6 (by omega:k<c.size)]at hlk⊢;exact hlk
      intro e C hb;have f:=IX O (zG6 x) C hb;exact B e.on f (by omega)
     rw[hr]at m;cases m
  obtain⟨x,o,C,H⟩:=mem_ready.1 m;obtain⟨f,I⟩:=oZ x
  have e:i<n:=by
   rcases zHu i n with h|h
   ·exact h
   exfalso;exact A λk z=>TT zK C h z (L:=λk=>c.getD k false) l.closed H
  have M:=y.get (i:=i) (o:=o) (by rw[zJt e];simpa using C);rw[zFr]at M
  have E:c.getD i false=false:=by
   rw[zGk,I];rfl
  have LM:(c.setIfInBounds i true).getD p false=(c.getD p false||(i==p)):=by
   by_cases h:i=p
   ·subst h;rw[zGk];simp[f]
   rw[zKw false h];simp[h]
  have D:∀v w',w.heap.size<=w'.heap.size->G w'->((c.getD p false||(i==p))=false->Below W W w')->(∀j u,i≠j->c.getD j false=true->Sp Kp ops p R (c.getD p false) j u w->Sp Kp ops p R (c.getD p false||(i==p)) j u w')->Sp Kp ops p R (c.getD p false||(i==p)) i v w'->(Fr.on i=true->o.dst.isSome=true/\∃h l,w.heap.size<=h/\l<=w'.heap.size/\Fr.J (c.getD p false||(i==p)) i h l v w')->(∀j h l u,j<n->i≠j->c.getD j false=true->Fr.on j=true->dP ops a j u->Fr.J (c.getD p false) j h l u w->Fr.J (c.getD p false||(i==p)) j h l u w')->wpAny P .any ops Q d (c.setIfInBounds i true) (a.put o.dst v) w':=by
   intro v w' F K B h S U N;rw[<-LM]at B h S U N;refine Y _ _ _ (by simpa using q) ?_ ?_ ?_
   ·have:(c.toList.set i true).count false=c.toList.count false-1:=by
     rw[List.count_set (by simpa using f)]
     have:c[i]=false:=by
      rw[zG6 f]at I
      simpa using I
     simp[this]
    simp only[zJm];omega
   ·intro j Z;rw[zKw false (by omega)];exact t j Z
   exact l.next O e C H (λk z s=>by
    have s:(c.setIfInBounds i true).getD k false=true:=s
    rwa [zKw false z]at s) (λk s=>getD_set_true s) F K B h S U N
  have:=M C e (wpAny P .any ops Q d (c.setIfInBounds i true)) _ a w l E H D;unfold wpOp;rw[C];simp only
  split
  ·rename_i h
   rw[zF3 h]at this;exact .inl this
  rename_i h
  rw[zF2 h]at this;exact this
def fin (R:Nat->Spec) (x:Nat->Value):Nat->List Oper->Act->Act
 |_,[],a=>a
 |k,o::l,a=>fin R x (k+1) l (a.put o.dst (match R k with|.is v=>v|_=>x k))
def bJ:List Spec->(Nat->Value)->Nat->List Oper->Act->Act
 |s::Rl,x,k,o::l,a=>bJ Rl x (k+1) l (a.put o.dst (match s with|.is v=>v|_=>x k))
 |_,_,_,_,a=>a
theorem OZ {R:Nat->Spec} {x:Nat->Value}:∀(c:List Oper) (b:List Spec) (k:Nat) (a:Act),c.length<=b.length->(∀i,i<b.length->b.getD i .any=R (k+i))->fin R x k c a=bJ b x k c a
 |[],[],_,_,_,_=>rfl
 |[],_::_,_,_,_,_=>rfl
 |o::c,s::b,k,a,d,h=>by
  have f:s=R k:=h 0 (by simp);unfold fin bJ;rw[<-f]
  exact OZ c b (k+1) _ (by simpa using d) λi e=>by
   have:=h (i+1) (by simpa using e);rw[show k+(i+1)=k+1+i by omega]at this;rw[<-this];rfl
 |_::_,[],_,_,d,_=>by simp at d
theorem TU {R:Nat->Spec} {x:Nat->Value}:∀(c:List Oper) (d:List Value) (k:Nat) (a:Act),d.length=c.length->(∀i v,d[i]? =some v->x (k+i)=v/\∀X,R (k+i)=.is X->v=X)->iZ c d a=fin R x k c a
 |[],[],_,_,_,_=>rfl
 |o::c,v::d,k,a,b,h=>by
  have e:=h 0 v rfl;rw[Nat.add_zero]at e
  have g:(match R k with|.is v=>v|_=>x k)=v:=by
   cases hR:R k with
   |is X=>exact(e.2 X hR).symm
   |any=>exact e.1
   |st q f=>exact e.1
  unfold iZ fin;rw[g]
  exact TU c d (k+1) _ (by simpa using b) λi u f=>by
   have:=h (i+1) u (by simpa using f)
   rwa [show k+(i+1)=k+1+i by omega]at this
 |[],_::_,_,_,b,_=>by simp at b
 |_::_,[],_,_,b,_=>by simp at b
theorem RX.end_ (H:n<=ops.size) (z:iU ops a0.tmps.size=true) {a:Act} {w:World} {L:Nat->Bool} (l:∀k,k<n->L k=true) (m:RX Kp ops n Fr a0 W G p R L a w):
  ∃x:Nat->Value,a=fin R x 0 (ops.toList.take n) a0/\(∀(k:Nat) {q:Value->World->Prop} {h:∀v w w',Below w.heap.size w w'->q v w->q v w'},R k=.st q h->((decide (k<n)&&(k==p||decide (n<=p)||waits ops k p))=true\/(k<n/\Kp k=true))->q (x k) w)/\
   ∃I:Nat->Nat×Nat,(∀k,k<n->Fr.on k=true->(I k).2<=w.heap.size/\Fr.J (decide (p<n)) k (I k).1 (I k).2 (x k) w)/\∀j k,j<n->k<n->j≠k->Fr.on j=true->Fr.on k=true->(I j).2<=(I k).1\/(I k).2<=(I j).1:=by
 obtain⟨b,F,t⟩:=OX (ops:=ops) (a:=a) (w:=w) (R:=Sp Kp ops p R (L p)) n λk c=>m.got k c (l k c)
 have g:∀k:Nat,((ops.toList.take n)[k]?).bind (·.dst)=if k<n then(ops[k]?).bind (·.dst)else none:=by
  intro k
  by_cases c:k<n
  ·rw[zF3 c,zJt c,Array.getElem?_toList]
  rw[zF2 c,zG7 (by simp;omega)];rfl
 have:a=iZ (ops.toList.take n) b a0:=by
  obtain⟨A,y⟩:=a
  have s:A=(iZ (ops.toList.take n) b a0).tmps:=by
   apply zK4
   intro d
   by_cases o:∃k:Nat,k<n/\(ops[k]?).bind (·.dst)=some d
   ·obtain⟨k,f,c⟩:=o;have u:b[k]? =some b[k]:=zAg (by omega);have e:=(t k _ u).1;unfold dP at e;rw[c]at e;simp only at e;rw[e]
    symm
    refine EN _ _ _ k (by rw[g,zF3 f];exact c) u (λj r=>?_) (TR z (i:=k) c);rw[g]
    split
    ·exact MH z (i:=k) (j:=j) r (d:=d) c
    simp
   have o:∀k:Nat,k<n->(ops[k]?).bind (·.dst)≠some d:=λk f c=>o ⟨k,f,c⟩
   rw[qE _ _ _ (λk=>by
    rw[g]
    split
    ·rename_i h;exact o k h
    simp)]
   exact m.old d o
  have e:y=(iZ (ops.toList.take n) b a0).defers:=by rw[vG];exact m.defers
  rw[s,e]
 have A:∀k,k<n->b[k]? =some (b.getD k undef):=λk c=>by
  rw[zGy,zAg (by omega)];rfl
 refine⟨λk=>b.getD k undef,?_,λk q h C c=>?_,?_⟩
 ·rw[this,TU (R:=R) (x:=λk=>b.getD k undef) (ops.toList.take n) b 0 a0 (by simp;omega) (λi v h=>by
   have f:=(t i v h).2;rw[zFr];refine⟨by rw[zGy,h];rfl,λX o=>?_⟩;unfold Sp at f;rw[o]at f
   exact f)]
 ·simp only[zFn,zG8,zF9,zFt]at c;have f:=(t k _ (A k (c.elim And.left And.left))).2;unfold Sp at f;rw[C]at f;rcases f with⟨s,e⟩|f
  ·rcases c with c|c
   ·rcases c.2 with(rfl|o)|o
    ·exact absurd rfl e.1
    ·rw[m.pn o]at s;cases s
    rw[o]at e;cases e.2.1
   rw[c.2]at e;cases e.2.2
  exact f
 obtain⟨I,u,E⟩:=m.fresh
 have D:L p=decide (p<n):=by
  by_cases h:p<n
  ·rw[l p h,zGm h]
  rw[m.pn (by omega),zGf h]
 rw[D]at u;exact⟨I,λk c o=>⟨(u k c (l k c) o).1,(u k c (l k c) o).2 _ (t k _ (A k c)).1⟩,λj k r c y B o=>E j k r c y (l j r) (l k c) B o⟩
theorem RX.start (b:∀w,Below W W w->G w):RX Kp ops n Fr a0 W G p R (λk=>(Array.replicate ops.size false).getD k false) a0 W.drew:=by
 refine⟨b _ (zKf zR),λ_=>zKf zR,λ_=>by simp[Array.getD],rfl,rfl,λ_ _=>rfl,?_,?_,λ_=>(0,0),?_,?_⟩
 ·intro k _ a;simp[Array.getD]at a
 ·intro k o _ a;simp[Array.getD]at a
 ·intro k _ a;simp[Array.getD]at a
 intro j k _ _ _ a;simp[Array.getD]at a
theorem O0 (ops:Array Oper) (a:List Spec) (x:Nat->Value) (a0:Act):fin (λk=>a.getD k .any) x 0 (ops.toList.take a.length) a0=bJ a x 0 (ops.toList.take a.length) a0:=
 OZ _ a 0 a0 (by simp;omega) λi _=>by rw[zFr]
theorem mf {t:Nat} {a0:Act} {W:World} (p:Nat) (G:World->Prop) (Fr:Zm) (b:List Spec) (u:P.follows .mixedOrders=true) (d:(iU ops a0.tmps.size&&kN ops b.length&&decide (b.length<=ops.size))=true) (z:∀w,Below W W w->G w)
  (e:uU Kp P Q ops b.length Fr a0 W G p (λk=>b.getD k .any) 0 (ops.toList.take b.length))
  (f:∀(x:Nat->Value) (w:World),G w->(∀(k:Nat) {q:Value->World->Prop} {h:∀v w w',Below w.heap.size w w'->q v w->q v w'},b.getD k .any=.st q h->((decide (k<b.length)&&(k==p||decide (b.length<=p)||waits ops k p))=true\/(k<b.length/\Kp k=true))->q (x k) w)->
   (∃I:Nat->Nat×Nat,(∀k,k<b.length->Fr.on k=true->(I k).2<=w.heap.size/\Fr.J (decide (p<b.length)) k (I k).1 (I k).2 (x k) w)/\∀j k,j<b.length->k<b.length->j≠k->Fr.on j=true->Fr.on k=true->(I j).2<=(I k).1\/(I k).2<=(I j).1)->wpList P ops Q (ops.toList.drop b.length) (bJ b x 0 (ops.toList.take b.length) a0) w):
  (Code.region t ops true).wp P Q a0 W:=by
 simp only[zFn,zF9]at d;obtain⟨⟨d,r⟩,l⟩:=d;refine wp_region_any u ?_;refine OY (W:=W) (G:=G) (p:=p) l d (zAs r l) e (λi c a w m s o A n=>?_) _ _ _ _ (by simp) (by simp) (by intro j _;simp[Array.getD]) (RX.start z);obtain⟨x,rfl,y,B⟩:=n.end_ l d o;have h:(ops.toList.drop b.length).length=ops.size-b.length:=by simp
 have:=f x w n.g y B;rw[<-O0,<-wpOps_eq_wpList (ops.toList.drop b.length) b.length (by intro j;simp[zHd]),h]at this;exact QD d r i b.length c _ w zL l m s o A n.closed this
section
variable {k:Nat} {o:Oper}
def QF:Spec->Bool
 |.is _=>true
 |_=>false
def Spec.v:Spec->Value
 |.is v=>v
 |_=>undef
def vH (ops:Array Oper) (n d:Nat):Option Nat:=(List.range n).find? λj=>(ops[j]?).bind (·.dst)==some d
def rho (ops:Array Oper) (n:Nat) (R:Nat->Spec) (a0:Act):Operand->Value
 |.tmp d=>match vH ops n d with
  |some j=>(R j).v
  |none=>a0.eval (.tmp d)
 |x=>a0.eval x
def TV (ops:Array Oper) (n:Nat) (R:Nat->Spec) (k:Nat):Operand->Bool
 |.tmp d=>match vH ops n d with
  |some j=>waits ops k j&&QF (R j)
  |none=>true
 |_=>true
def xC:Op->Bool
 |.move _|.assign _|.pick _ _ _|.load _ _|.nilCheck _|.binOp _ _ _ _ _|.unOp _ _ _|.convert _ _ _|.fieldAddr _ _ _|.field _ _ _|.indexAddr _ _ _|.index _ _ _|.extract _ _=>true
 |.call c=>match c.callee with
  |.builtin _=>true
  |_=>false
 |.build _ _=>true
 |_=>false
def O1 (ops:Array Oper) (n:Nat) (R:Nat->Spec) (k:Nat) (o:Oper):Bool:=
 match o.guard with
 |none=>true
 |some (g,b)=>decide (g<n)&&waits ops k g&&((ops[g]?).bind (·.dst)).isSome&&(match R g with|.is (.bool c)=>c==b|_=>false)
theorem MI {r r':Operand->Value} {o:Oper} (b:xC o.op=true) (h:∀x∈o.op.operands,r x=r' x):execOp r o=execOp r' o:=by
 obtain⟨d,op,t,ps,k,l⟩:=o;cases op<;>first|(exfalso;simp[xC]at b;done)|skip
 all_goals(simp[Op.operands]at h)
 case call c=>
  obtain⟨g,f,j⟩:=c;cases g<;>first|(exfalso;simp[xC]at b;done)|skip
  simp only[Call.operands,Array.empty_append]at h
  have e:f.map r=f.map r':=by
   apply Array.map_congr_left
   intro x a;exact h x (by simpa using a)
  simp[execOp,resolve,e]
 case build t ps=>
  have e:ps.map (λx=>(x.1,r x.2))=ps.map (λx=>(x.1,r' x.2)):=by
   apply Array.map_congr_left
   intro x a;rw[h x.2 x.1 (by simpa using a)]
  simp only[execOp];rw[show(fun(x:Nat×Operand)=>match x with|(i,x)=>(i,r x))=λx=>(x.1,r x.2)from rfl,show(fun(x:Nat×Operand)=>match x with|(i,x)=>(i,r' x))=λx=>(x.1,r' x.2)from rfl,e]
 all_goals(simp[execOp,h])
theorem find_range {n:Nat} {f:Nat->Bool} {j:Nat} (h:(List.range n).find? f=some j):j<n/\f j=true:=
 ⟨zHq.1 (List.mem_of_find?_eq_some h),List.find?_some h⟩
theorem O3 {d:Nat} (h:vH ops n d=none):∀k:Nat,k<n->(ops[k]?).bind (·.dst)≠some d:=λk a e=>by
 have:=List.find?_eq_none.1 h k (zHq.2 a);simp[e]at this
theorem RX.rho {L:Nat->Bool} {a:Act} {w:World} (g:RX Kp ops n Fr a0 W G p R L a w) (h:ops[k]? =some o) (l:∀e∈o.after,Region.binds .any e=true->L e.on=true) {x:Operand} (b:TV ops n R k x=true):a.eval x=rho ops n R a0 x:=by
 cases x with
 |tmp d=>
  have b:(match vH ops n d with|some j=>waits ops k j&&QF (R j)|none=>true)=true:=b
  show a.eval (.tmp d)=match vH ops n d with|some j=>(R j).v|none=>a0.eval (.tmp d)
  cases hs:vH ops n d with
  |none=>
   rw[hs]at b;simp only[Act.eval,zGk];rw[g.old d (O3 hs)]
  |some j=>
   rw[hs]at b;simp only[zFn]at b⊢;obtain⟨i,f⟩:=find_range hs;obtain⟨v,c,e⟩:=g.got j i (jC h b.1 g.closed l);have f:(ops[j]?).bind (·.dst)=some d:=by simpa using f
   unfold dP at c;rw[f]at c;have c:a.tmps[d]? =some v:=c;unfold Sp at e;cases hR:R j with
   |is X=>
    rw[hR]at e;have e:v=X:=e;simp[Act.eval,zGk,c,e,Spec.v]
   |any=>rw[hR]at b;exact absurd b.2 (by simp[QF])
   |st q m=>rw[hR]at b;exact absurd b.2 (by simp[QF])
 |const v=>rfl
 |_=>rfl
theorem RX.wanted {L:Nat->Bool} {a:Act} {w:World} (i:RX Kp ops n Fr a0 W G p R L a w) (r:ops[k]? =some o) (s:∀e∈o.after,Region.binds .any e=true->L e.on=true) (e:O1 ops n R k o=true):Region.wanted o (yielded ops a.tmps)=true:=by
 unfold O1 at e;unfold Region.wanted;cases h:o.guard with
 |none=>rfl
 |some x=>
  obtain⟨g,b⟩:=x;rw[h]at e;simp only[zFn,zF9]at e;obtain⟨⟨⟨l,u⟩,m⟩,d⟩:=e;obtain⟨v,t,f⟩:=i.got g l (jC r u i.closed s);cases hR:R g with
  |is X=>
   rw[hR]at d;cases X with
   |bool c=>
    have j:c=b:=by simpa using d
    subst j;unfold Sp at f;rw[hR]at f;have j:yielded ops a.tmps g=some c:=EO (w:=w) hR m ⟨v,t,by unfold Spec.holds;rw[hR];exact f⟩;simp[j]
   |_=>cases d
  |any=>rw[hR]at d;cases d
  |st q j=>rw[hR]at d;cases d
def fine (ops:Array Oper) (n:Nat) (Fr:Nat->Bool) (p:Nat) (R:Nat->Spec) (k:Nat):Bool:=
 match ops[k]? with
 |none=>true
 |some o=>xC o.op&&o.op.operands.all (TV ops n R k)&&O1 ops n R k o&&QF (R k)&& !Fr k&&(k !=p)
theorem RX.goes {L:Nat->Bool} {a:Act} {w:World} (b:RX Kp ops n Fr a0 W G p R L a w) (m:∀w w',G w->Below w.heap.size w w'->G w') (f:(k==p)=false) (l:Fr.on k=false) {K:Act->World->Prop} {d:Option Tmp}
  (i:∀v w',w.heap.size<=w'.heap.size->G w'->((L p||(k==p))=false->Below W W w')->(∀j u,k≠j->L j=true->Sp Kp ops p R (L p) j u w->Sp Kp ops p R (L p||(k==p)) j u w')->Sp Kp ops p R (L p||(k==p)) k v w'->(Fr.on k=true->d.isSome=true/\∃c b,w.heap.size<=c/\b<=w'.heap.size/\Fr.J (L p||(k==p)) k c b v w')->(∀j c b u,j<n->k≠j->L j=true->Fr.on j=true->dP ops a j u->Fr.J (L p) j c b u w->Fr.J (L p||(k==p)) j c b u w')->K (a.put d v) w')
  {v:Value} {w':World} (hb:Below w.heap.size w w') (c:Sp Kp ops p R (L p) k v w'):K (a.put d v) w':=by
 rw[f,Bool.or_false]at i;exact i v w' hb.size (m w w' b.g hb) (λe=>(b.s e).trans (hb.mono (b.s e).size)) (λj u _ _ h=>h.keep hb) c (λh=>by rw[l]at h;cases h) (λ_ _ _ _ _ _ _ _ _ h=>Fr.old hb h)
theorem ay.y (C:∀w w',G w->Below w.heap.size w w'->G w') {i:List Nat} (c:((List.range n).all λk=>i.contains k||fine ops n Fr.on p R k)=true) (f:i.contains k=false)
  (g:ops[k]? =some o) (s:k<n) (K:Act->World->Prop) (L:Nat->Bool) (a:Act) (w:World) (b:RX Kp ops n Fr a0 W G p R L a w) (r:L k=false) (l:∀e∈o.after,Region.binds .any e=true->L e.on=true) (h:(execOp (rho ops n R a0) o).run P w=.ok (.value (R k).v) w)
  (D:∀v w',w.heap.size<=w'.heap.size->G w'->((L p||(k==p))=false->Below W W w')->(∀j u,k≠j->L j=true->Sp Kp ops p R (L p) j u w->Sp Kp ops p R (L p||(k==p)) j u w')->Sp Kp ops p R (L p||(k==p)) k v w'->(Fr.on k=true->o.dst.isSome=true/\∃d b,w.heap.size<=d/\b<=w'.heap.size/\Fr.J (L p||(k==p)) k d b v w')->(∀j d b u,j<n->k≠j->L j=true->Fr.on j=true->dP ops a j u->Fr.J (L p) j d b u w->Fr.J (L p||(k==p)) j d b u w')->K (a.put o.dst v) w'):
  if Region.wanted o (yielded ops a.tmps)=true then o.wp P a w K Q else K (a.put o.dst undef) w:=by
 have d:=zGu.1 c k (zHq.2 s);rw[f,zLb]at d;unfold fine at d;rw[g]at d;simp only[zFn,zHx,zG1,ne_eq]at d;obtain⟨⟨⟨⟨⟨t,e⟩,z⟩,m⟩,B⟩,A⟩:=d;rw[zF3 (b.wanted g l z)];unfold Oper.wp;rw[MI t (r':=rho ops n R a0) (λx d=>b.rho g l (by rw[Array.all_eq_true']at e;exact e x d)),h,Oper.upon_value];refine b.goes C (zFz.2 A) B D zR ?_;unfold Sp;cases hR:R k with
 |is X=>rfl
 |any=>trivial
 |st q E=>rw[hR]at m;cases m
theorem ay.x (q:∀w w',G w->Below w.heap.size w w'->G w') {e:List Nat} (c:((List.range n).all λk=>e.contains k||fine ops n Fr.on p R k)=true) (b:e.contains k=false)
  (h:∀w,G w->(execOp (rho ops n R a0) o).run P w=.ok (.value (R k).v) w):ay Kp P Q ops n Fr a0 W G p R k o:=
 λi l K L a w f d j m=>ay.y q c b i l K L a w f d j (h w f.g) m
def before (ops:Array Oper) (n p k:Nat):Bool:=decide (n<=p)||(waits ops p k&&(ops[p]?).isSome)
theorem RX.before {L:Nat->Bool} {a:Act} {w:World} (d:RX Kp ops n Fr a0 W G p R L a w) (hb:before ops n p k=true) (c:L k=false):L p=false:=by
 unfold Go.Proofs.YtbjnhllkdilpfaaGreat.before at hb;simp only[zG8,zF9,zFn,Option.isSome_iff_exists]at hb;rcases hb with h|⟨h,op,b⟩
 ·exact d.pn h
 cases hx:L p with
 |false=>rfl
 |true=>
  have:=jC b h d.closed (λe f hb=>d.closed p op b hx e f hb);rw[c]at this;cases this
theorem ay.b (q:∀w w',G w->Below w.heap.size w w'->G w') {g:List Nat} (c:((List.range n).all λk=>g.contains k||fine ops n Fr.on p R k)=true) (d:(!g.contains k&&before ops n p k)=true)
  (h:∀w,Below W W w->(execOp (rho ops n R a0) o).run P w=.ok (.value (R k).v) w):ay Kp P Q ops n Fr a0 W G p R k o:=by
 intro i l K L a w f e j m;simp only[zFn,zHx]at d;exact ay.y q c d.1 i l K L a w f e j (h w (f.s (f.before d.2 e))) m
def Facts (ops:Array Oper) (R:Nat->Value->World->Prop) (a:Act) (w:World):List Nat->Prop
 |[]=>True
 |j::l=>(∃v,dP ops a j v/\R j v w)/\Facts ops R a w l
def kU (ops:Array Oper) (a0 a:Act):List Nat->Prop
 |[]=>True
 |d::l=>a.tmps[d]? =a0.tmps[d]? /\kU ops a0 a l
theorem RX.qG {L:Nat->Bool} {a:Act} {w:World} (c:RX Kp ops n Fr a0 W G p R L a w):∀{l:List Nat},(l.all λd=>(vH ops n d).isNone)=true->kU ops a0 a l
 |[],_=>trivial
 |d::l,b=>by
  simp only[List.all_cons,zFn,Option.isNone_iff_eq_none]at b;exact⟨c.old d (O3 b.1),c.qG b.2⟩
theorem RX.facts {L:Nat->Bool} {a:Act} {w:World} (c:RX Kp ops n Fr a0 W G p R L a w) (d:ops[k]? =some o) (f:∀e∈o.after,Region.binds .any e=true->L e.on=true):∀{l:List Nat},(l.all λj=>decide (j<n)&&waits ops k j)=true->Facts ops (Sp Kp ops p R (L p)) a w l
 |[],_=>trivial
 |j::l,b=>by
  simp only[List.all_cons,zFn,zF9]at b;exact⟨c.got j b.1.1 (jC d b.1.2 c.closed f),c.facts d f b.2⟩
theorem Facts.none {a:Act} {w:World}:∀{l:List Nat},Facts ops (Sp Kp ops p R false) a w l->Facts ops (λk v w=>(R k).holds v w) a w l
 |[],_=>trivial
 |_::_,⟨⟨v,c,b⟩,h⟩=>⟨⟨v,c,Sp.none.1 b⟩,h.none⟩
def mg (ops:Array Oper) (n:Nat) (R:Nat->Spec) (k:Nat) (o:Oper) (l ds:List Nat):Bool:=
 O1 ops n R k o&&(l.all λj=>decide (j<n)&&waits ops k j)&&(ds.all λd=>(vH ops n d).isNone)
theorem ay.z (A:∀w w',G w->Below w.heap.size w w'->G w') (l m:List Nat) (c:(mg ops n R k o l m&&before ops n p k&& !Fr.on k&&(k !=p))=true)
  (h:∀(K:Act->World->Prop) (a:Act) (w:World),Below W W w->kU ops a0 a m->Facts ops (λk v w=>(R k).holds v w) a w l->(∀v w',Below w.heap.size w w'->(R k).holds v w'->K (a.put o.dst v) w')->o.wp P a w K Q):ay Kp P Q ops n Fr a0 W G p R k o:=by
 intro g D K L a w b e i C;unfold mg at c;simp only[zFn,zHx,zG1,ne_eq]at c;obtain⟨⟨⟨⟨⟨y,u⟩,r⟩,t⟩,q⟩,x⟩:=c;rw[zF3 (b.wanted g i y)];have j:=b.before t e;have f:=b.facts g i u;have d:=λv w'=>b.goes A (zFz.2 x) q C (v:=v) (w':=w')
 rw[j]at f d;exact h K a w (b.s j) (b.qG r) f.none λv w' hb B=>d v w' hb (Sp.none.2 B)
theorem ay.t (Z:∀w w',G w->Below w.heap.size w w'->G w') {X:Value} (l I:List Nat) (g:Nat) (b:Bool) {e:Bool} (F:o.guard=some (g,b)) (u:R g=.is (.bool e)) (y:R k=.is (bif (true&&(e==b))then X else undef))
  (c:(decide (g<n)&&waits ops k g&&((ops[g]?).bind (·.dst)).isSome&&(l.all λj=>decide (j<n)&&waits ops k j)&&(I.all λd=>(vH ops n d).isNone)&&before ops n p k&& !Fr.on k&&(k !=p))=true)
  (h:e=b->(true&&(e==b))=true->∀(K:Act->World->Prop) (a:Act) (w:World),Below W W w->kU ops a0 a I->Facts ops (λk v w=>(R k).holds v w) a w l->(∀v w',Below w.heap.size w w'->v=X->K (a.put o.dst v) w')->o.wp P a w K Q):ay Kp P Q ops n Fr a0 W G p R k o:=by
 intro D hk K L a w f m E hK;simp only[zFn,zHx,zG1,ne_eq,zF9]at c;obtain⟨⟨⟨⟨⟨⟨⟨Y,N⟩,M⟩,A⟩,J⟩,O⟩,S⟩,c8⟩:=c;have H:=f.before O m;obtain⟨v,U,r⟩:=f.got g Y (jC D N f.closed E);unfold Sp at r;rw[u]at r;have B:yielded ops a.tmps g=some e:=EO (w:=w) u M ⟨v,U,by unfold Spec.holds;rw[u];exact r⟩;have i:=λv w'=>f.goes Z (zFz.2 c8) S hK (v:=v) (w':=w')
 have z:∀v w',v=(bif (true&&(e==b))then X else undef)->Sp Kp ops p R (L p) k v w':=λv w' x=>by
  unfold Sp;rw[y];exact x
 by_cases q:e=b
 ·subst q;rw[zF3 (by unfold Region.wanted;rw[F];simp[B])];have C:=f.facts D E (by rw[zGu]at A⊢;exact A);rw[H]at C;exact h rfl (by simp) K a w (f.s H) (f.qG J) C.none λv w' hb x=>i v w' hb (z v w' (by simp[x]))
 rw[zF2 (by unfold Region.wanted;rw[F];simp[B,q])];exact i undef w zR (z undef w (by rw[zFz.2 q];rfl))
theorem ay.fj (D:∀w w',G w->Below w.heap.size w w'->G w') (l r:List Nat) (c:(mg ops n R k o l r&&before ops n p k&&o.dst.isSome&&(k !=p))=true)
  (h:∀(K:Act->World->Prop) (a:Act) (w:World),Below W W w->kU ops a0 a r->Facts ops (λk v w=>(R k).holds v w) a w l->(∀v w',Below w.heap.size w w'->(R k).holds v w'->Fr.J false k w.heap.size w'.heap.size v w'->K (a.put o.dst v) w')->o.wp P a w K Q):ay Kp P Q ops n Fr a0 W G p R k o:=by
 intro m F K L a w b e q f;unfold mg at c;simp only[zFn,zG1,ne_eq]at c;obtain⟨⟨⟨⟨⟨C,z⟩,x⟩,y⟩,t⟩,A⟩:=c;rw[zF3 (b.wanted m q C)];have d:=b.before y e;have i:=b.facts m q z;rw[zFz.2 A,Bool.or_false]at f;rw[d]at i f;exact h K a w (b.s d) (b.qG x) i.none λv w' hb E B=>f v w' hb.size (D w w' b.g hb) (λ_=>(b.s d).trans (hb.mono (b.s d).size)) (λj u _ _ h=>h.keep hb) (Sp.none.2 E) (λ_=>⟨t,_,_,zFv _,zFv _,B⟩) λ_ _ _ _ _ _ _ _ _ h=>Fr.old hb h
theorem ay.gk (l x:List Nat) (c:(mg ops n R p o l x&&(List.range n).all λj=> !Fr.on j)=true)
  (h:∀(K:Act->World->Prop) (a:Act) (w:World),Below W W w->kU ops a0 a x->Facts ops (λk v w=>(R k).holds v w) a w l->(∀v w',G w'->w.heap.size<=w'.heap.size->(∀j,Kp j=true->∀u,(R j).holds u w->(R j).holds u w')->(R p).holds v w'->K (a.put o.dst v) w')->o.wp P a w K Q):ay Kp P Q ops n Fr a0 W G p R p o:=by
 intro r A K L a w d b t y;unfold mg at c;simp only[zFn]at c;obtain⟨⟨⟨E,D⟩,z⟩,B⟩:=c;have i:∀j,j<n->Fr.on j=false:=λj f=>by simpa using zGu.1 B j (zHq.2 f)
 rw[zF3 (d.wanted r t E)];have m:=d.facts r t D;rw[b]at m;rw[zKp,Bool.or_true]at y
 exact h K a w (d.s b) (d.qG z) m.none λv w' q e g F=>y v w' e q (λe=>by cases e) (λj u f C h=>by
  rw[b]at h;refine h.grow f (zH6.2 λq=>?_) (λH=>g j H u);cases hoj:ops[j]? with
  |none=>exact absurd q (by rw[BQ hoj];decide)
  |some g=>have:=jC hoj q d.closed (d.closed j g hoj C);rw[b]at this;cases this) (Sp.self.2 F) (λe=>by rw[i p A]at e;cases e) λj _ _ _ f _ _ h=>by rw[i j f]at h;cases h
theorem ay.gj (l x:List Nat) (c:(mg ops n R p o l x&& !Fr.on p)=true)
  (h:∀(K:Act->World->Prop) (a:Act) (w:World),Below W W w->kU ops a0 a x->Facts ops (λk v w=>(R k).holds v w) a w l->(∀v w',G w'->w.heap.size<=w'.heap.size->(∀j,Kp j=true->∀u,(R j).holds u w->(R j).holds u w')->(∀j f d u,Fr.on j=true->dP ops a j u->Fr.J false j f d u w->Fr.J true j f d u w')->(R p).holds v w'->K (a.put o.dst v) w')->o.wp P a w K Q):ay Kp P Q ops n Fr a0 W G p R p o:=by
 intro r I K L a w d b t y;unfold mg at c;simp only[zFn,zHx]at c;obtain⟨⟨⟨F,D⟩,z⟩,A⟩:=c;rw[zF3 (d.wanted r t F)];have m:=d.facts r t D;rw[b]at m;rw[zKp,Bool.or_true]at y
 exact h K a w (d.s b) (d.qG z) m.none λv w' i e g C H=>y v w' e i (λe=>by cases e) (λj u i B h=>by
  rw[b]at h;refine h.grow i (zH6.2 λq=>?_) (λE=>g j E u);cases hoj:ops[j]? with
  |none=>exact absurd q (by rw[BQ hoj];decide)
  |some E=>have:=jC hoj q d.closed (d.closed j E hoj B);rw[b]at this;cases this) (Sp.self.2 H) (λe=>by rw[A]at e;cases e) λj f d u i _ _ H g h=>by rw[b]at h;exact C j f d u H g h
theorem ay.g (l b:List Nat) (c:(mg ops n R p o l b&&(List.range n).all λj=> !Fr.on j)=true)
  (h:∀(K:Act->World->Prop) (a:Act) (w:World),Below W W w->kU ops a0 a b->Facts ops (λk v w=>(R k).holds v w) a w l->(∀v w',G w'->w.heap.size<=w'.heap.size->(R p).holds v w'->K (a.put o.dst v) w')->o.wp P a w K Q):ay (λ_=>false) P Q ops n Fr a0 W G p R p o:=
 ay.gk l b c λK a w d e f i=>h K a w d e f λv w' d e f=>i v w' d e (λ_ e=>by cases e) f
theorem ay.kept (y:∀w w',G w->Below w.heap.size w w'->G w') (l j:List Nat) (c:(mg ops n R k o l j&& !Fr.on k&&(k !=p))=true)
  (h:∀(K:Act->World->Prop) (a:Act) (w:World),G w->kU ops a0 a j->(∃b,Facts ops (Sp Kp ops p R b) a w l)->(∀v w',Below w.heap.size w w'->(R k).holds v w'->K (a.put o.dst v) w')->o.wp P a w K Q):ay Kp P Q ops n Fr a0 W G p R k o:=by
 intro f A K L a w d s i z;unfold mg at c;simp only[zFn,zHx,zG1,ne_eq]at c;obtain⟨⟨⟨⟨x,t⟩,r⟩,m⟩,u⟩:=c;rw[zF3 (d.wanted f i x)];refine h K a w d.g (d.qG r) ⟨_,d.facts f i t⟩ λv w' hb e=>d.goes y (zFz.2 u) m z hb ?_
 unfold Sp;cases hR:R k with
 |is X=>rw[hR]at e;exact e
 |any=>trivial
 |st q B=>rw[hR]at e;exact .inr e
theorem ay.a (y:∀w w',G w->Below w.heap.size w w'->G w') (l j:List Nat) (c:(mg ops n R k o l j&&QF (R k)&& !Fr.on k&&(k !=p))=true)
  (h:∀(K:Act->World->Prop) (a:Act) (w:World),G w->kU ops a0 a j->(∃b,Facts ops (Sp Kp ops p R b) a w l)->(∀w',Below w.heap.size w w'->K (a.put o.dst (R k).v) w')->o.wp P a w K Q):ay Kp P Q ops n Fr a0 W G p R k o:=by
 intro f A K L a w d s i z;unfold mg at c;simp only[zFn,zHx,zG1,ne_eq]at c;obtain⟨⟨⟨⟨⟨x,t⟩,r⟩,e⟩,m⟩,u⟩:=c;rw[zF3 (d.wanted f i x)];refine h K a w d.g (d.qG r) ⟨_,d.facts f i t⟩ λw' hb=>d.goes y (zFz.2 u) m z hb ?_
 unfold Sp;cases hR:R k with
 |is X=>rfl
 |any=>trivial
 |st q B=>rw[hR]at e;cases e
theorem ay.q (z:∀w w',G w->Below w.heap.size w w'->G w') (l j:List Nat) (c:(mg ops n R k o l j&&waits ops k p&&decide (p<n)&& !Fr.on k&&(k !=p))=true)
  (h:∀(K:Act->World->Prop) (a:Act) (w:World),G w->kU ops a0 a j->Facts ops (Sp Kp ops p R true) a w l->(∀v w',Below w.heap.size w w'->(R k).holds v w'->K (a.put o.dst v) w')->o.wp P a w K Q):ay Kp P Q ops n Fr a0 W G p R k o:=by
 intro d C K L a w b s e B;unfold mg at c;simp only[zFn,zHx,zG1,ne_eq,zF9]at c;obtain⟨⟨⟨⟨⟨⟨y,t⟩,r⟩,f⟩,D⟩,m⟩,u⟩:=c;rw[zF3 (b.wanted d e y)];have x:=jC d f b.closed e;have i:=b.facts d e t;rw[x]at i;exact h K a w b.g (b.qG r) i λv w' hb A=>b.goes z (zFz.2 u) m B hb ((Sp.post f).2 A)
theorem uU.c {l:List Oper} (h:ay Kp P Q ops n Fr a0 W G p R k o) (a:uU Kp P Q ops n Fr a0 W G p R (k+1) l):uU Kp P Q ops n Fr a0 W G p R k (o::l):=⟨h,a⟩
theorem uU.nil:uU Kp P Q ops n Fr a0 W G p R k []:=trivial
theorem aA {a:Act} {w:World} {j d:Nat} {S:Spec} {X:Value} (h:∃v,dP ops a j v/\S.holds v w) (e:S=.is X) (f:(ops[j]?).bind (·.dst)=some d):a.tmps[d]? =some X:=by
 obtain⟨v,b,c⟩:=h;subst e;have c:v=X:=c;subst c;unfold dP at b;rw[f]at b;exact b
theorem fif {a:Act} {w:World} {j d:Nat} {S:Spec} {X:Value} {q:Bool} (h:∃v,dP ops a j v/\S.holds v w) (b:S=.is (bif q then X else undef)) (c:q=true) (e:(ops[j]?).bind (·.dst)=some d):a.tmps[d]? =some X:=by
 subst c;exact aA h b e
theorem QG {a:Act} {w:World} {b:Bool} {j d:Nat} {X:Value} (h:∃v,dP ops a j v/\Sp Kp ops p R b j v w) (f:R j=.is X) (g:(ops[j]?).bind (·.dst)=some d):a.tmps[d]? =some X:=by
 obtain⟨v,e,c⟩:=h;unfold Sp at c;rw[f]at c;have c:v=X:=c;subst c;unfold dP at e;rw[g]at e;exact e
end
section
variable {a0:Act} {W:World} {Rl:List Spec} {k:Nat} {o:Oper}
abbrev AllB (P:Program) (Q:Exit->Act->World->Prop) (ops:Array Oper) (Fr:Nat->Bool) (a0:Act) (W:World) (Rl:List Spec) (k:Nat) (l:List Oper):Prop:=uU (λ_=>false) P Q ops Rl.length (frB Fr) a0 W (λw=>Below W W w) ops.size (λk=>Rl.getD k .any) k l
abbrev StepB (P:Program) (Q:Exit->Act->World->Prop) (ops:Array Oper) (Fr:Nat->Bool) (a0:Act) (W:World) (Rl:List Spec) (k:Nat) (o:Oper):Prop:=ay (λ_=>false) P Q ops Rl.length (frB Fr) a0 W (λw=>Below W W w) ops.size (λk=>Rl.getD k .any) k o
abbrev BR (ops:Array Oper) (Fr:Nat->Bool) (Rl:List Spec) (sp:List Nat):Bool:=(List.range Rl.length).all λk=>sp.contains k||fine ops Rl.length Fr ops.size (λk=>Rl.getD k .any) k
theorem bG (w w':World) (h:Below W W w) (hb:Below w w w'):Below W W w':=h.trans (hb.mono h.size)
theorem px {Fr:Nat->Bool} {b:List Nat} (c:BR ops Fr Rl b=true) (a:b.contains k=false) (h:∀w,Below W W w->(execOp (rho ops Rl.length (λk=>Rl.getD k .any) a0) o).run P w=.ok (.value (Rl.getD k .any).v) w):StepB P Q ops Fr a0 W Rl k o:=ay.x bG c a h
theorem pz {Fr:Nat->Bool} (l b:List Nat) (c:(mg ops Rl.length (λk=>Rl.getD k .any) k o l b&&before ops Rl.length ops.size k&& !Fr k&&(k !=ops.size))=true)
  (h:∀(K:Act->World->Prop) (a:Act) (w:World),Below W W w->kU ops a0 a b->Facts ops (λk v w=>(Rl.getD k .any).holds v w) a w l->(∀v w',Below w.heap.size w w'->(Rl.getD k .any).holds v w'->K (a.put o.dst v) w')->o.wp P a w K Q):StepB P Q ops Fr a0 W Rl k o:=ay.z bG l b c h
theorem pf {Fr:Nat->Bool} (l b:List Nat) (c:(mg ops Rl.length (λk=>Rl.getD k .any) k o l b&&before ops Rl.length ops.size k&&o.dst.isSome&&(k !=ops.size))=true)
  (h:∀(K:Act->World->Prop) (a:Act) (w:World),Below W W w->kU ops a0 a b->Facts ops (λk v w=>(Rl.getD k .any).holds v w) a w l->(∀v w',Below w.heap.size w w'->(Rl.getD k .any).holds v w'->(∃g,uk v=some g/\w.heap.size<=g/\g<w'.heap.size)->K (a.put o.dst v) w')->o.wp P a w K Q):StepB P Q ops Fr a0 W Rl k o:=ay.fj bG l b c h
theorem po {Fr:Nat->Bool} {X:Value} (l f:List Nat) (g:Nat) (b:Bool) {e:Bool} (m:o.guard=some (g,b)) (n:Rl.getD g .any=.is (.bool e)) (i:Rl.getD k .any=.is (bif (true&&(e==b))then X else undef))
  (c:(decide (g<Rl.length)&&waits ops k g&&((ops[g]?).bind (·.dst)).isSome&&(l.all λj=>decide (j<Rl.length)&&waits ops k j)&&(f.all λd=>(vH ops Rl.length d).isNone)&&before ops Rl.length ops.size k&& !Fr k&&(k !=ops.size))=true)
  (h:e=b->(true&&(e==b))=true->∀(K:Act->World->Prop) (a:Act) (w:World),Below W W w->kU ops a0 a f->Facts ops (λk v w=>(Rl.getD k .any).holds v w) a w l->(∀v w',Below w.heap.size w w'->v=X->K (a.put o.dst v) w')->o.wp P a w K Q):StepB P Q ops Fr a0 W Rl k o:=ay.t bG l f g b m n i c h
theorem wx {p:Nat} (Fr:Nat->Bool) (Rl:List Spec) (n:List Nat) (r:P.follows .mixedOrders=true) (s:(iU ops a0.tmps.size&&kN ops Rl.length&&decide (Rl.length<=ops.size))=true) (u:BR ops Fr Rl n=true)
  (a:BR ops Fr Rl n=true->AllB P Q ops Fr a0 W Rl 0 (ops.toList.take Rl.length))
  (b:∀(x:Nat->Value) (w:World),Below W W w->(∀(k:Nat) {q:Value->World->Prop} {h:∀v w w',Below w.heap.size w w'->q v w->q v w'},Rl.getD k .any=.st q h->(decide (k<Rl.length)&&(k==ops.size||decide (Rl.length<=ops.size)||waits ops k ops.size))=true->q (x k) w)->
   (∀j k,j<Rl.length->k<Rl.length->j≠k->Fr j=true->Fr k=true->uk (x j)≠uk (x k))->wpList P ops Q (ops.toList.drop Rl.length) (bJ Rl x 0 (ops.toList.take Rl.length) a0) w):
  (Code.region p ops true).wp P Q a0 W:=mf ops.size _ (frB Fr) Rl r s (λ_ h=>h) (a u) λx w d f ⟨I,o,z⟩=>b x w d (λk _ _ e c=>f k e (.inl c)) λj k i l e f m d=>by
 obtain⟨_,g,t,E,A⟩:=o j i f;obtain⟨_,D,y,C,B⟩:=o k l m;rw[t,y]at d;injection d with d
 rcases z j k i l e f m with h|h<;>omega
end
theorem bc {w w':World} {b o:Nat} {v:Value} (hb:Below w w w') (h:w.cell? ⟨b,o,none⟩=some v):w'.cell? ⟨b,o,none⟩=some v:=zE hb h
theorem bH {r:Operand->Value} {d:Option Tmp} {t:TypeId} {x:Operand} {a:TypeId} {ps:String} {b:Array Edge} {c:Option (Nat×Bool)} {w:World} {v:Value} (h:(Instr.loadAt t (r x)).run P w=.ok v w):(execOp r {dst:=d,op:=.load t x,type:=a,pos:=ps,after:=b,guard:=c}).run P w=.ok (.value v) w:=by
 simp[execOp,h]
theorem zM {a:Act} {w:World} (h:Q .normal a w):wpList P ops Q [] a w:=h
theorem below_grown {w w':World} (h:Below w w w') (a:Option Nat):w.grownBy w' a:=⟨h.os,h.tape,h.output,h.size,λk b _=>h.block k b⟩
theorem rG {W:World} (a:Option Nat) (w w':World) (h:W.grownBy w a) (hb:Below w w w'):W.grownBy w' a:=zKx h (below_grown hb a)
theorem wi {i:Nat} {a0:Act} {W:World} (F:Zm) (Rl:List Spec) (d:List Nat) (g:P.follows .mixedOrders=true) (f:(iU ops a0.tmps.size&&kN ops Rl.length&&decide (Rl.length<=ops.size))=true) (l:BR ops F.on Rl d=true)
  (b:BR ops F.on Rl d=true->uU (λ_=>false) P Q ops Rl.length F a0 W (λw=>Below W W w) ops.size (λk=>Rl.getD k .any) 0 (ops.toList.take Rl.length))
  (a:∀(x:Nat->Value) (w:World),Below W W w->(∀(k:Nat) {q:Value->World->Prop} {h:∀v w w',Below w.heap.size w w'->q v w->q v w'},Rl.getD k .any=.st q h->(decide (k<Rl.length)&&(k==ops.size||decide (Rl.length<=ops.size)||waits ops k ops.size))=true->q (x k) w)->
   (∃I:Nat->Nat×Nat,(∀k,k<Rl.length->F.on k=true->(I k).2<=w.heap.size/\F.J false k (I k).1 (I k).2 (x k) w)/\∀j k,j<Rl.length->k<Rl.length->j≠k->F.on j=true->F.on k=true->(I j).2<=(I k).1\/(I k).2<=(I j).1)->wpList P ops Q (ops.toList.drop Rl.length) (bJ Rl x 0 (ops.toList.take Rl.length) a0) w):
  (Code.region i ops true).wp P Q a0 W:=mf ops.size _ F Rl g f (λ_ h=>h) (b l) λx w e m h=>a x w e (λk _ _ e c=>m k e (.inl c)) (by
 have e:decide (ops.size<Rl.length)=false:=by
  simp only[zFn,zF9]at f;exact zGf (by omega)
 rwa [e]at h)
theorem wg {i:Nat} {a0:Act} {W:World} (p:Nat) (G:World->Prop) (Rl:List Spec) (d:List Nat) (l:∀w,Below W W w->G w) (f:P.follows .mixedOrders=true) (g:(iU ops a0.tmps.size&&kN ops Rl.length&&decide (Rl.length<=ops.size))=true)
  (j:((List.range Rl.length).all λk=>d.contains k||fine ops Rl.length (λ_=>false) p (λk=>Rl.getD k .any) k)=true)
  (b:((List.range Rl.length).all λk=>d.contains k||fine ops Rl.length (λ_=>false) p (λk=>Rl.getD k .any) k)=true->uU (λ_=>false) P Q ops Rl.length (frB λ_=>false) a0 W G p (λk=>Rl.getD k .any) 0 (ops.toList.take Rl.length))
  (a:∀(x:Nat->Value) (w:World),G w->(∀(k:Nat) {q:Value->World->Prop} {h:∀v w w',Below w.heap.size w w'->q v w->q v w'},Rl.getD k .any=.st q h->(decide (k<Rl.length)&&(k==p||decide (Rl.length<=p)||waits ops k p))=true->q (x k) w)->wpList P ops Q (ops.toList.drop Rl.length) (bJ Rl x 0 (ops.toList.take Rl.length) a0) w):
  (Code.region i ops true).wp P Q a0 W:=mf p G _ Rl f g l (b j) λx w e h _=>a x w e λk _ _ e c=>h k e (.inl c)
abbrev O4 (ops:Array Oper) (p:Nat) (Rl:List Spec) (sp:List Nat):Bool:=(List.range Rl.length).all λk=>sp.contains k||fine ops Rl.length (λ_=>false) p (λk=>Rl.getD k .any) k
theorem wr {g:Nat} {a0:Act} {W:World} (p:Nat) (a:Option Nat) (Rl:List Spec) (d:List Nat) (e:P.follows .mixedOrders=true) (f:(iU ops a0.tmps.size&&kN ops Rl.length&&decide (Rl.length<=ops.size))=true) (i:O4 ops p Rl d=true)
  (c:O4 ops p Rl d=true->uU (λ_=>false) P Q ops Rl.length (frB λ_=>false) a0 W (λw=>W.grownBy w a) p (λk=>Rl.getD k .any) 0 (ops.toList.take Rl.length))
  (b:∀(x:Nat->Value) (w:World),W.grownBy w a->(∀(k:Nat) {q:Value->World->Prop} {h:∀v w w',Below w.heap.size w w'->q v w->q v w'},Rl.getD k .any=.st q h->(decide (k<Rl.length)&&(k==p||decide (Rl.length<=p)||waits ops k p))=true->q (x k) w)->wpList P ops Q (ops.toList.drop Rl.length) (bJ Rl x 0 (ops.toList.take Rl.length) a0) w):
  (Code.region g ops true).wp P Q a0 W:=wg p _ Rl d (λw h=>below_grown h a) e f i c b
theorem wj {i:Nat} {a0:Act} {W:World} (F:Zm) (p:Nat) (a:Option Nat) (Rl:List Spec) (d:List Nat) (e:P.follows .mixedOrders=true) (f:(iU ops a0.tmps.size&&kN ops Rl.length&&decide (Rl.length<=ops.size))=true) (l:((List.range Rl.length).all λk=>d.contains k||fine ops Rl.length F.on p (λk=>Rl.getD k .any) k)=true)
  (c:((List.range Rl.length).all λk=>d.contains k||fine ops Rl.length F.on p (λk=>Rl.getD k .any) k)=true->uU (λ_=>false) P Q ops Rl.length F a0 W (λw=>W.grownBy w a) p (λk=>Rl.getD k .any) 0 (ops.toList.take Rl.length))
  (b:∀(x:Nat->Value) (w:World),W.grownBy w a->(∃I:Nat->Nat×Nat,(∀k,k<Rl.length->F.on k=true->(I k).2<=w.heap.size/\F.J (decide (p<Rl.length)) k (I k).1 (I k).2 (x k) w)/\∀j k,j<Rl.length->k<Rl.length->j≠k->F.on j=true->F.on k=true->(I j).2<=(I k).1\/(I k).2<=(I j).1)->wpList P ops Q (ops.toList.drop Rl.length) (bJ Rl x 0 (ops.toList.take Rl.length) a0) w):
  (Code.region i ops true).wp P Q a0 W:=mf p _ F Rl e f (λw h=>below_grown h a) (c l) λx w g _ h=>b x w g h
theorem wk {l:Nat} {a0:Act} {W:World} (Kp:Nat->Bool) (p:Nat) (a:Option Nat) (Rl:List Spec) (f:List Nat) (g:P.follows .mixedOrders=true) (i:(iU ops a0.tmps.size&&kN ops Rl.length&&decide (Rl.length<=ops.size))=true) (m:O4 ops p Rl f=true)
  (d:O4 ops p Rl f=true->uU Kp P Q ops Rl.length (frB λ_=>false) a0 W (λw=>W.grownBy w a) p (λk=>Rl.getD k .any) 0 (ops.toList.take Rl.length))
  (b:∀(x:Nat->Value) (w:World),W.grownBy w a->(∀(k:Nat) {q:Value->World->Prop} {h:∀v w w',Below w.heap.size w w'->q v w->q v w'},Rl.getD k .any=.st q h->(decide (k<Rl.length)&&(k==p||decide (Rl.length<=p)||waits ops k p||Kp k))=true->q (x k) w)->wpList P ops Q (ops.toList.drop Rl.length) (bJ Rl x 0 (ops.toList.take Rl.length) a0) w):
  (Code.region l ops true).wp P Q a0 W:=mf p _ _ Rl g i (λw h=>below_grown h a) (d m) λx w e j _=>b x w e λk _ _ e c=>j k e (by
 simp only[zFn,zG8,zF9]at c⊢
 exact c.2.imp (λh=>⟨c.1,h⟩) λh=>⟨c.1,h⟩)
end
end
end Go.Proofs.YtbjnhllkdilpfaaGreat
