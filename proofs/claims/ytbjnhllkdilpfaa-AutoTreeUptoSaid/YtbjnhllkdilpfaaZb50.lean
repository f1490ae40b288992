/- Part 50 of the proof. No conditions. -/
import Derived.Test.YtbjnhllkdilpfaaZb49
namespace Go.Proofs.Ytbjnhllkdilpfaa
open Go.ChangeShapes Go.WideShapes Go.ChangeAt Go.RowKit
section
variable {H:Type} (enc:TypeId×Value->H) (P:Program) (w:World)
def uZ (N:Nat) (t:TypeId) (R:List Value->Prop):Prop:=
 ∀fuel,fuel<=N->∀(cs:List Value) (y:DataW H×List MemPlace),DataW.trod enc P w 0 (fun _=>true) true fuel t cs=some y->(y.1.weights P t).all (·<=reachBytes)=true->R cs
variable {enc P w} {N:Nat} {t:TypeId} {R R':List Value->Prop}
theorem uZ.imp (h:uZ enc P w N t R) (hr:∀cs,R cs->R' cs):uZ enc P w N t R':=fun fuel hf cs y hy hw=>hr _ (h fuel hf cs y hy hw)
theorem CZ {k:IntKind} (ht:P.underlying t=some (.int k)):uZ enc P w N t (fun cs=>∃n,cs=[.int k n]/\(Lit.int k n).wf=true):=by
 intro fuel _ cs y hy _;obtain⟨n,h1,_,h2⟩:=DataW.trod_int ht hy;exact⟨n,h1,h2⟩
theorem Jb (ht:P.underlying t=some .bool):uZ enc P w N t (fun cs=>∃b,cs=[.bool b]):=by
 intro fuel _ cs y hy _;obtain⟨b,h1,_⟩:=DataW.trod_bool ht hy;exact⟨b,h1⟩
theorem xH {e:TypeId}:∀{l:List (DataW H)},(DataW.weightsAll P e l).all (·<=reachBytes)=true->∀d∈l,(d.weights P e).all (·<=reachBytes)=true
 |[],_,d,hd=>by cases hd
 |x::l,h,d,hd=>by
  simp only[DataW.weightsAll,List.all_append,Bool.and_eq_true]at h;rcases List.mem_cons.1 hd with rfl|hd
  ·exact h.1
  ·exact xH h.2 d hd
theorem ve:∀{ts:List TypeId} {l:List (DataW H)} {i:Nat} {t:TypeId} {d:DataW H},(DataW.weightsEach P ts l).all (·<=reachBytes)=true->ts[i]? =some t->l[i]? =some d->(d.weights P t).all (·<=reachBytes)=true
 |t0::ts,d0::l,0,t,d,h,ht,hd=>by
  simp only[DataW.weightsEach,List.all_append,Bool.and_eq_true]at h;simp only[List.getElem?_cons_zero,Option.some.injEq]at ht hd;subst ht;subst hd;exact h.1
 |t0::ts,d0::l,i+1,t,d,h,ht,hd=>by
  simp only[DataW.weightsEach,List.all_append,Bool.and_eq_true]at h;simp only[List.getElem?_cons_succ]at ht hd;exact ve h.2 ht hd
 |[],_,_,_,_,_,ht,_=>by simp at ht
 |_::_,[],_,_,_,_,_,hd=>by simp at hd
end
section
variable {H:Type} {enc:TypeId×Value->H} {P:Program} {w:World} {N:Nat} {t:TypeId}
end
section
variable {H:Type} {enc:TypeId×Value->H} {P:Program} {w:World} {N:Nat} {t:TypeId} {R R':List Value->Prop}
theorem uZ.arg (h:∀N,uZ enc P w N t R) {v:Value} {d:DataW H} {p:List MemPlace} (ht:DataW.Trod enc P w 0 (fun _=>true) true t v d p) (hw:(d.weights P t).all (·<=reachBytes)=true):R v.cells.toList:=by
 obtain⟨fuel,hf⟩:=ht;exact h fuel fuel zL _ _ hf hw
end
theorem C9 {H:Type} {d:DataW H} {l:List (DataW H)} (h:d∈l):Rows.uptoBulk d<=Rows.uptoBulkAll l:=by
 induction l with
 |nil=>cases h
 |cons x r ih=>
  simp only[Rows.uptoBulkAll];cases List.mem_cons.1 h with
  |inl e=>subst e;omega
  |inr e=>have:=ih e;omega
theorem Qe {H:Type} (d:DataW H):1<=Rows.uptoBulk d:=by
 cases d with
 |lit l=>cases l<;>simp[Rows.uptoBulk]
 |nil=>simp[Rows.uptoBulk]
 |ptr d=>simp[Rows.uptoBulk]
 |slice elems spare=>simp[Rows.uptoBulk]
 |agg parts=>simp[Rows.uptoBulk]
 |iface t d=>simp[Rows.uptoBulk]
 |map entries=>simp[Rows.uptoBulk]
 |held h=>simp[Rows.uptoBulk]
theorem Qg {H:Type} (l:List (DataW H)):l.length<=Rows.uptoBulkAll l:=by
 induction l with
 |nil=>simp[Rows.uptoBulkAll]
 |cons x r ih=>have:=Qe x;simp only[Rows.uptoBulkAll,List.length_cons];omega
section
variable {H:Type} (enc:TypeId×Value->H) (P:Program) (w:World)
def fG (N:Nat) (t:TypeId) (R:List Value->Prop):Prop:=
 ∀fuel,fuel<=N->∀(cs:List Value) (y:DataW H×List MemPlace),DataW.trod enc P w 0 (fun _=>true) true fuel t cs=some y->(y.1.weights P t).all (·<=reachBytes)=true->Rows.uptoBulk y.1<=1048576->R cs
variable {enc P w} {N:Nat} {t:TypeId} {R R':List Value->Prop}
theorem fG.imp (h:fG enc P w N t R) (hr:∀cs,R cs->R' cs):fG enc P w N t R':=fun fuel hf cs y hy hw hb=>hr _ (h fuel hf cs y hy hw hb)
theorem uZ.b (h:uZ enc P w N t R):fG enc P w N t R:=fun fuel hf cs y hy hw _=>h fuel hf cs y hy hw
theorem kH:fG enc P w 0 t R:=by
 intro fuel hf cs y hy;obtain rfl:fuel=0:=by omega
 simp[DataW.trod]at hy
theorem ny {fs : Array Field} {ts : List (TypeId × Nat)} (ht : P.underlying t = some (.struct fs)) (h : fs.toList.map (fun f => (f.type, f.offset)) = ts) {F : Nat → List Value → Prop}
  (hF:∀(i:Nat) (p:TypeId×Nat),ts[i]? =some p->fG enc P w N p.1 (F i)):
  fG enc P w (N+1) t (fun cs=>cs.length=P.cellsOf t/\∀(i:Nat) (p:TypeId×Nat),ts[i]? =some p->F i ((cs.drop p.2).take (P.cellsOf p.1))):=by
 intro fuel hf cs y hy hw hb;obtain⟨xs,n,hn,hx,hl,hlx,hg⟩:=DataW.trod_struct ht hy;subst hx;refine⟨hl,fun i p hi=>?_⟩;rw[<-h,List.getElem?_map]at hi;obtain⟨f,hfi,rfl⟩:=Option.map_eq_some_iff.1 hi;have hfi:fs[i]? =some f:=by simpa using hfi
 have hlt:i<fs.size:=(Array.getElem?_eq_some_iff.1 hfi).1;have hy:=hg i f hfi;rw[List.getElem?_eq_getElem (by omega)]at hy;refine hF i (f.type,f.offset) (by rw[<-h,List.getElem?_map];simp[hfi]) n (by omega) _ _ hy ?_ ?_
 ·simp only[DataW.weights,ht]at hw;refine ve hw (i:=i) ?_ ?_
  ·rw[List.getElem?_map];have:fs.toList[i]? =some f:=by simpa using hfi
   rw[this];rfl
  ·rw[List.getElem?_map,List.getElem?_eq_getElem (by omega)];rfl
 ·simp only[Rows.uptoBulk]at hb;have:=C9 (List.mem_map_of_mem (f:=fun x:DataW H×List MemPlace=>x.1) (List.getElem_mem (l:=xs) (by omega:i<xs.length)));omega
theorem vg {e : TypeId} {n : Nat} {α : Type} {f : α → List Value} {Q : α → Prop} (ht : P.underlying t = some (.slice e)) (hn : P.cellsOf e = n) (hpos : 0 < n) (hlen : ∀ x, (f x).length = n)
  (he:fG enc P w N e (fun cs=>∃x,cs=f x/\Q x)):
  fG enc P w (N+1) t (fun cs=>∃(A:Option Addr) (c:Nat) (l:List α),cs=[.slice A l.length c]/\l.length<=c/\l.length<=1048576/\Rd w w.heap.size A (l.flatMap f)/\∀x∈l,Q x):=by
 intro fuel hf cs y hy hw hbk;rcases DataW.trod_slice ht hy with⟨hcs,_⟩|⟨a,len,cap,elems,rest,m,hm,hcs,hx,_,hlc,_,hel,hcell,hsp,_⟩
 ·exact⟨none,0,[],hcs,Nat.le_refl _,by simp,Rd.nil,by simp⟩
 subst hx;simp only[DataW.weights,ht,List.all_cons,List.all_append,Bool.and_eq_true]at hw;obtain⟨hw0,hw1,hw2⟩:=hw;simp only[Rows.uptoBulk]at hbk;have hlb:=Qg (elems.map (·.1));rw[List.length_map]at hlb
 have each:∀i,i<len->∃x:α,w.cells? 0 (a.add (i*n)) n=some (f x)/\Q x:=by
  intro i hi;have h1:=hcell i hi;rw[List.getElem?_eq_getElem (by omega),hn]at h1;obtain⟨cs',h2,h3⟩:=Option.bind_eq_some_iff.1 h1;have hmem:=List.mem_map_of_mem (f:=fun x:DataW H×List MemPlace=>x.1) (List.getElem_mem (l:=elems) (by omega:i<elems.length));obtain⟨x,rfl,hq⟩:=he m (by omega) cs' _ h3 (xH hw1 _ hmem) (by have:=C9 hmem;omega);exact⟨x,h2,hq⟩
 obtain⟨l,hl,hall⟩:∃l:List α,l.length=len/\∀i (hi:i<l.length),w.cells? 0 (a.add (i*n)) n=some (f l[i])/\Q l[i]:=by
  refine⟨(List.range len).attach.map fun i=>(each i.1 (List.mem_range.1 i.2)).choose,by simp,fun i hi=>?_⟩;simp only[List.getElem_map,List.getElem_attach,List.getElem_range];exact(each i (by simpa using hi)).choose_spec
 subst hl;refine⟨some a,cap,l,hcs,hlc,by omega,?_,?_⟩
 ·rcases Nat.eq_zero_or_pos l.length with h0|h0
  ·have:l=[]:=List.eq_nil_of_length_eq_zero h0;subst this;exact .inl rfl
  have h00:=World.cells?_some (hall 0 h0).1;have hv:=h00.2.2 0 hpos;rw[List.getElem?_eq_getElem (by rw[hlen];exact hpos)]at hv;have ha:(a.add (0*n)).add 0=a:=by simp[Addr.add]
  rw[ha]at hv;have hblk:=World.block_lt_of_cell? w a hv
  have hspot:a.spot=none:=by
   unfold World.cell? at hv
   split at hv
   ·split at hv
    ·cases hv
    ·rename_i h;simpa using h
   ·cases hv
  obtain⟨blk,off,sp⟩:=a;simp only at hspot hblk;subst hspot;refine .inr ⟨blk,off,rfl,hblk,fun j u hu=>?_⟩;have hj:j<l.length*n:=by have:=(List.getElem?_eq_some_iff.1 hu).1;rwa [yK f hlen]at this
  have hdm:j=j/n*n+j%n:=by rw[Nat.mul_comm];exact(Nat.div_add_mod j n).symm
  have hq:j/n<l.length:=(Nat.div_lt_iff_lt_mul hpos).2 hj;have hr:j%n<n:=Nat.mod_lt _ hpos;have hfl:=Jd f hlen l (j/n) (j%n) hq hr;rw[<-hdm,hu]at hfl;have hc:=(World.cells?_some (hall (j/n) hq).1).2.2 (j%n) hr;rw[<-hfl,Deep.add_add]at hc
  have e:((⟨blk,off,none⟩:Addr).add (j/n*n+j%n))=⟨blk,off+j,none⟩:=by
   rw[<-hdm];unfold Addr.add
   by_cases h:j=0<;>simp[h]
  rw[e]at hc;exact hc
 ·intro x hx;obtain⟨i,hi,rfl⟩:=List.mem_iff_getElem.1 hx;exact(hall i hi).2
theorem fG.arg (h:∀N,fG enc P w N t R) {v:Value} {d:DataW H} {p:List MemPlace} (ht:DataW.Trod enc P w 0 (fun _=>true) true t v d p) (hw:(d.weights P t).all (·<=reachBytes)=true) (hb:Rows.uptoBulk d<=1048576):R v.cells.toList:=by
 obtain⟨fuel,hf⟩:=ht;exact h fuel fuel zL _ _ hf hw hb
end
end Go.Proofs.Ytbjnhllkdilpfaa
