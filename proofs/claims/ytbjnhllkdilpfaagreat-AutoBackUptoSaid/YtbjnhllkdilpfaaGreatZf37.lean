/- Part 37 of the proof. No conditions. -/
import Derived.Test.YtbjnhllkdilpfaaGreatZf36
set_option linter.unusedVariables false
set_option linter.unusedSimpArgs false
namespace Go.Proofs.YtbjnhllkdilpfaaGreat
open Go.ChangeShapes Go.WideShapes Go.ChangeAt Go.RowKit
section
variable {H:Type} (enc:TypeId×Value->H) (P:Program) (w:World)
def lC (N:Nat) (t:TypeId) (R:List Value->Prop):Prop:=
 ∀fuel,fuel<=N->∀(cs:List Value) (y:DataW H×List MemPlace),DataW.trod enc P w 0 (λ_=>true) true fuel t cs=some y->(y.1.weights P t).all (·<=reachBytes)=true->R cs
variable {enc P w} {N:Nat} {t:TypeId} {R R':List Value->Prop}
theorem lC.imp (h:lC enc P w N t R) (e:∀cs,R cs->R' cs):lC enc P w N t R':=λa c cs y b d=>e _ (h a c cs y b d)
theorem SN {k:IntKind} (d:P.underlying t=some (.int k)):lC enc P w N t (λcs=>∃n,cs=[.int k n]/\(Lit.int k n).wf=true):=by
 intro a _ cs y b _;obtain⟨n,c,_,e⟩:=DataW.trod_int d b;exact⟨n,c,e⟩
theorem rO (d:P.underlying t=some .string):lC enc P w N t (λcs=>∃s:ByteArray,cs=[.string s]/\s.size<=140737488351232):=by
 intro a _ cs y b e;obtain⟨s,c,f,_⟩:=DataW.trod_string d b;subst f;refine⟨s,c,?_⟩;have:=zGu.1 e s.data.toList.length (by simp[DataW.weights]);rw[Array.length_toList]at this;exact zJz this
theorem uh {e:TypeId}:∀{l:List (DataW H)},(DataW.weightsAll P e l).all (·<=reachBytes)=true->∀d∈l,(d.weights P e).all (·<=reachBytes)=true
 |[],_,d,a=>by cases a
 |x::l,h,d,a=>by
  simp only[DataW.weightsAll,zKd,zFn]at h;rcases zF6.1 a with rfl|a
  ·exact h.1
  exact uh h.2 d a
theorem rP:∀{c:List TypeId} {l:List (DataW H)} {i:Nat} {t:TypeId} {d:DataW H},(DataW.weightsEach P c l).all (·<=reachBytes)=true->c[i]? =some t->l[i]? =some d->(d.weights P t).all (·<=reachBytes)=true
 |e::c,f::l,0,t,d,h,a,b=>by
  simp only[DataW.weightsEach,zKd,zFn]at h;simp only[zGe,zJ0]at a b;subst a;subst b;exact h.1
 |e::c,f::l,i+1,t,d,h,a,b=>by
  simp only[DataW.weightsEach,zKd,zFn]at h;simp only[zGg]at a b;exact rP h.2 a b
 |[],_,_,_,_,_,a,_=>by simp at a
 |_::_,[],_,_,_,_,_,b=>by simp at b
theorem Il {a:Array Field} (e:P.underlying t=some (.struct a)) {F:Nat->List Value->Prop} (h:∀i f,a[i]? =some f->lC enc P w N f.type (F i)):
  lC enc P w (N+1) t (λcs=>cs.length=P.cellsOf t/\∀i f,a[i]? =some f->F i ((cs.drop f.offset).take (P.cellsOf f.type))):=by
 intro d o cs y b g;obtain⟨xs,n,p,c,m,j,l⟩:=DataW.trod_struct e b;subst c;refine⟨m,λi f c=>?_⟩;have k:i<a.size:=(zHr.1 c).1;have b:=l i f c;rw[zAg (by omega)]at b;refine h i f c n (by omega) _ _ b ?_;simp only[DataW.weights,e]at g;refine rP g (i:=i) ?_ ?_
 ·rw[zG2];have:a.toList[i]? =some f:=by simpa using c
  rw[this];rfl
 rw[zG2,zAg (by omega)];rfl
theorem AA {e:TypeId} {n b:Nat} {α:Type} {f:α->List Value} {Q:α->Prop} (Y:P.underlying t=some (.slice e)) (hn:P.cellsOf e=n) (d:0<n) (hb:P.bytesOf e=b) (o:∀x,(f x).length=n)
  (he:lC enc P w N e (λcs=>∃x,cs=f x/\Q x)):
  lC enc P w (N+1) t (λcs=>∃(A:Option Addr) (c:Nat) (l:List α),cs=[.slice A l.length c]/\l.length<=c/\c*b<=140737488351232/\Rd w w.heap.size A (l.flatMap f)/\∀x∈l,Q x):=by
 intro a0 hf cs y hy g;rcases DataW.trod_slice Y hy with⟨C,_⟩|⟨a,k,q,U,X,m,hm,C,W,_,R,_,S,z,M,_⟩
 ·exact⟨none,0,[],C,zFv _,by omega,Rd.nil,by simp⟩
 subst W;simp only[DataW.weights,Y,List.all_cons,zKd,zFn]at g;obtain⟨J,O,a1⟩:=g;have D:=(M rfl).1
 have F:q*b<=140737488351232:=by
  have:=zJz J;simp only[zF5,S,D,hb]at this;have e:k+(q-k)=q:=by omega
  rw[e]at this;exact this
 have r:∀i,i<k->∃x:α,w.cells? 0 (a.add (i*n)) n=some (f x)/\Q x:=by
  intro i E;have h:=z i E;rw[zAg (by omega),hn]at h;obtain⟨g,s,p⟩:=Option.bind_eq_some_iff.1 h;obtain⟨x,rfl,H⟩:=he m (by omega) g _ p (uh O _ (zK2 (zFe _)));exact⟨x,s,H⟩
 obtain⟨l,h,g⟩:∃l:List α,l.length=k/\∀i (E:i<l.length),w.cells? 0 (a.add (i*n)) n=some (f l[i])/\Q l[i]:=by
  refine⟨(List.range k).attach.map λi=>(r i.1 (zHq.1 i.2)).choose,by simp,λi E=>?_⟩;simp only[zH4,List.getElem_attach,List.getElem_range];exact(r i (by simpa using E)).choose_spec
 subst h;refine⟨some a,q,l,C,R,F,?_,?_⟩
 ·rcases zJn l.length with I|I
  ·have:l=[]:=zHa I;subst this;exact .inl rfl
  have K:=zKj (g 0 I).1;have s:=K.2.2 0 d;rw[zAg (by rw[o];exact d)]at s;have ha:(a.add (0*n)).add 0=a:=by simp[Addr.add]
  rw[ha]at s;have v:=zHs w a s
  have p:a.spot=none:=by
   unfold World.cell? at s
   split at s
   ·split at s
    ·cases s
    rename_i h;simpa using h
   cases s
  obtain⟨B,A,sp⟩:=a;simp only at p v;subst p;refine .inr ⟨B,A,rfl,v,λj u hu=>?_⟩;have hj:j<l.length*n:=by have:=(zFc.1 hu).1;rwa [xq f o]at this
  have p:j=j/n*n+j%n:=by rw[zLi];exact(Nat.div_add_mod j n).symm
  have H:j/n<l.length:=(Nat.div_lt_iff_lt_mul d).2 hj;have Z:j%n<n:=Nat.mod_lt _ d;have G:=Gj f o l (j/n) (j%n) H Z;rw[<-p,hu]at G;have L:=(zKj (g (j/n) H).1).2.2 (j%n) Z;rw[<-G,Deep.add_add]at L
  have e:((⟨B,A,none⟩:Addr).add (j/n*n+j%n))=⟨B,A+j,none⟩:=by
   rw[<-p];unfold Addr.add
   by_cases h:j=0<;>simp[h]
  rw[e]at L;exact L
 intro x W;obtain⟨i,E,rfl⟩:=zJ3.1 W;exact(g i E).2
end
theorem LD {α β:Type} (f:α->β) (l:List α):l.flatMap (λs=>[f s])=l.map f:=by
 induction l with
 |nil=>rfl
 |cons x l a=>rw[zGx,a];rfl
theorem OG {c:Array Field} {d e:TypeId} (h:c.toList.map (λf=>(f.type,f.offset))=[(d,0),(e,1)]):
  ∃b a:Field,c=#[b,a]/\b.type=d/\b.offset=0/\a.type=e/\a.offset=1:=by
 obtain⟨l⟩:=c;have g:l.length=2:=by simpa using zGv List.length h
 match l,g,h with
 |[b,a],_,h=>
  simp only[zGq,zHc,zK1,Prod.mk.injEq,and_true]at h;exact⟨b,a,rfl,h.1.1,h.1.2,h.2.1,h.2.2⟩
section
variable {H:Type} {enc:TypeId×Value->H} {P:Program} {w:World} {N:Nat} {t:TypeId}
theorem vP {m:Array Field} {e l:TypeId} {R0 R1:Value->Prop} (A:P.underlying t=some (.struct m)) (h:m.toList.map (λf=>(f.type,f.offset))=[(e,0),(l,1)]) (z:P.cellsOf t=2)
  (D:P.cellsOf e=1) (B:P.cellsOf l=1) (s:lC enc P w N e (λcs=>∃v,cs=[v]/\R0 v)) (x:lC enc P w N l (λcs=>∃v,cs=[v]/\R1 v)):
  lC enc P w (N+1) t (λcs=>∃u v,cs=[u,v]/\R0 u/\R1 v):=by
 obtain⟨y,r,rfl,q,C,o,E⟩:=OG h;refine(Il A (F:=λi cs=>match i with|0=>∃v,cs=[v]/\R0 v|1=>∃v,cs=[v]/\R1 v|_=>True) (N:=N) ?_).imp ?_
 ·intro i f c
  match i,c with
  |0,c=>simp at c;subst c;rw[q];exact s
  |1,c=>simp at c;subst c;rw[o];exact x
  |i+2,c=>simp at c
 rintro cs ⟨p,n⟩;rw[z]at p
 match cs,p with
 |[a,b],_=>
  obtain⟨u,j,k⟩:=n 0 y rfl;obtain⟨v,d,g⟩:=n 1 r rfl;rw[q,D,C]at j;rw[o,B,E]at d;simp at j d;subst j;subst d;exact⟨a,b,rfl,k,g⟩
end
section
variable {H:Type} {enc:TypeId×Value->H} {P:Program} {w:World} {N:Nat} {t:TypeId} {R R':List Value->Prop}
theorem lC.arg (h:∀N,lC enc P w N t R) {v:Value} {d:DataW H} {p:List MemPlace} (c:DataW.Trod enc P w 0 (λ_=>true) true t v d p) (e:(d.weights P t).all (·<=reachBytes)=true):R v.cells.toList:=by
 obtain⟨a,b⟩:=c;exact h a a zL _ _ b e
end
theorem Gi {H:Type} {d:DataW H} {l:List (DataW H)} (h:d∈l):Rows.uptoBulk d<=Rows.uptoBulkAll l:=by
 induction l with
 |nil=>cases h
 |cons x r a=>
  simp only[Rows.uptoBulkAll];cases zF6.1 h with
  |inl e=>subst e;omega
  |inr e=>have:=a e;omega
theorem WX {H:Type} (d:DataW H):1<=Rows.uptoBulk d:=by
 cases d with
 |lit l=>cases l<;>simp[Rows.uptoBulk]
 |nil=>simp[Rows.uptoBulk]
 |ptr d=>simp[Rows.uptoBulk]
 |slice c e=>simp[Rows.uptoBulk]
 |agg b=>simp[Rows.uptoBulk]
 |iface t d=>simp[Rows.uptoBulk]
 |map a=>simp[Rows.uptoBulk]
 |held h=>simp[Rows.uptoBulk]
theorem WY {H:Type} (l:List (DataW H)):l.length<=Rows.uptoBulkAll l:=by
 induction l with
 |nil=>simp[Rows.uptoBulkAll]
 |cons x r a=>have:=WX x;simp only[Rows.uptoBulkAll,zFh];omega
section
variable {H:Type} (enc:TypeId×Value->H) (P:Program) (w:World)
def lW (N:Nat) (t:TypeId) (R:List Value->Prop):Prop:=
 ∀fuel,fuel<=N->∀(cs:List Value) (y:DataW H×List MemPlace),DataW.trod enc P w 0 (λ_=>true) true fuel t cs=some y->(y.1.weights P t).all (·<=reachBytes)=true->Rows.uptoBulk y.1<=1048576->R cs
variable {enc P w} {N:Nat} {t:TypeId} {R R':List Value->Prop}
theorem lW.imp (h:lW enc P w N t R) (e:∀cs,R cs->R' cs):lW enc P w N t R':=λa c cs y b d hb=>e _ (h a c cs y b d hb)
theorem lC.b (h:lC enc P w N t R):lW enc P w N t R:=λa d cs y c e _=>h a d cs y c e
theorem LK:lW enc P w 0 t R:=by
 intro a c cs y b;obtain rfl:a=0:=by omega
 simp[DataW.trod]at b
theorem Ez {b:Array Field} {d:List (TypeId×Nat)} (g:P.underlying t=some (.struct b)) (h:b.toList.map (λf=>(f.type,f.offset))=d) {F:Nat->List Value->Prop}
  (m:∀(i:Nat) (p:TypeId×Nat),d[i]? =some p->lW enc P w N p.1 (F i)):
  lW enc P w (N+1) t (λcs=>cs.length=P.cellsOf t/\∀(i:Nat) (p:TypeId×Nat),d[i]? =some p->F i ((cs.drop p.2).take (P.cellsOf p.1))):=by
 intro e u cs y c j hb;obtain⟨xs,n,v,a,s,o,r⟩:=DataW.trod_struct g c;subst a;refine⟨s,λi p k=>?_⟩;rw[<-h,zG2]at k;obtain⟨f,a,rfl⟩:=zJk.1 k;have a:b[i]? =some f:=by simpa using a
 have q:i<b.size:=(zHr.1 a).1;have c:=r i f a;rw[zAg (by omega)]at c;refine m i (f.type,f.offset) (by rw[<-h,zG2];simp[a]) n (by omega) _ _ c ?_ ?_
 ·simp only[DataW.weights,g]at j;refine rP j (i:=i) ?_ ?_
  ·rw[zG2];have:b.toList[i]? =some f:=by simpa using a
   rw[this];rfl
  rw[zG2,zAg (by omega)];rfl
 simp only[Rows.uptoBulk]at hb;have:=Gi (zK2 (f:=λx:DataW H×List MemPlace=>x.1) (zFe (l:=xs) (by omega:i<xs.length)));omega
theorem Io {e:TypeId} {n:Nat} {α:Type} {f:α->List Value} {Q:α->Prop} (U:P.underlying t=some (.slice e)) (hn:P.cellsOf e=n) (d:0<n) (k:∀x,(f x).length=n)
  (he:lW enc P w N e (λcs=>∃x,cs=f x/\Q x)):
  lW enc P w (N+1) t (λcs=>∃(A:Option Addr) (c:Nat) (l:List α),cs=[.slice A l.length c]/\l.length<=c/\l.length<=1048576/\Rd w w.heap.size A (l.flatMap f)/\∀x∈l,Q x):=by
 intro X hf cs y hy g F;rcases DataW.trod_slice U hy with⟨B,_⟩|⟨a,z,O,b,S,m,hm,B,R,_,M,_,a3,s,a2,_⟩
 ·exact⟨none,0,[],B,zFv _,by simp,Rd.nil,by simp⟩
 subst R;simp only[DataW.weights,U,List.all_cons,zKd,zFn]at g;obtain⟨a1,L,a0⟩:=g;simp only[Rows.uptoBulk]at F;have K:=WY (b.map (·.1));rw[zF5]at K
 have p:∀i,i<z->∃x:α,w.cells? 0 (a.add (i*n)) n=some (f x)/\Q x:=by
  intro i C;have o:=s i C;rw[zAg (by omega),hn]at o;obtain⟨h,r,q⟩:=Option.bind_eq_some_iff.1 o;have g:=zK2 (f:=λx:DataW H×List MemPlace=>x.1) (zFe (l:=b) (by omega:i<b.length));obtain⟨x,rfl,E⟩:=he m (by omega) h _ q (uh L _ g) (by have:=Gi g;omega);exact⟨x,r,E⟩
 obtain⟨l,h,g⟩:∃l:List α,l.length=z/\∀i (C:i<l.length),w.cells? 0 (a.add (i*n)) n=some (f l[i])/\Q l[i]:=by
  refine⟨(List.range z).attach.map λi=>(p i.1 (zHq.1 i.2)).choose,by simp,λi C=>?_⟩;simp only[zH4,List.getElem_attach,List.getElem_range];exact(p i (by simpa using C)).choose_spec
 subst h;refine⟨some a,O,l,B,M,by omega,?_,?_⟩
 ·rcases zJn l.length with G|G
  ·have:l=[]:=zHa G;subst this;exact .inl rfl
  have I:=zKj (g 0 G).1;have q:=I.2.2 0 d;rw[zAg (by rw[k];exact d)]at q;have ha:(a.add (0*n)).add 0=a:=by simp[Addr.add]
  rw[ha]at q;have r:=zHs w a q
  have o:a.spot=none:=by
   unfold World.cell? at q
   split at q
   ·split at q
    ·cases q
    rename_i h;simpa using h
   cases q
  obtain⟨A,v,sp⟩:=a;simp only at o r;subst o;refine .inr ⟨A,v,rfl,r,λj u Y=>?_⟩;have Z:j<l.length*n:=by have:=(zFc.1 Y).1;rwa [xq f k]at this
  have o:j=j/n*n+j%n:=by rw[zLi];exact(Nat.div_add_mod j n).symm
  have E:j/n<l.length:=(Nat.div_lt_iff_lt_mul d).2 Z;have W:j%n<n:=Nat.mod_lt _ d;have D:=Gj f k l (j/n) (j%n) E W;rw[<-o,Y]at D;have J:=(zKj (g (j/n) E).1).2.2 (j%n) W;rw[<-D,Deep.add_add]at J
  have e:((⟨A,v,none⟩:Addr).add (j/n*n+j%n))=⟨A,v+j,none⟩:=by
   rw[<-o];unfold Addr.add
   by_cases h:j=0<;>simp[h]
  rw[e]at J;exact J
 intro x R;obtain⟨i,C,rfl⟩:=zJ3.1 R;exact(g i C).2
theorem lW.arg (h:∀N,lW enc P w N t R) {v:Value} {d:DataW H} {p:List MemPlace} (c:DataW.Trod enc P w 0 (λ_=>true) true t v d p) (e:(d.weights P t).all (·<=reachBytes)=true) (hb:Rows.uptoBulk d<=1048576):R v.cells.toList:=by
 obtain⟨a,b⟩:=c;exact h a a zL _ _ b e hb
end
end Go.Proofs.YtbjnhllkdilpfaaGreat
