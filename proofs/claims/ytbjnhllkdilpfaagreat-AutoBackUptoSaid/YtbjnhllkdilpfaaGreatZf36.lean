/- Part 36 of the proof. No conditions. -/
import Derived.Test.YtbjnhllkdilpfaaGreatZf01
set_option linter.unusedVariables false
set_option linter.unusedSimpArgs false
namespace Go.Proofs.YtbjnhllkdilpfaaGreat
open Go.ChangeShapes Go.WideShapes Go.ChangeAt Go.RowKit
section
variable {H:Type} {enc:TypeId×Value->H} {P:Program}
theorem vO (k:laidOutB P=true) {W W':World} (hb:Below W W W') {b:Nat->Bool}:
  ∀{e:List TypeId} {i:List Value} {f:List (DataW H)} {ps:List MemPlace},(∀t∈e,P.readableRec t=true/\t<P.types.size)->
   DataW.TrodAll enc P W 0 (λ_=>true) true e i f ps->(∀x∈ps,x.block<W.heap.size)->(∀x∈ps,b x.block=true)->DataW.TrodAll enc P W' 0 b true e i f ps
 |[],[],[],_,_,h,_,_=>h
 |t::e,v::i,d::f,ps,g,h,c,j=>by
  obtain⟨p,q,l,n,rfl⟩:=h;refine⟨p,q,?_,?_,rfl⟩
  ·exact WideElems.Trod_stays k (g t (by simp)).1 (g t (by simp)).2 l (λx a=>hb.same (c x (by simp[a]))) (λx a=>j x (by simp[a]))
  exact vO k hb (λt m=>g t (by simp[m])) n (λx a=>c x (by simp[a])) (λx a=>j x (by simp[a]))
 |[],[],_::_,_,_,h,_,_=>h.elim
 |[],_::_,_,_,_,h,_,_=>h.elim
 |_::_,[],_,_,_,h,_,_=>h.elim
 |_::_,_::_,[],_,_,h,_,_=>h.elim
theorem LC {f:Func} {s:ChangeSpec} {W W':World} {c:Array Value} {g m:List (DataW H)} {before:List MemPlace} {y:TypeId}
  (E:laidOutB P=true) (D:∀t∈f.params.toList,P.readableRec t=true/\t<P.types.size) (l:f.resultTypes=#[y]) (n:P.underlying y=some .bool)
  (a:s.vars=[]) (A:(s.fn H (g++m)).results=[.lit (.bool true)]) (G:(s.fn H (g++m)).args=g) (B:(s.fn H (g++m)).vars=[])
  (r:DataW.Whole enc P f.params.toList s.vars false W c.toList g m before) (hb:Below W W W'):
  s.post enc P f false true false false W c (.bool true) W':=by
 have h:∀p∈before,p.block<W.heap.size:=λp o=>r.lt p o
 have j:∀p∈before,(λb=>decide (b<W.heap.size)) p.block=true:=λp o=>by simpa using h p o
 have i:∀(b:Nat) (e:Nat->Bool) (d:Bool),DataW.TrodAll enc P W' b e d f.resultTypes.toList ((Value.bool true).resultList f.resultTypes.size) (s.fn H (g++m)).results []:=by
  intro b e d;rw[A,l];exact trodAll_mk1 (shut_bool n true)
 have d:=r;obtain⟨p,q,C,w,rfl,_,_⟩:=d;rw[a]at w;obtain⟨rfl,rfl⟩:=trodVars_none w;rw[zHb]at r h j
 have d:∀e:Nat->Bool,(∀x∈p,e x.block=true)->DataW.TrodAll enc P W' 0 e true f.params.toList c.toList (s.fn H (g++[])).args p:=by
  intro e k;rw[G];exact vO E hb D C h k
 have u:∀e:Nat->Bool,DataW.TrodVars enc P W' e s.vars (s.fn H (g++[])).vars []:=by
  intro e;rw[B,a];exact rfl
 refine⟨g,[],p,[],p,[],r,i _ _ _,d _ j,u _,World.keptBut_mono (λx v=>⟨v,Or.inr (Or.inl v)⟩) (hb.frame (·∈p)),λ_=>?_⟩;obtain⟨_,_,_,_,_,z,I⟩:=r;refine⟨ok_one l rfl (okWide_bool_mk n true),_,_,([]++p)++[],⟨[]++p,[],trodAll_append (d _ (λ_ _=>rfl)) (i _ _ _),u _,rfl,?_,?_⟩,?_⟩
 ·intro b k o;have e:MemPlace.cell b k∈p:=by simpa using o
  rw[hb.frozen (h _ e)];exact z b k e
 ·intro F;cases F
 intro x v _
 simpa using v
end
theorem zE9 {H:Type} {enc:TypeId×Value->H} {C:Checked} {E:Os} {f:FuncId} {k:Func} {s:ChangeSpec} {K:TypeId}
  (D:ownKnob C.prog.godebug=none) (g:E.Started) (l:C.prog.inits.idxOf? f=none) (x:C.prog.funcs[f]? =some k)
  (d:∃(w:World) (a:Tape) (i:Input),w.os=E/\(w.forCall a i).Shaped C.prog/\i.vars=[]/\Input.okWide C.prog (w.forCall a i) .any w.heap.size f i/\
   s.pre6 enc C.prog k [] false (w.forCall a i).memory i.args/\Assume.holds {} C.prog (lone (Frame.enter C.prog f i.args .normal) [] (w.forCall a i)))
  (O:laidOutB C.prog=true) (N:∀t∈k.params.toList,C.prog.readableRec t=true/\t<C.prog.types.size) (A:k.resultTypes=#[K]) (B:C.prog.underlying K=some .bool)
  (c:s.vars=[]) (L:∀a:List (DataW H),a.length=k.params.toList.length->(s.fn H a).results=[.lit (.bool true)]/\(s.fn H a).args=a/\(s.fn H a).vars=[])
  (n:∀(W:World) (base:Nat) (b:Array Value) (a:List (DataW H)) (p:List MemPlace),
   (∀(j:Nat) t v,k.params[j]? =some t->b[j]? =some v->Value.okWide C.prog W .any base t v)->
   DataW.TrodAll enc C.prog W 0 (λ_=>true) true k.params.toList b.toList a p->
   (DataW.weightsEach C.prog k.params.toList a).all (·<=reachBytes)=true->
   Calls C.prog f b W λe W'=>e=.returned (.bool true)/\Below W W W'):
  ReturnsInHanded {} C E f .any (s.pre6 enc C.prog k [] false) (s.post enc C.prog k false true false false):=by
 refine returnsInHanded_of_change_sized D g l x d ?_;intro W base b a P before o J _ m _;have h:=J;obtain⟨p,q,G,I,rfl,_,_⟩:=h;have z:s.plain.varTypes C.prog=[]:=by simp[DataSpec.varTypes,ChangeSpec.plain,c]
 rw[c]at I;obtain⟨rfl,rfl⟩:=trodVars_none I;rw[z,zHb,zHb]at m
 have y:∀{r:List TypeId} {u:List Value} {a:List (DataW H)} {ps:List MemPlace},DataW.TrodAll enc C.prog W 0 (λ_=>true) true r u a ps->a.length=r.length:=by
  intro r
  induction r with
  |nil=>intro u a ps h;cases u<;>cases a<;>first|rfl|exact h.elim
  |cons t r M=>intro u a ps h;cases u<;>cases a<;>first|exact h.elim|(obtain⟨_,_,_,F,_⟩:=h;simp[M F])
 obtain⟨h,F,r⟩:=L a (y G);refine(n W base b a p o G m).mono λe W' ⟨u,hb⟩=>?_
 exact⟨_,u,LC O N A B c (by rw[zHb];exact h) (by rw[zHb];exact F) (by rw[zHb];exact r) J hb⟩
end Go.Proofs.YtbjnhllkdilpfaaGreat
