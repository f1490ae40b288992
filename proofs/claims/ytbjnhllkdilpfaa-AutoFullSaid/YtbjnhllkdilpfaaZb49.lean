/- Part 49 of the proof. No conditions. -/
import Derived.Test.YtbjnhllkdilpfaaZb01
namespace Go.Proofs.Ytbjnhllkdilpfaa
open Go.ChangeShapes Go.WideShapes Go.ChangeAt Go.RowKit
section
variable {H:Type} {enc:TypeId×Value->H} {P:Program}
theorem sD (hl : laidOutB P = true) {W W' : World} (hb : Below W.heap.size W W') {sp' : Nat → Bool} :
  ∀{ts:List TypeId} {vs:List Value} {ds:List (DataW H)} {ps:List MemPlace},(∀t∈ts,P.readableRec t=true/\t<P.types.size)->
   DataW.TrodAll enc P W 0 (fun _=>true) true ts vs ds ps->(∀x∈ps,x.block<W.heap.size)->(∀x∈ps,sp' x.block=true)->DataW.TrodAll enc P W' 0 sp' true ts vs ds ps
 |[],[],[],_,_,h,_,_=>h
 |t::ts,v::vs,d::ds,ps,hr,h,hlt,hs=>by
  obtain⟨p,q,h1,h2,rfl⟩:=h;refine⟨p,q,?_,?_,rfl⟩
  ·exact WideElems.Trod_stays hl (hr t (by simp)).1 (hr t (by simp)).2 h1 (fun x hx=>hb.same (hlt x (by simp[hx]))) (fun x hx=>hs x (by simp[hx]))
  ·exact sD hl hb (fun t ht=>hr t (by simp[ht])) h2 (fun x hx=>hlt x (by simp[hx])) (fun x hx=>hs x (by simp[hx]))
 |[],[],_::_,_,_,h,_,_=>h.elim
 |[],_::_,_,_,_,h,_,_=>h.elim
 |_::_,[],_,_,_,h,_,_=>h.elim
 |_::_,_::_,[],_,_,h,_,_=>h.elim
theorem GL {f : Func} {s : ChangeSpec} {W W' : World} {args : Array Value} {ds gs : List (DataW H)} {before : List MemPlace} {tb : TypeId}
  (hl:laidOutB P=true) (hr:∀t∈f.params.toList,P.readableRec t=true/\t<P.types.size) (hrt:f.resultTypes=#[tb]) (htb:P.underlying tb=some .bool)
  (hvars:s.vars=[]) (h1:(s.fn H (ds++gs)).results=[.lit (.bool true)]) (h2:(s.fn H (ds++gs)).args=ds) (h3:(s.fn H (ds++gs)).vars=[])
  (hW:DataW.Whole enc P f.params.toList s.vars false W args.toList ds gs before) (hb:Below W.heap.size W W'):
  s.post enc P f false true false false W args (.bool true) W':=by
 have hlt:∀p∈before,p.block<W.heap.size:=fun p hp=>hW.lt p hp
 have hold:∀p∈before,(fun b=>decide (b<W.heap.size)) p.block=true:=fun p hp=>by simpa using hlt p hp
 have hres:∀(b:Nat) (sp:Nat->Bool) (hd:Bool),DataW.TrodAll enc P W' b sp hd f.resultTypes.toList ((Value.bool true).resultList f.resultTypes.size) (s.fn H (ds++gs)).results []:=by
  intro b sp hd;rw[h1,hrt];exact trodAll_mk1 (shut_bool htb true)
 have hW':=hW;obtain⟨p,q,hA,hV,rfl,_,_⟩:=hW';rw[hvars]at hV;obtain⟨rfl,rfl⟩:=trodVars_none hV;rw[List.append_nil]at hW hlt hold
 have hargs:∀sp:Nat->Bool,(∀x∈p,sp x.block=true)->DataW.TrodAll enc P W' 0 sp true f.params.toList args.toList (s.fn H (ds++[])).args p:=by
  intro sp hsp;rw[h2];exact sD hl hb hr hA hlt hsp
 have hvs:∀sp:Nat->Bool,DataW.TrodVars enc P W' sp s.vars (s.fn H (ds++[])).vars []:=by
  intro sp;rw[h3,hvars];exact rfl
 refine⟨ds,[],p,[],p,[],hW,hres _ _ _,hargs _ hold,hvs _,World.keptBut_mono (fun x hx=>⟨hx,Or.inr (Or.inl hx)⟩) (hb.frame (·∈p)),fun _=>?_⟩;obtain⟨_,_,_,_,_,hz,hn⟩:=hW;refine⟨ok_one hrt rfl (okWide_bool_mk htb true),_,_,([]++p)++[],⟨[]++p,[],trodAll_append (hargs _ (fun _ _=>rfl)) (hres _ _ _),hvs _,rfl,?_,?_⟩,?_⟩
 ·intro b off hp;have hin:MemPlace.cell b off∈p:=by simpa using hp
  rw[hb.frozen (hlt _ hin)];exact hz b off hin
 ·intro ha;cases ha
 ·intro x hx _
  simpa using hx
end
theorem zAs {H : Type} {enc : TypeId × Value → H} {C : Checked} {os : Os} {f : FuncId} {fn : Func} {s : ChangeSpec} {tb : TypeId}
  (own:ownKnob C.prog.godebug=none) (started:os.Started) (noInit:C.prog.inits.idxOf? f=none) (hfn:C.prog.funcs[f]? =some fn)
  (witness:∃(w:World) (tape:Tape) (i:Input),w.os=os/\(w.forCall tape i).Shaped C.prog/\i.vars=[]/\Input.okWide C.prog (w.forCall tape i) .any w.heap.size f i/\
   s.pre6 enc C.prog fn [] false (w.forCall tape i).memory i.args/\Assume.holds {} C.prog (lone (Frame.enter C.prog f i.args .normal) [] (w.forCall tape i)))
  (hl:laidOutB C.prog=true) (hr:∀t∈fn.params.toList,C.prog.readableRec t=true/\t<C.prog.types.size) (hrt:fn.resultTypes=#[tb]) (htb:C.prog.underlying tb=some .bool)
  (hvars:s.vars=[]) (hs:∀ds:List (DataW H),ds.length=fn.params.toList.length->(s.fn H ds).results=[.lit (.bool true)]/\(s.fn H ds).args=ds/\(s.fn H ds).vars=[])
  (walk:∀(W:World) (base:Nat) (args:Array Value) (ds:List (DataW H)) (p:List MemPlace),
   (∀(j:Nat) t v,fn.params[j]? =some t->args[j]? =some v->Value.okWide C.prog W .any base t v)->
   DataW.TrodAll enc C.prog W 0 (fun _=>true) true fn.params.toList args.toList ds p->
   (DataW.weightsEach C.prog fn.params.toList ds).all (·<=reachBytes)=true->
   Calls C.prog f args W fun e W'=>e=.returned (.bool true)/\Below W.heap.size W W'):
  ReturnsInHanded {} C os f .any (s.pre6 enc C.prog fn [] false) (s.post enc C.prog fn false true false false):=by
 refine returnsInHanded_of_change_sized own started noInit hfn witness ?_;intro W base args ds gs before hval hW _ hsz _;have hW':=hW;obtain⟨p,q,hA,hV,rfl,_,_⟩:=hW';have hvt:s.plain.varTypes C.prog=[]:=by simp[DataSpec.varTypes,ChangeSpec.plain,hvars]
 rw[hvars]at hV;obtain⟨rfl,rfl⟩:=trodVars_none hV;rw[hvt,List.append_nil,List.append_nil]at hsz
 have len:∀{ts:List TypeId} {vs:List Value} {ds:List (DataW H)} {ps:List MemPlace},DataW.TrodAll enc C.prog W 0 (fun _=>true) true ts vs ds ps->ds.length=ts.length:=by
  intro ts
  induction ts with
  |nil=>intro vs ds ps h;cases vs<;>cases ds<;>first|rfl|exact h.elim
  |cons t ts ih=>intro vs ds ps h;cases vs<;>cases ds<;>first|exact h.elim|(obtain⟨_,_,_,h2,_⟩:=h;simp[ih h2])
 obtain⟨h1,h2,h3⟩:=hs ds (len hA);refine(walk W base args ds p hval hA hsz).mono fun e W' ⟨he,hb⟩=>?_
 exact⟨_,he,GL hl hr hrt htb hvars (by rw[List.append_nil];exact h1) (by rw[List.append_nil];exact h2) (by rw[List.append_nil];exact h3) hW hb⟩
end Go.Proofs.Ytbjnhllkdilpfaa
