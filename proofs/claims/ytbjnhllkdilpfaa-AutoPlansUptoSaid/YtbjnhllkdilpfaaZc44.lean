/- Part 44 of the proof. No conditions. -/
import Derived.Test.YtbjnhllkdilpfaaZc25
namespace Go.Proofs.Ytbjnhllkdilpfaa
open Go.ChangeShapes Go.WideShapes Go.ChangeAt Go.RowKit
theorem zAr {H : Type} {enc : TypeId × Value → H} {C : Checked} {os : Os} {f : FuncId} {fn : Func} {s : ChangeSpec} {tb : TypeId} {F : Stop.Interp}
  (own:ownKnob C.prog.godebug=none) (started:os.Started) (noInit:C.prog.inits.idxOf? f=none) (hfn:C.prog.funcs[f]? =some fn)
  (witness:∃(w:World) (tape:Tape) (i:Input),w.os=os/\(w.forCall tape i).Shaped C.prog/\i.vars=[]/\Input.okWide C.prog (w.forCall tape i) .any w.heap.size f i/\
   (Rows.OpenSpec.upto s).pre6 enc C.prog fn [] false (w.forCall tape i).memory i.args/\Assume.holds {} C.prog (lone (Frame.enter C.prog f i.args .normal) [] (w.forCall tape i)))
  (hl:laidOutB C.prog=true) (hr:∀t∈fn.params.toList,C.prog.readableRec t=true/\t<C.prog.types.size) (hrt:fn.resultTypes=#[tb]) (htb:C.prog.underlying tb=some .bool)
  (hvars:s.vars=[]) (hs:∀ds:List (DataW H),ds.length=fn.params.toList.length->(s.fn H ds).results=[.lit (.bool true)]/\(s.fn H ds).args=ds/\(s.fn H ds).vars=[])
  (walk:∀(W:World) (base:Nat) (args:Array Value) (ds:List (DataW H)) (p:List MemPlace),
   (∀(j:Nat) t v,fn.params[j]? =some t->args[j]? =some v->Value.okWide C.prog W .any base t v)->
   DataW.TrodAll enc C.prog W 0 (fun _=>true) true fn.params.toList args.toList ds p->
   (DataW.weightsEach C.prog fn.params.toList ds).all (·<=reachBytes)=true->Rows.uptoBulkAll ds<=1048576->
   Calls C.prog f args W fun e W'=>e=.returned (.bool true)/\Below W.heap.size W W'):
  ReturnsInHanded {} C os f .any ((Rows.OpenSpec.upto s).pre6 enc C.prog fn [] false) (((Rows.OpenSpec.upto s).at F).post enc C.prog fn false true false false):=by
 refine returnsInHanded_of_cond_sized (s:=Rows.OpenSpec.upto s) (k:=Rows.uptoSmall) rfl own started noInit hfn witness ?_;intro W base args ds gs before hval hW _ hk hsz _;have hW:DataW.Whole enc C.prog fn.params.toList s.vars false W args.toList ds gs before:=hW;have hW':=hW;obtain⟨p,q,hA,hV,rfl,_,_⟩:=hW'
 have hvt:(Rows.OpenSpec.upto s).bare.plain.varTypes C.prog=[]:=by
  show s.plain.varTypes C.prog=[]
  simp[DataSpec.varTypes,ChangeSpec.plain,hvars]
 rw[hvars]at hV;obtain⟨rfl,rfl⟩:=trodVars_none hV;rw[hvt,List.append_nil,List.append_nil]at hsz;rw[List.append_nil]at hk;have zBr:Rows.uptoBulkAll ds<=1048576:=of_decide_eq_true hk
 have len:∀{ts:List TypeId} {vs:List Value} {ds:List (DataW H)} {ps:List MemPlace},DataW.TrodAll enc C.prog W 0 (fun _=>true) true ts vs ds ps->ds.length=ts.length:=by
  intro ts
  induction ts with
  |nil=>intro vs ds ps h;cases vs<;>cases ds<;>first|rfl|exact h.elim
  |cons t ts ih=>intro vs ds ps h;cases vs<;>cases ds<;>first|exact h.elim|(obtain⟨_,_,_,h2,_⟩:=h;simp[ih h2])
 obtain⟨h1,h2,h3⟩:=hs ds (len hA);refine(walk W base args ds p hval hA hsz zBr).mono fun e W' ⟨he,hb⟩=>?_
 exact⟨_,he,I5 hl hr hrt htb hvars (by rw[List.append_nil];exact h1) (by rw[List.append_nil];exact h2) (by rw[List.append_nil];exact h3) hW hb⟩
end Go.Proofs.Ytbjnhllkdilpfaa
