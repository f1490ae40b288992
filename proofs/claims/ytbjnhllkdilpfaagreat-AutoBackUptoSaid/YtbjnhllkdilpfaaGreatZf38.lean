/- Part 38 of the proof. No conditions. -/
import Derived.Test.YtbjnhllkdilpfaaGreatZf37
set_option linter.unusedVariables false
set_option linter.unusedSimpArgs false
namespace Go.Proofs.YtbjnhllkdilpfaaGreat
open Go.ChangeShapes Go.WideShapes Go.ChangeAt Go.RowKit
theorem zD8 {H:Type} {d:TypeId×Value->H} {C:Checked} {K:Os} {f:FuncId} {l:Func} {s:ChangeSpec} {P:TypeId} {F:Stop.Interp}
  (I:ownKnob C.prog.godebug=none) (m:K.Started) (n:C.prog.inits.idxOf? f=none) (A:C.prog.funcs[f]? =some l)
  (g:∃(w:World) (a:Tape) (i:Input),w.os=K/\(w.forCall a i).Shaped C.prog/\i.vars=[]/\Input.okWide C.prog (w.forCall a i) .any w.heap.size f i/\
   (Rows.OpenSpec.upto s).pre6 d C.prog l [] false (w.forCall a i).memory i.args/\Assume.holds {} C.prog (lone (Frame.enter C.prog f i.args .normal) [] (w.forCall a i)))
  (X:laidOutB C.prog=true) (U:∀t∈l.params.toList,C.prog.readableRec t=true/\t<C.prog.types.size) (G:l.resultTypes=#[P]) (J:C.prog.underlying P=some .bool)
  (c:s.vars=[]) (Q:∀a:List (DataW H),a.length=l.params.toList.length->(s.fn H a).results=[.lit (.bool true)]/\(s.fn H a).args=a/\(s.fn H a).vars=[])
  (r:∀(W:World) (base:Nat) (b:Array Value) (a:List (DataW H)) (p:List MemPlace),
   (∀(j:Nat) t v,l.params[j]? =some t->b[j]? =some v->Value.okWide C.prog W .any base t v)->
   DataW.TrodAll d C.prog W 0 (λ_=>true) true l.params.toList b.toList a p->
   (DataW.weightsEach C.prog l.params.toList a).all (·<=reachBytes)=true->Rows.uptoBulkAll a<=1048576->
   Calls C.prog f b W λe W'=>e=.returned (.bool true)/\Below W W W'):
  ReturnsInHanded {} C K f .any ((Rows.OpenSpec.upto s).pre6 d C.prog l [] false) (((Rows.OpenSpec.upto s).at F).post d C.prog l false true false false):=by
 refine returnsInHanded_of_cond_sized (s:=Rows.OpenSpec.upto s) (k:=Rows.uptoSmall) rfl I m n A g ?_;intro W base b a S before u z _ M o _;have z:DataW.Whole d C.prog l.params.toList s.vars false W b.toList a S before:=z;have h:=z;obtain⟨p,q,N,O,rfl,_,_⟩:=h
 have E:(Rows.OpenSpec.upto s).bare.plain.varTypes C.prog=[]:=by
  show s.plain.varTypes C.prog=[]
  simp[DataSpec.varTypes,ChangeSpec.plain,c]
 rw[c]at O;obtain⟨rfl,rfl⟩:=trodVars_none O;rw[E,zHb,zHb]at o;rw[zHb]at M;have B:Rows.uptoBulkAll a<=1048576:=zJz M
 have D:∀{x:List TypeId} {y:List Value} {a:List (DataW H)} {ps:List MemPlace},DataW.TrodAll d C.prog W 0 (λ_=>true) true x y a ps->a.length=x.length:=by
  intro x
  induction x with
  |nil=>intro y a ps h;cases y<;>cases a<;>first|rfl|exact h.elim
  |cons t x R=>intro y a ps h;cases y<;>cases a<;>first|exact h.elim|(obtain⟨_,_,_,L,_⟩:=h;simp[R L])
 obtain⟨h,L,x⟩:=Q a (D N);refine(r W base b a p u N o B).mono λe W' ⟨y,hb⟩=>?_
 exact⟨_,y,LC X U G J c (by rw[zHb];exact h) (by rw[zHb];exact L) (by rw[zHb];exact x) z hb⟩
end Go.Proofs.YtbjnhllkdilpfaaGreat
