/- Part 25 of the proof. No conditions. -/
import Derived.Test.YtbjnhllkdilpfaaZc01
namespace Go.Proofs.Ytbjnhllkdilpfaa
open Go.ChangeShapes Go.WideShapes Go.ChangeAt Go.RowKit
section
variable {H:Type} (enc:TypeId×Value->H) (P:Program) (w:World)
def BP (N:Nat) (t:TypeId) (R:List Value->Prop):Prop:=
 ∀fuel,fuel<=N->∀(cs:List Value) (y:DataW H×List MemPlace),DataW.trod enc P w 0 (fun _=>true) true fuel t cs=some y->(y.1.weights P t).all (·<=reachBytes)=true->R cs
variable {enc P w} {N:Nat} {t:TypeId} {R R':List Value->Prop}
theorem BP.imp (h:BP enc P w N t R) (hr:∀cs,R cs->R' cs):BP enc P w N t R':=fun fuel hf cs y hy hw=>hr _ (h fuel hf cs y hy hw)
end
section
variable {H:Type} {enc:TypeId×Value->H} {P:Program} {w:World} {N:Nat} {t:TypeId}
end
section
variable {H:Type} {enc:TypeId×Value->H} {P:Program} {w:World} {N:Nat} {t:TypeId} {R R':List Value->Prop}
theorem BP.arg (h:∀N,BP enc P w N t R) {v:Value} {d:DataW H} {p:List MemPlace} (ht:DataW.Trod enc P w 0 (fun _=>true) true t v d p) (hw:(d.weights P t).all (·<=reachBytes)=true):R v.cells.toList:=by
 obtain⟨fuel,hf⟩:=ht;exact h fuel fuel zL _ _ hf hw
end
section
variable {H:Type} (enc:TypeId×Value->H) (P:Program) (w:World)
def yu (N:Nat) (t:TypeId) (R:List Value->Prop):Prop:=
 ∀fuel,fuel<=N->∀(cs:List Value) (y:DataW H×List MemPlace),DataW.trod enc P w 0 (fun _=>true) true fuel t cs=some y->(y.1.weights P t).all (·<=reachBytes)=true->Rows.uptoBulk y.1<=1048576->R cs
variable {enc P w} {N:Nat} {t:TypeId} {R R':List Value->Prop}
theorem yu.imp (h:yu enc P w N t R) (hr:∀cs,R cs->R' cs):yu enc P w N t R':=fun fuel hf cs y hy hw hb=>hr _ (h fuel hf cs y hy hw hb)
theorem BP.b (h:BP enc P w N t R):yu enc P w N t R:=fun fuel hf cs y hy hw _=>h fuel hf cs y hy hw
theorem yu.arg (h:∀N,yu enc P w N t R) {v:Value} {d:DataW H} {p:List MemPlace} (ht:DataW.Trod enc P w 0 (fun _=>true) true t v d p) (hw:(d.weights P t).all (·<=reachBytes)=true) (hb:Rows.uptoBulk d<=1048576):R v.cells.toList:=by
 obtain⟨fuel,hf⟩:=ht;exact h fuel fuel zL _ _ hf hw hb
end
end Go.Proofs.Ytbjnhllkdilpfaa
