/- AutoFull holds. No conditions. -/
import Derived.Test.YtbjnhllkdilpfaaZb01
import Derived.Test.YtbjnhllkdilpfaaZb49
import Derived.Test.YtbjnhllkdilpfaaZb48
namespace Go.Proofs.Ytbjnhllkdilpfaa.autoFull
set_option maxRecDepth 100000
set_option maxHeartbeats 16000000
open Go.ChangeShapes Go.WideShapes Go.ChangeAt Go.RowKit
open Go.ChangeMaps (open_string shut_string)
set_option linter.unusedSimpArgs false
set_option linter.unusedVariables false
theorem walk (W:World):Calls Try.prog 3 #[] W fun e w'=>e=.returned (.bool true)/\Below W.heap.size W w':=zAq W
theorem own:ownKnob Try.prog.godebug=none:=by kernel_rfl
theorem laidOut:laidOutB Try.prog=true:=by kernel_rfl
theorem rec0:(Try.f3.params.toList.all fun t=>Try.prog.readableRec t&&decide (t<Try.prog.types.size))=true:=by kernel_rfl
theorem lifted (os : Os) (started : os.Started) (H : Type) (enc : TypeId × Value → H) :
  ReturnsInHanded {} Try.checked os 3 .any (Rows.autoFullSpec.pre6 enc Try.prog Try.f3 Rows.autoFullRow.domain false) (Rows.autoFullSpec.post enc Try.prog Try.f3 false true false false):=by
 refine zAs (C:=Try.checked) (tb:=4) own started (by kernel_rfl) Try.func3
  (ChangeSpec.witness6 (enc:=enc) (C:=Try.checked) false ⟨#[],#[],[]⟩ 8 (by kernel_rfl) (by kernel_rfl) (by kernel_rfl) (by kernel_rfl)) laidOut ?_ rfl Try.underlying4 rfl ?_ ?_
 ·intro t ht;have:=List.all_eq_true.1 rec0 t ht;simp only[Bool.and_eq_true,decide_eq_true_eq]at this;exact this
 ·intro ds hd
  match ds,hd with
  |[],_=>exact⟨rfl,rfl,rfl⟩
 intro W base args ds p hval hA hsz;rw[Try.params3]at hA hval hsz;obtain⟨hargs,rfl,rfl⟩:=trodAll_nil hA;obtain rfl:args=#[]:=by cases args;simp_all
 exact walk W
theorem autoFull_holds:Rows.AutoFullSaid:=
 OpenClaim.holds_of_wide 3 Try.f3 rfl rfl rfl rfl rfl rfl rfl ⟨rfl,rfl,rfl,rfl,rfl⟩ rfl rfl rfl rfl rfl (by kernel_rfl) Try.func3 (by kernel_rfl)
  (of_decide_eq_true (by kernel_rfl)) (by unfold Func.isWrapper;first|(rw[if_pos (by decide+kernel)];kernel_rfl)|(rw[if_neg (by decide+kernel)];exact⟨rfl,rfl⟩))
  (fun os started H enc _=>lifted os started H enc)
#print axioms autoFull_holds
end Go.Proofs.Ytbjnhllkdilpfaa.autoFull
