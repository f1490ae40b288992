/- AutoTree holds of what is of bounded bulk. No conditions. -/
import Derived.Test.YtbjnhllkdilpfaaZb01
import Derived.Test.YtbjnhllkdilpfaaZb54
import Derived.Test.YtbjnhllkdilpfaaZb51
import Derived.Test.YtbjnhllkdilpfaaZb53
namespace Go.Proofs.Ytbjnhllkdilpfaa.autoTree
set_option maxRecDepth 100000
set_option maxHeartbeats 16000000
open Go.ChangeShapes Go.WideShapes Go.ChangeAt Go.RowKit
open Go.ChangeMaps (open_string shut_string)
set_option linter.unusedSimpArgs false
set_option linter.unusedVariables false
theorem walk (W0 : World) (bg : Int) (k : JO) (A : Option Addr) (c : Nat) (l : List kG) (h : PZ A l W0) :
  Calls Try.prog 4 #[.agg #[.int .i64 bg,k.val,.slice A l.length c]] W0 fun e W'=>e=.returned (.bool true)/\Below W0.heap.size W0 W':=zAr bg k.A A k.n k.c c l W0 h
theorem own:ownKnob Try.prog.godebug=none:=by kernel_rfl
theorem laidOut:laidOutB Try.prog=true:=by kernel_rfl
theorem rec0:(Try.f4.params.toList.all fun t=>Try.prog.readableRec t&&decide (t<Try.prog.types.size))=true:=by kernel_rfl
theorem lifted (os : Os) (started : os.Started) (H : Type) (enc : TypeId × Value → H) (F : Stop.Interp) :
  ReturnsInHanded {} Try.checked os 4 .any ((Rows.OpenSpec.upto Rows.autoTreeSpec).pre6 enc Try.prog Try.f4 Rows.autoTreeUptoRow.domain false) (((Rows.OpenSpec.upto Rows.autoTreeSpec).at F).post enc Try.prog Try.f4 false true false false):=by
 refine Yl (C:=Try.checked) (s:=Rows.autoTreeSpec) (tb:=4) own started (by kernel_rfl) Try.func4
  (OpenSpec.witness (enc:=enc) (C:=Try.checked) (s:=Rows.OpenSpec.upto Rows.autoTreeSpec) (k:=Rows.uptoSmall) rfl false ⟨#[],#[.agg #[.int .i64 0,.slice none 0 0,.slice none 0 0]],[]⟩ 8 (by kernel_rfl) (by kernel_rfl) (by kernel_rfl)
   (x:=([.agg [.lit (.int .i64 0),.nil,.nil]],[],[])) (by kernel_rfl) rfl (by kernel_rfl)) laidOut ?_ rfl Try.underlying4 rfl ?_ ?_
 ·intro t ht;have:=List.all_eq_true.1 rec0 t ht;simp only[Bool.and_eq_true,decide_eq_true_eq]at this;exact this
 ·intro ds hd
  match ds,hd with
  |[d0],_=>exact⟨rfl,rfl,rfl⟩
 intro W base args ds p hval hA hsz hbk;rw[Try.params4]at hA hval hsz;obtain⟨v0,vs0,d0,ds0,p0,q0,hargs,rfl,rfl,h0,r0⟩:=trodAll_cons hA;obtain⟨rfl,rfl,rfl⟩:=trodAll_nil r0;obtain rfl:args=#[v0]:=by cases args;simp_all
 obtain⟨stg0,k0,A0,c0,l0,rfl,hg0⟩:=XO (hval 0 34 v0 rfl rfl) h0 (ve (i:=0) hsz rfl rfl) (Nat.le_trans (C9 (by simp)) hbk);exact walk W stg0 k0 A0 c0 l0 hg0
theorem autoTree_holds:Rows.AutoTreeUptoSaid:=
 OpenClaim.holds_of_cond 4 Try.f4 rfl rfl rfl rfl rfl rfl rfl ⟨rfl,rfl,rfl,rfl,rfl⟩ rfl rfl rfl rfl rfl (by kernel_rfl) Try.func4 (by kernel_rfl)
  (of_decide_eq_true (by kernel_rfl)) (by unfold Func.isWrapper;first|(rw[if_pos (by decide+kernel)];kernel_rfl)|(rw[if_neg (by decide+kernel)];exact⟨rfl,rfl⟩))
  (fun os started H enc _ F=>lifted os started H enc F)
#print axioms autoTree_holds
end Go.Proofs.Ytbjnhllkdilpfaa.autoTree
