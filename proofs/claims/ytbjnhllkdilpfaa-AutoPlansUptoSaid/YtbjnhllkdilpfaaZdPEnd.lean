/- AutoPlans holds of what is of bounded bulk. No conditions. -/
import Derived.Test.YtbjnhllkdilpfaaZc01
import Derived.Test.YtbjnhllkdilpfaaZc44
import Derived.Test.YtbjnhllkdilpfaaZdP05
import Derived.Test.YtbjnhllkdilpfaaZdP03
namespace Go.Proofs.Ytbjnhllkdilpfaa.autoPlans
set_option maxRecDepth 100000
set_option maxHeartbeats 16000000
open Go.ChangeShapes Go.WideShapes Go.ChangeAt Go.RowKit
open Go.ChangeMaps (open_string shut_string)
set_option linter.unusedSimpArgs false
set_option linter.unusedVariables false
theorem walk (W0 : World) (d : Nat) (aC : Int) (ks : List Int) (bs : List lh) (cs : List Value) (h : qg d (fun _ => True) aC ks bs cs W0) (hs : ∀ s ∈ bs, SmS s) :
  Calls Try.prog 5 #[.agg cs.toArray] W0 fun e W'=>e=.returned (.bool true)/\Below W0.heap.size W0 W':=zAq h hs
theorem own:ownKnob Try.prog.godebug=none:=by kernel_rfl
theorem laidOut:laidOutB Try.prog=true:=by kernel_rfl
theorem rec0:(Try.f5.params.toList.all fun t=>Try.prog.readableRec t&&decide (t<Try.prog.types.size))=true:=by kernel_rfl
theorem lifted (os : Os) (started : os.Started) (H : Type) (enc : TypeId × Value → H) (F : Stop.Interp) :
  ReturnsInHanded {} Try.checked os 5 .any ((Rows.OpenSpec.upto Rows.autoPlansSpec).pre6 enc Try.prog Try.f5 Rows.autoPlansUptoRow.domain false) (((Rows.OpenSpec.upto Rows.autoPlansSpec).at F).post enc Try.prog Try.f5 false true false false):=by
 refine zAr (C:=Try.checked) (s:=Rows.autoPlansSpec) (tb:=4) own started (by kernel_rfl) Try.func5
  (OpenSpec.witness (enc:=enc) (C:=Try.checked) (s:=Rows.OpenSpec.upto Rows.autoPlansSpec) (k:=Rows.uptoSmall) rfl false ⟨#[],#[.agg #[.int .i64 0,.slice none 0 0,.slice none 0 0]],[]⟩ 8 (by kernel_rfl) (by kernel_rfl) (by kernel_rfl)
   (x:=([.agg [.lit (.int .i64 0),.nil,.nil]],[],[])) (by kernel_rfl) rfl (by kernel_rfl)) laidOut ?_ rfl Try.underlying4 rfl ?_ ?_
 ·intro t ht;have:=List.all_eq_true.1 rec0 t ht;simp only[Bool.and_eq_true,decide_eq_true_eq]at this;exact this
 ·intro ds hd
  match ds,hd with
  |[d0],_=>exact⟨rfl,rfl,rfl⟩
 intro W base args ds p hval hA hsz hbk;rw[Try.params5]at hA hval hsz;obtain⟨v0,vs0,d0,ds0,p0,q0,hargs,rfl,rfl,h0,r0⟩:=trodAll_cons hA;obtain⟨rfl,rfl,rfl⟩:=trodAll_nil r0;obtain rfl:args=#[v0]:=by cases args;simp_all
 obtain⟨D0,stg0,ks0,bs0,cs0,rfl,hg0,hs0⟩:=zCe (hval 0 34 v0 rfl rfl) h0 (zBx (i:=0) hsz rfl rfl) (Nat.le_trans (zB1 (by simp)) hbk);exact walk W D0 stg0 ks0 bs0 cs0 hg0 hs0
theorem autoPlans_holds:Rows.AutoPlansUptoSaid:=
 OpenClaim.holds_of_cond 5 Try.f5 rfl rfl rfl rfl rfl rfl rfl ⟨rfl,rfl,rfl,rfl,rfl⟩ rfl rfl rfl rfl rfl (by kernel_rfl) Try.func5 (by kernel_rfl)
  (of_decide_eq_true (by kernel_rfl)) (by unfold Func.isWrapper;first|(rw[if_pos (by decide+kernel)];kernel_rfl)|(rw[if_neg (by decide+kernel)];exact⟨rfl,rfl⟩))
  (fun os started H enc _ F=>lifted os started H enc F)
#print axioms autoPlans_holds
end Go.Proofs.Ytbjnhllkdilpfaa.autoPlans
