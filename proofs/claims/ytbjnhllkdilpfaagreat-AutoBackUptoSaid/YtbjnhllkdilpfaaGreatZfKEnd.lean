/- AutoBack holds of what is of bounded bulk. No conditions. -/
import Derived.Test.YtbjnhllkdilpfaaGreatZf01
import Derived.Test.YtbjnhllkdilpfaaGreatZf38
import Derived.Test.YtbjnhllkdilpfaaGreatZf53
import Derived.Test.YtbjnhllkdilpfaaGreatZf57
namespace Go.Proofs.YtbjnhllkdilpfaaGreat.autoBack
set_option maxRecDepth 100000
set_option maxHeartbeats 16000000
open Go.ChangeShapes Go.WideShapes Go.ChangeAt Go.RowKit
open Go.ChangeMaps (open_string shut_string)
set_option linter.unusedSimpArgs false
set_option linter.unusedVariables false
theorem walk (W0:World) (s:ai) (hs:s.ok W0 W0.heap.size) (hl:s.types.length<=1048576) (tx:ByteArray):
  Calls Tryz.prog 4 #[s.val,.string tx] W0 fun e W'=>e=.returned (.bool true)/\Below W0.heap.size W0 W':=zD6 s tx W0 hs hl
theorem own:ownKnob Tryz.prog.godebug=none:=by kernel_rfl
theorem laidOut:laidOutB Tryz.prog=true:=by kernel_rfl
theorem rec0:(Tryz.f4.params.toList.all fun t=>Tryz.prog.readableRec t&&decide (t<Tryz.prog.types.size))=true:=by kernel_rfl
theorem lifted (os:Os) (started:os.Started) (H:Type) (enc:TypeId×Value->H) (F:Stop.Interp):
  ReturnsInHanded {} Tryz.checked os 4 .any ((Rows.OpenSpec.upto Rows.autoBackSpec).pre6 enc Tryz.prog Tryz.f4 Rows.autoBackUptoRow.domain false) (((Rows.OpenSpec.upto Rows.autoBackSpec).at F).post enc Tryz.prog Tryz.f4 false true false false):=by
 refine zD8 (C:=Tryz.checked) (s:=Rows.autoBackSpec) (P:=4) own started (by kernel_rfl) Tryz.func4
  (OpenSpec.witness (enc:=enc) (C:=Tryz.checked) (s:=Rows.OpenSpec.upto Rows.autoBackSpec) (k:=Rows.uptoSmall) rfl false ⟨#[],#[.agg #[.slice none 0 0,.slice none 0 0],.string ⟨#[]⟩],[]⟩ 8 (by kernel_rfl) (by kernel_rfl) (by kernel_rfl)
   (x:=([.agg [.nil,.nil],.lit (.string [])],[],[])) (by kernel_rfl) rfl (by kernel_rfl)) laidOut ?_ rfl Tryz.underlying4 rfl ?_ ?_
 ·intro t ht;have:=List.all_eq_true.1 rec0 t ht;simp only[Bool.and_eq_true,decide_eq_true_eq]at this;exact this
 ·intro ds hd
  match ds,hd with
  |[d0,d1],_=>exact⟨rfl,rfl,rfl⟩
 intro W base args ds p hval hA hsz hbk;rw[Tryz.params4]at hA hval hsz;obtain⟨v0,vs0,d0,ds0,p0,q0,hargs,rfl,rfl,h0,r0⟩:=trodAll_cons hA;obtain⟨v1,vs1,d1,ds1,p1,q1,rfl,rfl,rfl,h1,r1⟩:=trodAll_cons r0;obtain⟨rfl,rfl,rfl⟩:=trodAll_nil r1;obtain rfl:args=#[v0,v1]:=by cases args;simp_all
 obtain⟨s0,rfl,hs0,hl0⟩:=Zi (hval 0 25 v0 rfl rfl) h0 (rP (i:=0) hsz rfl rfl) (Nat.le_trans (Gi (by simp)) hbk);obtain⟨jv,rfl⟩:=zD7 (hval 1 9 v1 rfl rfl) h1 (rP (i:=1) hsz rfl rfl) (Nat.le_trans (Gi (by simp)) hbk);exact walk W s0 hs0 hl0 jv
theorem autoBack_holds:Rows.AutoBackUptoSaid:=
 OpenClaim.holds_of_cond 4 Tryz.f4 rfl rfl rfl rfl rfl rfl rfl ⟨rfl,rfl,rfl,rfl,rfl⟩ rfl rfl rfl rfl rfl (by kernel_rfl) Tryz.func4 (by kernel_rfl)
  (of_decide_eq_true (by kernel_rfl)) (by unfold Func.isWrapper;first|(rw[if_pos (by decide+kernel)];kernel_rfl)|(rw[if_neg (by decide+kernel)];exact⟨rfl,rfl⟩))
  (fun os started H enc _ F=>lifted os started H enc F)
#print axioms autoBack_holds
end Go.Proofs.YtbjnhllkdilpfaaGreat.autoBack
