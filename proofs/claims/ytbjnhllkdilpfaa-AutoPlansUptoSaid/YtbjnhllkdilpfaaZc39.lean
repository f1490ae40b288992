/- Part 39 of the proof. No conditions. -/
import Derived.Test.YtbjnhllkdilpfaaZc29
import Derived.Test.YtbjnhllkdilpfaaZc38
namespace Go.Proofs.Ytbjnhllkdilpfaa
open Go.RowKit
set_option maxRecDepth 100000
set_option maxHeartbeats 16000000
set_option linter.unusedVariables false
set_option linter.unusedSimpArgs false
theorem oh {e p:Nat} {m:MS} (he:e≠0):(dC e p m).err≠0:=by
 unfold dC
 split
 ·exact he
 ·assumption
theorem IA {s:ai} {op:Nat} {nm a:Str} {p:Nat} {m:MS} (h:(nM s op nm a p m).2.err=0):(nM s op nm a p m).2=m:=by
 unfold nM at h⊢
 split
 ·rename_i hc;rw[if_pos hc]at h;exact absurd h (oh (by decide))
 ·rename_i hc
  rw[if_neg hc]at h
  split
  ·rename_i hc2;rw[if_pos hc2]at h;exact absurd h (oh (by decide))
  ·rfl
theorem o7 {s:ai} {op:Nat} {nm a:Str} {p:Nat} {ks:List Int} {m:MS} (h:(mg s op nm a p ks m).2.err=0):(mg s op nm a p ks m).2=m:=by
 unfold mg at h⊢
 split
 ·rfl
 ·rename_i h0
  rw[if_neg h0]at h
  split
  ·rfl
  ·rename_i h1
   rw[if_neg h1]at h
   split
   ·rfl
   ·rename_i h2
    rw[if_neg h2]at h
    split
    ·rfl
    ·rename_i h3
     rw[if_neg h3]at h
     split
     ·rename_i h4
      rw[if_pos h4]at h;simp only at h⊢
      split
      ·rename_i h5;rw[if_pos h5]at h;exact absurd h (oh (by decide))
      ·rfl
     ·rename_i h4
      rw[if_neg h4]at h
      split
      ·rename_i h5;rw[if_pos h5]at h;exact IA h
      ·rename_i h5
       rw[if_neg h5]at h;simp only at h⊢
       split
       ·rename_i h6;rw[if_pos h6]at h;exact absurd h (oh (by decide))
       ·rfl
theorem pq (s:ai):∀(e:ax) (m:MS),(dW s e m).2.err=0->(dW s e m).2=m/\Ii s m e
 |.leaf op n sc nm a p,m,h=>⟨o7 h,o7 h⟩
 |.un op x p,m,h=>by
  have h1:(dW s (.un op x p) m).2=(dW s x m).2:=o7 h;have h2:=pq s x m (by rw[<-h1];exact h);exact⟨h1.trans h2.1,h1.trans h2.1,h2.2⟩
 |.bin op x y p,m,h=>by
  have h1:(dW s (.bin op x y p) m).2=(dW s y (dW s x m).2).2:=o7 h;have h2:=pq s y (dW s x m).2 (by rw[<-h1];exact h);have h3:=pq s x m (by rw[<-h2.1,<-h1];exact h);have e:=(h1.trans h2.1).trans h3.1;exact⟨e,e,h3.2,by have:=h2.2;rw[h3.1]at this;exact this⟩
theorem OL {op n sc k:Nat} {nm a:Str} (h:kD op n sc nm a k=true):sc<=14:=by
 rcases hv:kK op n sc nm a with _|⟨m,x,y,z⟩
 ·rw[iL hv]at h;cases h
 ·rw[dX hv]at h;simp only[Bool.and_eq_true,beq_iff_eq]at h;obtain⟨⟨⟨_,_⟩,hz⟩,_⟩:=h;subst hz;unfold kK at hv
  (repeat' split at hv)<;>first|(simp at hv;omega)|cases hv
theorem sN:∀e:ax,dM e=true->kF e->Ox e
 |.leaf op n sc nm a p,h,hb=>⟨hb,by have:=OL h;omega⟩
 |.un op x p,h,hb=>sN x (by unfold dM at h;simp only[Bool.and_eq_true]at h;exact h.2) hb
 |.bin op x y p,h,hb=>by
  unfold dM at h;simp only[Bool.and_eq_true]at h;exact⟨sN x h.2.1 hb.1,sN y h.2.2 hb.2⟩
theorem sO:∀e:ax,dM e=true->opsE e
 |.leaf ..,h=>trivial
 |.un op x p,h=>by
  unfold dM at h;simp only[Bool.and_eq_true]at h;have:=Ir h.1;unfold Su at this;exact⟨by omega,sO x h.2⟩
 |.bin op x y p,h=>by
  unfold dM at h;simp only[Bool.and_eq_true]at h;have:=DY h.1;unfold Su at this;exact⟨by omega,sO x h.2.1,sO y h.2.2⟩
theorem sQ:∀e:ax,zg e<=aB e
 |.leaf ..=>Nat.le_refl _
 |.un op x p=>by have:=sQ x;show zg x+1<=1+aB x;omega
 |.bin op x y p=>by
  have:=sQ x;have:=sQ y
  show max (zg x) (zg y)+1<=1+aB x+aB y
  omega
end Go.Proofs.Ytbjnhllkdilpfaa
