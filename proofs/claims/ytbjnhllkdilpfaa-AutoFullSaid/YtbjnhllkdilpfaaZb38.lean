/- Part 38 of the proof. No conditions. -/
import Derived.Test.YtbjnhllkdilpfaaZb29
import Derived.Test.YtbjnhllkdilpfaaZb37
namespace Go.Proofs.Ytbjnhllkdilpfaa
open Go.RowKit
set_option linter.unusedSimpArgs false
set_option linter.unusedVariables false
theorem nJ {e p:Nat} {m:MS} (he:e≠0):(dI e p m).err≠0:=by
 unfold dI
 split
 ·exact he
 ·assumption
theorem Gf {s:ah} {op:Nat} {nm a:Str} {p:Nat} {m:MS} (h:(mY s op nm a p m).2.err=0):(mY s op nm a p m).2=m:=by
 unfold mY at h⊢
 split
 ·rename_i hc;rw[if_pos hc]at h;exact absurd h (nJ (by decide))
 ·rename_i hc
  rw[if_neg hc]at h
  split
  ·rename_i hc2;rw[if_pos hc2]at h;exact absurd h (nJ (by decide))
  ·rfl
theorem oD {s:ah} {op:Nat} {nm a:Str} {p:Nat} {ks:List Int} {m:MS} (h:(lM s op nm a p ks m).2.err=0):(lM s op nm a p ks m).2=m:=by
 unfold lM at h⊢
 split
 ·rfl
 ·rename_i h0
  rw[if_neg h0]at h
  split
  ·rfl
  ·rename_i h1
   rw[if_neg h1]at h
   split
   ·rfl
   ·rename_i h2
    rw[if_neg h2]at h
    split
    ·rfl
    ·rename_i h3
     rw[if_neg h3]at h
     split
     ·rename_i h4
      rw[if_pos h4]at h;simp only at h⊢
      split
      ·rename_i h5;rw[if_pos h5]at h;exact absurd h (nJ (by decide))
      ·rfl
     ·rename_i h4
      rw[if_neg h4]at h
      split
      ·rename_i h5;rw[if_pos h5]at h;exact Gf h
      ·rename_i h5
       rw[if_neg h5]at h;simp only at h⊢
       split
       ·rename_i h6;rw[if_pos h6]at h;exact absurd h (nJ (by decide))
       ·rfl
theorem oG (s:ah):∀(e:au) (m:MS),(dX s e m).2.err=0->(dX s e m).2=m/\FQ s m e
 |.leaf op n sc nm a p,m,h=>⟨oD h,oD h⟩
 |.un op x p,m,h=>by
  have h1:(dX s (.un op x p) m).2=(dX s x m).2:=oD h;have h2:=oG s x m (by rw[<-h1];exact h);exact⟨h1.trans h2.1,h1.trans h2.1,h2.2⟩
 |.bin op x y p,m,h=>by
  have h1:(dX s (.bin op x y p) m).2=(dX s y (dX s x m).2).2:=oD h;have h2:=oG s y (dX s x m).2 (by rw[<-h1];exact h);have h3:=oG s x m (by rw[<-h2.1,<-h1];exact h);have e:=(h1.trans h2.1).trans h3.1;exact⟨e,e,h3.2,by have:=h2.2;rw[h3.1]at this;exact this⟩
theorem Ld {op n sc k:Nat} {nm a:Str} (h:jP op n sc nm a k=true):sc<=14:=by
 rcases hv:jW op n sc nm a with _|⟨m,x,y,z⟩
 ·rw[iF hv]at h;cases h
 ·rw[dY hv]at h;simp only[Bool.and_eq_true,beq_iff_eq]at h;obtain⟨⟨⟨_,_⟩,hz⟩,_⟩:=h;subst hz;unfold jW at hv
  (repeat' split at hv)<;>first|(simp at hv;omega)|cases hv
theorem qY:∀e:au,dO e=true->jQ e->KN e
 |.leaf op n sc nm a p,h,hb=>⟨hb,by have:=Ld h;omega⟩
 |.un op x p,h,hb=>qY x (by unfold dO at h;simp only[Bool.and_eq_true]at h;exact h.2) hb
 |.bin op x y p,h,hb=>by
  unfold dO at h;simp only[Bool.and_eq_true]at h;exact⟨qY x h.2.1 hb.1,qY y h.2.2 hb.2⟩
theorem qZ:∀e:au,dO e=true->opsE e
 |.leaf ..,h=>trivial
 |.un op x p,h=>by
  unfold dO at h;simp only[Bool.and_eq_true]at h;have:=F5 h.1;unfold OM at this;exact⟨by omega,qZ x h.2⟩
 |.bin op x y p,h=>by
  unfold dO at h;simp only[Bool.and_eq_true]at h;have:=CJ h.1;unfold OM at this;exact⟨by omega,qZ x h.2.1,qZ y h.2.2⟩
theorem rq:∀e:au,xQ e<=aG e
 |.leaf ..=>Nat.le_refl _
 |.un op x p=>by have:=rq x;show xQ x+1<=1+aG x;omega
 |.bin op x y p=>by
  have:=rq x;have:=rq y
  show max (xQ x) (xQ y)+1<=1+aG x+aG y
  omega
end Go.Proofs.Ytbjnhllkdilpfaa
