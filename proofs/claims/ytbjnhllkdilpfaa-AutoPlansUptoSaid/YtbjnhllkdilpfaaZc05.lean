/- Part 5 of the proof. No conditions. -/
import Derived.Test.YtbjnhllkdilpfaaZc01
namespace Go.Proofs.Ytbjnhllkdilpfaa
set_option linter.unusedSimpArgs false
set_option linter.unusedVariables false
section
variable {α:Type} {le:α->α->Prop}
def fG (le:α->α->Prop) (l:List α) (a b:Nat):Prop:=∀(i j:Nat) (x y:α),a<=i->i<j->j<b->l[i]? =some x->l[j]? =some y->le x y
def zBf (l l':List α) (a b:Nat):Prop:=∀(i:Nat) (x:α),a<=i->i<b->l'[i]? =some x->∃j,a<=j/\j<b/\l[j]? =some x
structure bH (l l':List α) (a b:Nat):Prop where
 perm:l'.Perm l
 out:∀i,i<a\/b<=i->l'[i]? =l[i]?
 IU:zBf l l' a b
theorem bH.refl (l:List α) (a b:Nat):bH l l a b:=⟨List.Perm.refl _,fun _ _=>rfl,fun i x h1 h2 h=>⟨i,h1,h2,h⟩⟩
theorem bH.len {l l':List α} {a b:Nat} (h:bH l l' a b):l'.length=l.length:=h.perm.length_eq
theorem bH.trans {l l' l'':List α} {a b:Nat} (h:bH l l' a b) (h2:bH l' l'' a b):bH l l'' a b:=
 ⟨h2.perm.trans h.perm,fun i hi=>(h2.out i hi).trans (h.out i hi),fun i x h3 h4 hx=>by
  obtain⟨j,j1,j2,j3⟩:=h2.IU i x h3 h4 hx
  exact h.IU j x j1 j2 j3⟩
theorem bH.wide {l l':List α} {a b a' b':Nat} (h:bH l l' a b) (ha:a'<=a) (hb:b<=b'):bH l l' a' b':=
 ⟨h.perm,fun i hi=>h.out i (by omega),fun i x h1 h2 hx=>by
  by_cases hi:a<=i/\i<b
  ·obtain⟨j,j1,j2,j3⟩:=h.IU i x hi.1 hi.2 hx;exact⟨j,by omega,by omega,j3⟩
  ·exact⟨i,h1,h2,by rw[<-h.out i (by omega)];exact hx⟩⟩
def lG (l:List α) (i j:Nat):List α:=match l[i]?,l[j]? with
 |some x,some y=>(l.set i y).set j x
 |_,_=>l
theorem mG {l:List α} {i j:Nat} {x y:α} (hx:l[i]? =some x) (hy:l[j]? =some y):lG l i j=(l.set i y).set j x:=by unfold lG;rw[hx,hy]
theorem kH {l:List α} {i j:Nat} (hi:i<l.length) (hj:j<l.length) (k:Nat):(lG l i j)[k]? =if k=j then l[i]? else if k=i then l[j]? else l[k]? :=by
 rw[mG (List.getElem?_eq_getElem hi) (List.getElem?_eq_getElem hj),List.getElem?_set]
 by_cases h1:j=k
 ·subst h1;rw[if_pos rfl,if_pos rfl,if_pos (by simpa using hj),List.getElem?_eq_getElem hi]
 ·rw[if_neg h1,if_neg (fun e=>h1 e.symm),List.getElem?_set]
  by_cases h2:i=k
  ·subst h2;rw[if_pos rfl,if_pos rfl,if_pos hi,List.getElem?_eq_getElem hj]
  ·rw[if_neg h2,if_neg (fun e=>h2 e.symm)]
theorem set_perm:∀{l:List α} {i:Nat} {x y:α},l[i]? =some x->(y::l).Perm (x::l.set i y)
 |[],_,_,_,h=>by simp at h
 |z::l,0,x,y,h=>by
  injection h with h
  subst h;exact List.Perm.swap _ _ _
 |z::l,i+1,x,y,h=>by
  have h':l[i]? =some x:=by simpa using h
  exact(List.Perm.swap z y l).trans (((set_perm h').cons z).trans (List.Perm.swap x z _))
theorem La {l:List α} {i j:Nat} (hi:i<l.length) (hj:j<l.length):(lG l i j).Perm l:=by
 by_cases hij:i=j
 ·subst hij;rw[mG (List.getElem?_eq_getElem hi) (List.getElem?_eq_getElem hi)];simp
 ·have hx:=List.getElem?_eq_getElem hi;have hy:=List.getElem?_eq_getElem hj;rw[mG hx hy];generalize l[i]=x at *;generalize l[j]=y at *;have h1:(y::l).Perm (x::l.set i y):=set_perm hx;have hy2:(l.set i y)[j]? =some y:=by rw[List.getElem?_set_ne hij];exact hy
  have h2:(x::l.set i y).Perm (y::(l.set i y).set j x):=set_perm hy2;exact(List.Perm.cons_inv (h1.trans h2)).symm
theorem kY {l:List α} {a b i j:Nat} (hi:i<l.length) (hj:j<l.length) (h1:a<=i) (h2:i<b) (h3:a<=j) (h4:j<b):bH l (lG l i j) a b:=by
 refine⟨La hi hj,fun k hk=>?_,fun k x hk1 hk2 hx=>?_⟩
 ·rw[kH hi hj,if_neg (by omega),if_neg (by omega)]
 ·rw[kH hi hj]at hx
  by_cases e1:k=j
  ·rw[if_pos e1]at hx;exact⟨i,h1,h2,hx⟩
  ·rw[if_neg e1]at hx
   by_cases e2:k=i
   ·rw[if_pos e2]at hx;exact⟨j,h3,h4,hx⟩
   ·rw[if_neg e2]at hx;exact⟨k,hk1,hk2,hx⟩
theorem fG.nil {l:List α} {a b:Nat} (h:b<=a+1):fG le l a b:=fun i j x y h1 h2 h3=>by omega
theorem fG.sub {l:List α} {a b a' b':Nat} (h:fG le l a b) (h1:a<=a') (h2:b'<=b):fG le l a' b':=fun i j x y h3 h4 h5 hx hy=>h i j x y (by omega) h4 (by omega) hx hy
theorem fG.same {l l':List α} {a b:Nat} (h:fG le l a b) (hs:∀i,a<=i->i<b->l'[i]? =l[i]?):fG le l' a b:=fun i j x y h1 h2 h3 hx hy=>h i j x y h1 h2 h3 ((hs i h1 (by omega)).symm.trans hx) ((hs j (by omega) h3).symm.trans hy)
def Split (le:α->α->Prop) (l:List α) (a m b:Nat):Prop:=∀(i j:Nat) (x y:α),a<=i->i<m->m<=j->j<b->l[i]? =some x->l[j]? =some y->le x y
theorem fG.join {l:List α} {a m b:Nat} (h1:fG le l a m) (h2:fG le l m b) (hs:Split le l a m b):fG le l a b:=by
 intro i j x y ha hij hb hx hy
 by_cases hi:i<m
 ·by_cases hj:j<m
  ·exact h1 i j x y ha hij hj hx hy
  ·exact hs i j x y ha hi (by omega) hb hx hy
 ·exact h2 i j x y (by omega) hij hb hx hy
theorem Split.moved {l l' l'':List α} {a m b:Nat} (h:Split le l a m b) (h1:bH l l' a m) (h2:bH l' l'' m b):Split le l'' a m b:=by
 intro i j x y hi1 hi2 hj1 hj2 hx hy;have hx':l'[i]? =some x:=by rw[<-h2.out i (by omega)];exact hx
 obtain⟨j',q1,q2,q3⟩:=h2.IU j y hj1 hj2 hy;have q3':l[j']? =some y:=by rw[<-h1.out j' (by omega)];exact q3
 obtain⟨i',r1,r2,r3⟩:=h1.IU i x hi1 hi2 hx';exact h i' j' x y r1 r2 q1 q2 r3 q3'
structure fH (l l':List α) (s m e:Nat):Prop where
 moved:bH l l' s e
 fst:∀i,i<e-m->l'[s+i]? =l[m+i]?
 snd:∀i,i<m-s->l'[s+(e-m)+i]? =l[s+i]?
theorem Fe {l l' : List α} {a m b s e mid : Nat} (hle : ∀ x y z, le x y → le y z → le x z) (hrf : ∀ x, le x x) (ham : a ≤ s) (hsm : s ≤ m) (hme : m ≤ e) (heb : e ≤ b) (hmid : mid = s + (e - m)) (h1 : fG le l a m) (h2 : fG le l m b)
  (hlow:a<s->e<b->∀x y,l[s-1]? =some x->l[e]? =some y->le x y) (hhigh:m<e->s<m->∀x y,l[e-1]? =some x->l[s]? =some y->le x y) (hlen:b<=l.length) (hr:fH l l' s m e):
  fG le l' a s/\fG le l' s mid/\fG le l' mid e/\fG le l' e b/\Split le l' a mid b:=by
 subst hmid;have o1:∀i,i<s->l'[i]? =l[i]? :=fun i hi=>hr.moved.out i (by omega)
 have o2:∀i,e<=i->l'[i]? =l[i]? :=fun i hi=>hr.moved.out i (by omega)
 have f1:∀i,s<=i->i<s+(e-m)->l'[i]? =l[i+m-s]? :=fun i h1 h2=>by
  have:=hr.fst (i-s) (by omega)
  rwa [show s+(i-s)=i by omega,show m+(i-s)=i+m-s by omega]at this
 have f2:∀i,s+(e-m)<=i->i<e->l'[i]? =l[i-(e-m)]? :=fun i h1 h2=>by
  have:=hr.snd (i-(s+(e-m))) (by omega)
  rwa [show s+(e-m)+(i-(s+(e-m)))=i by omega,show s+(i-(s+(e-m)))=i-(e-m) by omega]at this
 have XO:∀(i j:Nat) (x y:α),a<=i->i<=j->j<m->l[i]? =some x->l[j]? =some y->le x y:=fun i j x y q1 q2 q3 hx hy=>by
  by_cases hij:i=j
  ·subst hij;rw[hx]at hy;injection hy with hy;subst hy;exact hrf _
  ·exact h1 i j x y q1 (by omega) q3 hx hy
 have TM:∀(i j:Nat) (x y:α),m<=i->i<=j->j<b->l[i]? =some x->l[j]? =some y->le x y:=fun i j x y q1 q2 q3 hx hy=>by
  by_cases hij:i=j
  ·subst hij;rw[hx]at hy;injection hy with hy;subst hy;exact hrf _
  ·exact h2 i j x y q1 (by omega) q3 hx hy
 have get:∀i,i<l.length->∃x,l[i]? =some x:=fun i hi=>⟨_,List.getElem?_eq_getElem hi⟩
 have WG:∀(i j:Nat) (x y:α),a<=i->i<s->e<=j->j<b->l[i]? =some x->l[j]? =some y->le x y:=fun i j x y q1 q2 q3 q4 hx hy=>by
  obtain⟨u,hu⟩:=get (s-1) (by omega);obtain⟨v,hv⟩:=get e (by omega);exact hle _ _ _ (XO i (s-1) x u q1 (by omega) (by omega) hx hu) (hle _ _ _ (hlow (by omega) (by omega) u v hu hv) (TM e j v y (by omega) q3 q4 hv hy))
 have WH:∀(i j:Nat) (x y:α),m<=i->i<e->s<=j->j<m->l[i]? =some x->l[j]? =some y->le x y:=fun i j x y q1 q2 q3 q4 hx hy=>by
  obtain⟨u,hu⟩:=get (e-1) (by omega);obtain⟨v,hv⟩:=get s (by omega);exact hle _ _ _ (TM i (e-1) x u q1 (by omega) (by omega) hx hu) (hle _ _ _ (hhigh (by omega) (by omega) u v hu hv) (XO s j v y ham q3 q4 hv hy))
 refine⟨?_,?_,?_,?_,?_⟩
 ·exact(h1.sub zL hsm).same fun i _ hi=>o1 i hi
 ·intro i j x y q1 q2 q3 hx hy;rw[f1 i q1 (by omega)]at hx;rw[f1 j (by omega) q3]at hy;exact h2 _ _ x y (by omega) (by omega) (by omega) hx hy
 ·intro i j x y q1 q2 q3 hx hy;rw[f2 i q1 (by omega)]at hx;rw[f2 j (by omega) q3]at hy;exact h1 _ _ x y (by omega) (by omega) (by omega) hx hy
 ·exact(h2.sub hme zL).same fun i hi _=>o2 i hi
 ·intro i j x y q1 q2 q3 q4 hx hy
  by_cases hi:i<s
  ·rw[o1 i hi]at hx
   by_cases hj:j<e
   ·rw[f2 j q3 hj]at hy;exact h1 _ _ x y q1 (by omega) (by omega) hx hy
   ·rw[o2 j (by omega)]at hy;exact WG i j x y q1 hi (by omega) q4 hx hy
  ·rw[f1 i (by omega) q2]at hx
   by_cases hj:j<e
   ·rw[f2 j q3 hj]at hy;exact WH _ _ x y (by omega) (by omega) (by omega) (by omega) hx hy
   ·rw[o2 j (by omega)]at hy;exact TM _ _ x y (by omega) (by omega) q4 hx hy
end
section
variable {α:Type}
structure pX (l l':List α) (a b n:Nat):Prop where
 moved:bH l l' a (b+n)
 fst:∀t,t<n->l'[a+t]? =l[b+t]?
 snd:∀t,t<n->l'[b+t]? =l[a+t]?
 mid:∀x,a+n<=x->x<b->l'[x]? =l[x]?
theorem pX.zero (l:List α) (a b:Nat):pX l l a b 0:=⟨bH.refl _ _ _,fun t h=>by omega,fun t h=>by omega,fun _ _ _=>rfl⟩
theorem pX.step {l l':List α} {a b n:Nat} (h:pX l l' a b n) (hab:a+n+1<=b) (hlen:b+n<l.length):pX l (lG l' (a+n) (b+n)) a b (n+1):=by
 have hl:l'.length=l.length:=h.moved.len;have o1:l'[a+n]? =l[a+n]? :=h.mid _ zL (by omega);have o2:l'[b+n]? =l[b+n]? :=h.moved.out _ (.inr zL);have g:=fun k=>kH (l:=l') (i:=a+n) (j:=b+n) (by omega) (by omega) k
 refine⟨(h.moved.wide zL (by omega)).trans (kY (by omega) (by omega) (by omega) (by omega) (by omega) (by omega)),fun t ht=>?_,fun t ht=>?_,fun x h1 h2=>?_⟩
 ·rw[g,if_neg (by omega)]
  by_cases htn:t=n
  ·subst htn;rw[if_pos rfl];exact o2
  ·rw[if_neg (by omega)];exact h.fst t (by omega)
 ·rw[g]
  by_cases htn:t=n
  ·subst htn;rw[if_pos rfl];exact o1
  ·rw[if_neg (by omega),if_neg (by omega)];exact h.snd t (by omega)
 ·rw[g,if_neg (by omega),if_neg (by omega)];exact h.mid x (by omega) h2
theorem fH.none {l:List α} {s m e:Nat} (h:s=m\/m=e) (hsm:s<=m) (hme:m<=e):fH l l s m e:=by
 refine⟨bH.refl _ _ _,fun i hi=>?_,fun i hi=>?_⟩
 ·rcases h with h|h
  ·subst h;rfl
  ·omega
 ·rcases h with h|h
  ·omega
  ·subst h;rw[show s+(m-m)+i=s+i by omega]
theorem TN {l l1 l':List α} {m i j:Nat} (hij:j<i) (him:i<=m) (h:pX l l1 (m-i) m j) (hr:fH l1 l' (m-(i-j)) m (m+j)):fH l l' (m-i) m (m+j):=by
 refine⟨(h.moved.wide (by omega) (by omega)).trans (hr.moved.wide (by omega) (by omega)),fun t ht=>?_,fun t ht=>?_⟩
 ·rw[hr.moved.out _ (.inl (by omega)),h.fst t (by omega)]
 ·by_cases htj:t<j
  ·have:=hr.fst t (by omega);rw[show m-i+(m+j-m)+t=m-(i-j)+t by omega,this,h.snd t (by omega)]
  ·have:=hr.snd (t-j) (by omega);rw[show m-i+(m+j-m)+t=m-(i-j)+(m+j-m)+(t-j) by omega,this,h.mid _ (by omega) (by omega)]
   congr 1
   omega
theorem O3 {l l1 l':List α} {m i j:Nat} (hij:i<j) (him:i<=m) (h:pX l l1 (m-i) (m+j-i) i) (hr:fH l1 l' (m-i) m (m+(j-i))):fH l l' (m-i) m (m+j):=by
 refine⟨(h.moved.wide (by omega) (by omega)).trans (hr.moved.wide (by omega) (by omega)),fun t ht=>?_,fun t ht=>?_⟩
 ·by_cases htj:t<j-i
  ·rw[hr.fst t (by omega),h.mid _ (by omega) (by omega)]
  ·have:=hr.snd (t-(j-i)) (by omega);rw[show m-i+t=m-i+(m+(j-i)-m)+(t-(j-i)) by omega,this,h.fst _ (by omega)]
   congr 1
   omega
 ·have:=h.snd t (by omega);rw[hr.moved.out _ (.inr (by omega)),show m-i+(m+j-m)+t=m+j-i+t by omega,this]
theorem TP {l l1:List α} {m i:Nat} (him:i<=m) (h:pX l l1 (m-i) m i):fH l l1 (m-i) m (m+i):=by
 refine⟨h.moved,fun t ht=>h.fst t (by omega),fun t ht=>?_⟩;rw[show m-i+(m+i-m)+t=m+t by omega];exact h.snd t (by omega)
structure Up (l l':List α) (a k:Nat):Prop where
 moved:bH l l' a (k+1)
 down:∀x,a<=x->x<k->l'[x]? =l[x+1]?
 at_:l'[k]? =l[a]?
theorem Up.zero (l:List α) (a:Nat):Up l l a a:=⟨bH.refl _ _ _,fun x h1 h2=>by omega,rfl⟩
theorem Up.step {l l':List α} {a k:Nat} (h:Up l l' a k) (hak:a<=k) (hlen:k+1<l.length):Up l (lG l' k (k+1)) a (k+1):=by
 have hl:l'.length=l.length:=h.moved.len;have g:=fun x=>kH (l:=l') (i:=k) (j:=k+1) (by omega) (by omega) x
 refine⟨(h.moved.wide zL (by omega)).trans (kY (by omega) (by omega) (by omega) (by omega) (by omega) (by omega)),fun x h1 h2=>?_,?_⟩
 ·rw[g,if_neg (by omega)]
  by_cases hx:x=k
  ·subst hx;rw[if_pos rfl];exact h.moved.out _ (.inr zL)
  ·rw[if_neg hx];exact h.down x h1 (by omega)
 ·rw[g,if_pos rfl];exact h.at_
structure Dn (l l':List α) (k m:Nat):Prop where
 moved:bH l l' k (m+1)
 up:∀x,k<x->x<=m->l'[x]? =l[x-1]?
 at_:l'[k]? =l[m]?
theorem Dn.zero (l:List α) (m:Nat):Dn l l m m:=⟨bH.refl _ _ _,fun x h1 h2=>by omega,rfl⟩
theorem Dn.step {l l':List α} {k m:Nat} (h:Dn l l' (k+1) m) (hkm:k+1<=m) (hlen:m<l.length):Dn l (lG l' (k+1) k) k m:=by
 have hl:l'.length=l.length:=h.moved.len;have g:=fun x=>kH (l:=l') (i:=k+1) (j:=k) (by omega) (by omega) x
 refine⟨(h.moved.wide (by omega) zL).trans (kY (by omega) (by omega) (by omega) (by omega) (by omega) (by omega)),fun x h1 h2=>?_,?_⟩
 ·rw[g,if_neg (by omega)]
  by_cases hx:x=k+1
  ·subst hx;rw[if_pos rfl,h.moved.out k (.inl (by omega))];rfl
  ·rw[if_neg hx];exact h.up x (by omega) h2
 ·rw[g,if_pos rfl];exact h.at_
end
section
variable {α:Type} {lt:α->α->Bool}
def Le (lt:α->α->Bool) (x y:α):Prop:=lt y x=false
theorem ZY {l l' : List α} {a b i : Nat} (htr : ∀ x y z, Le lt x y → Le lt y z → Le lt x z) (has : ∀ x y, lt x y = true → Le lt x y) (hab : a + 1 ≤ i) (hib : i ≤ b) (h : fG (Le lt) l (a + 1) b) (hup : Up l l' a (i - 1))
  (h1:∀(x:Nat) (u v:α),a+1<=x->x<i->l[x]? =some u->l[a]? =some v->lt u v=true) (h2:∀(x:Nat) (u v:α),i<=x->x<b->l[x]? =some u->l[a]? =some v->lt u v=false):fG (Le lt) l' a b:=by
 intro p q x y hp hpq hq hx hy;have low:∀z,a<=z->z<i-1->l'[z]? =l[z+1]? :=hup.down;have high:∀z,i<=z->l'[z]? =l[z]? :=fun z hz=>hup.moved.out z (.inr (by omega))
 have at_:=hup.at_
 by_cases hp1:p<i-1
 ·rw[low p hp hp1]at hx
  by_cases hq1:q<i-1
  ·rw[low q (by omega) hq1]at hy;exact h _ _ x y (by omega) (by omega) (by omega) hx hy
  ·by_cases hq2:q=i-1
   ·rw[hq2,at_]at hy;exact has _ _ (h1 (p+1) x y (by omega) (by omega) hx hy)
   ·rw[high q (by omega)]at hy;exact h _ _ x y (by omega) (by omega) hq hx hy
 ·by_cases hp2:p=i-1
  ·rw[hp2,at_]at hx;rw[high q (by omega)]at hy;exact h2 q y x (by omega) hq hy hx
  ·rw[high p (by omega)]at hx;rw[high q (by omega)]at hy;exact h p q x y (by omega) hpq hq hx hy
theorem ZZ {l l' : List α} {a m i : Nat} (has : ∀ x y, lt x y = true → Le lt x y) (hai : a ≤ i) (him : i ≤ m) (h : fG (Le lt) l a m) (hdn : Dn l l' i m)
  (h1:∀(x:Nat) (u v:α),a<=x->x<i->l[x]? =some u->l[m]? =some v->lt v u=false) (h2:∀(x:Nat) (u v:α),i<=x->x<m->l[x]? =some u->l[m]? =some v->lt v u=true):fG (Le lt) l' a (m+1):=by
 intro p q x y hp hpq hq hx hy;have low:∀z,z<i->l'[z]? =l[z]? :=fun z hz=>hdn.moved.out z (.inl hz)
 have high:∀z,i<z->z<=m->l'[z]? =l[z-1]? :=hdn.up;have at_:=hdn.at_
 by_cases hp1:p<i
 ·rw[low p hp1]at hx
  by_cases hq1:q<i
  ·rw[low q hq1]at hy;exact h p q x y hp hpq (by omega) hx hy
  ·by_cases hq2:q=i
   ·rw[hq2,at_]at hy;exact h1 p x y hp hp1 hx hy
   ·rw[high q (by omega) (by omega)]at hy;exact h p (q-1) x y hp (by omega) (by omega) hx hy
 ·by_cases hp2:p=i
  ·rw[hp2,at_]at hx;rw[high q (by omega) (by omega)]at hy;exact has _ _ (h2 (q-1) y x (by omega) (by omega) hy hx)
  ·rw[high p (by omega) (by omega)]at hx;rw[high q (by omega) (by omega)]at hy;exact h (p-1) (q-1) x y (by omega) (by omega) (by omega) hx hy
structure Ins (lt:α->α->Bool) (l:List α) (a j i:Nat):Prop where
 rest:∀(p q:Nat) (x y:α),a<=p->p<q->q<=i->p≠j->q≠j->l[p]? =some x->l[q]? =some y->Le lt x y
 behind:∀(q:Nat) (x y:α),j<q->q<=i->l[j]? =some x->l[q]? =some y->Le lt x y
theorem Ins.start {l:List α} {a i:Nat} (h:fG (Le lt) l a i):Ins lt l a i i:=⟨fun p q x y h1 h2 h3 h4 h5 hx hy=>h p q x y h1 h2 (by omega) hx hy,fun q x y h1 h2=>by omega⟩
theorem Ins.step {l:List α} {a j i:Nat} (has:∀x y,lt x y=true->Le lt x y) (h:Ins lt l a (j+1) i) (hj:a<=j) (hji:j+1<=i) (hlen:i<l.length) (hlt:∀x y,l[j+1]? =some x->l[j]? =some y->lt x y=true):Ins lt (lG l (j+1) j) a j i:=by
 have g:=fun x=>kH (l:=l) (i:=j+1) (j:=j) (by omega) (by omega) x
 refine⟨fun p q x y h1 h2 h3 h4 h5 hx hy=>?_,fun q x y h1 h2 hx hy=>?_⟩
 ·rw[g,if_neg h4]at hx;rw[g,if_neg h5]at hy
  by_cases hp:p=j+1
  ·rw[if_pos hp]at hx;rw[if_neg (by omega)]at hy;exact h.rest j q x y hj (by omega) h3 (by omega) (by omega) hx hy
  ·rw[if_neg hp]at hx
   by_cases hq:q=j+1
   ·rw[if_pos hq]at hy;exact h.rest p j x y h1 (by omega) (by omega) hp (by omega) hx hy
   ·rw[if_neg hq]at hy;exact h.rest p q x y h1 h2 h3 hp hq hx hy
 ·rw[g,if_pos rfl]at hx;rw[g,if_neg (by omega)]at hy
  by_cases hq:q=j+1
  ·rw[if_pos hq]at hy;exact has _ _ (hlt x y hx hy)
  ·rw[if_neg hq]at hy;exact h.behind q x y (by omega) h2 hx hy
theorem Ins.done {l:List α} {a j i:Nat} (htr:∀x y z,Le lt x y->Le lt y z->Le lt x z) (h:Ins lt l a j i) (hj:a<=j) (hji:j<=i) (hlen:i<l.length) (hst:j=a\/∃k,j=k+1/\a<=k/\∀x y,l[k+1]? =some x->l[k]? =some y->lt x y=false):fG (Le lt) l a (i+1):=by
 intro p q x y h1 h2 h3 hx hy
 by_cases hp:p=j
 ·subst hp;exact h.behind q x y h2 (by omega) hx hy
 ·by_cases hq:q=j
  ·subst hq;rcases hst with h0|⟨k,rfl,hk,hle⟩
   ·omega
   ·have hk':=List.getElem?_eq_getElem (l:=l) (i:=k) (by omega);have hky:=hle _ _ hy hk'
    by_cases hpk:p=k
    ·subst hpk;rw[hk']at hx;injection hx with hx
     rw[<-hx];exact hky
    ·exact htr _ _ _ (h.rest p k x _ h1 (by omega) (by omega) hp (by omega) hx hk') hky
  ·exact h.rest p q x y h1 h2 (by omega) hp hq hx hy
end
end Go.Proofs.Ytbjnhllkdilpfaa
