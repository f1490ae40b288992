/- Part 41 of the proof. No conditions. -/
import Derived.Test.YtbjnhllkdilpfaaZb30
import Derived.Test.YtbjnhllkdilpfaaZb31
import Derived.Test.YtbjnhllkdilpfaaZb40
namespace Go.Proofs.Ytbjnhllkdilpfaa
open Go.RowKit
set_option linter.unusedSimpArgs false
set_option linter.unusedVariables false
def prT (p:Nat×Int):oU:=⟨p.1,p.2,[],[]⟩
def mZ (s:ah) (win:Nat):Nat->List (List bu)->List qj->MS->List qj×MS
 |_,[],bs,m=>(bs,m)
 |i,l::r,bs,m=>mZ s win (i+1) r (bs++[⟨i,win,(Ci s i l 0 0 [] m).1.map prT⟩]) (Ci s i l 0 0 [] m).2
def ni (s:ah):List au->List qj->MS->List qj×MS
 |[],bs,m=>(bs,m)
 |x::l,bs,m=>ni s l (mG s x bs m).1 (mG s x bs m).2
structure lW where
 aS:Nat
 keys:List Int
 branches:List qj
def uS:lW:=⟨0,[],[]⟩
def DX (s:ah):Int:=uw (s.types.map sig) s.syms
def ms0:MS:=⟨[],0,0⟩
def mJ (s:ah) (q:bU):lW×Nat×Int:=
 if DX s≠0 then(uS,0,DX s)
 else if qi q≠0 then(uS,0,qi q)
 else if(ni s q.cond (mZ s q.window 0 q.branches [] ms0).1 (keysT s q.key q.keyAt (mZ s q.window 0 q.branches [] ms0).2).2).2.err≠0 then
  (uS,(ni s q.cond (mZ s q.window 0 q.branches [] ms0).1 (keysT s q.key q.keyAt (mZ s q.window 0 q.branches [] ms0).2).2).2.pos,(ni s q.cond (mZ s q.window 0 q.branches [] ms0).1 (keysT s q.key q.keyAt (mZ s q.window 0 q.branches [] ms0).2).2).2.err)
 else(⟨q.aS,(keysT s q.key q.keyAt (mZ s q.window 0 q.branches [] ms0).2).1,(ni s q.cond (mZ s q.window 0 q.branches [] ms0).1 (keysT s q.key q.keyAt (mZ s q.window 0 q.branches [] ms0).2).2).1⟩,0,0)
theorem zZ (s:ah) (br:Nat):∀(l:List bu) (i pos:Nat) (ps:List (Nat×Int)) (m:MS),(Ci s br l i pos ps m).1.length=ps.length+l.length/\(Ci s br l i pos ps m).2.items.length=m.items.length+l.length/\∀y∈(Ci s br l i pos ps m).2.items,y∈m.items\/(y.br=br/\y.part<i+l.length)
 |[],i,pos,ps,m=>⟨rfl,rfl,fun y hy=>.inl hy⟩
 |x::l,i,pos,ps,m=>by
  unfold Ci;simp only[];generalize hm1:(if(decide (typeAt s x.type<0)||(dW x.name m.items).2)=true then dI 10 x.pos m else m)=m1
  have h1:m1.items=m.items:=by
   rw[<-hm1];split
   ·exact dh _ _ _
   ·rfl
  generalize hm2:(if i=0/\x.form=3 then dI 15 x.pos m1 else m1)=m2
  have h2:m2.items=m.items:=by
   rw[<-hm2];split
   ·rw[dh,h1]
   ·exact h1
  have ih:=zZ s br l (i+1) (if x.form≠3 then pos+1 else pos) (ps++[(x.form,typeAt s x.type)]) ⟨m2.items++[⟨x.name,br,i,pos,x.form,typeAt s x.type⟩],m2.err,m2.pos⟩;refine⟨by rw[ih.1,List.length_append];simp;omega,by rw[ih.2.1];simp[h2];omega,fun y hy=>?_⟩;rcases ih.2.2 y hy with h|h
  ·rcases List.mem_append.1 h with h|h
   ·rw[h2]at h;exact .inl h
   ·simp only[List.mem_cons,List.not_mem_nil,or_false]at h;subst h;exact .inr ⟨rfl,by simp⟩
  ·exact .inr ⟨h.1,by simp;omega⟩
theorem InT.mono {bs:List qj} {y:cO} (h:InT bs y) (l:List qj):InT (bs++l) y:=by
 obtain⟨br,h1,h2⟩:=h;exact⟨br,by rw[List.getElem?_append_left (List.getElem?_eq_some_iff.1 h1).1];exact h1,h2⟩
theorem CQ (s : ah) (win : Nat) : ∀ (r : List (List bu)) (i : Nat) (bs : List qj) (m : MS), bs.length = i → (∀ y ∈ m.items, InT bs y) → (∀ b ∈ bs, 0 < b.ps.length ∧ ∀ p ∈ b.ps, p.gs = [] ∧ p.cs = []) → (∀ l ∈ r, 0 < l.length) →
  (mZ s win i r bs m).1.length=i+r.length/\(∀y∈(mZ s win i r bs m).2.items,InT (mZ s win i r bs m).1 y)/\(mZ s win i r bs m).2.items.length=m.items.length+(r.map List.length).sum/\∀b∈(mZ s win i r bs m).1,0<b.ps.length/\∀p∈b.ps,p.gs=[]/\p.cs=[]
 |[],i,bs,m,hl,hin,hb,_=>⟨hl,hin,rfl,hb⟩
 |l::r,i,bs,m,hl,hin,hb,hr=>by
  have hs:=zZ s i l 0 0 [] m;unfold mZ;have ih:=CQ s win r (i+1) (bs++[⟨i,win,(Ci s i l 0 0 [] m).1.map prT⟩]) (Ci s i l 0 0 [] m).2 (by simp[hl]) (fun y hy=>?_) (fun b hb'=>?_) (fun x hx=>hr x (by simp[hx]))
  ·exact⟨by rw[ih.1];simp;omega,ih.2.1,by rw[ih.2.2.1,hs.2.1];simp;omega,ih.2.2.2⟩
  ·rcases hs.2.2 y hy with h|h
   ·exact(hin y h).mono _
   ·refine⟨⟨i,win,(Ci s i l 0 0 [] m).1.map prT⟩,?_,?_⟩
    ·rw[h.1,List.getElem?_append_right (by omega),hl,Nat.sub_self];rfl
    ·simp only[List.length_map,hs.1]
     simpa using h.2
  ·rcases List.mem_append.1 hb' with h|h
   ·exact hb b h
   ·simp only[List.mem_cons,List.not_mem_nil,or_false]at h;subst h;refine⟨by simp only[List.length_map,hs.1];have:=hr l (by simp);simpa using this,fun p hp=>?_⟩;obtain⟨a,_,rfl⟩:=List.mem_map.1 hp;exact⟨rfl,rfl⟩
def AO (bs:List qj):List Nat:=bs.map (·.ps.length)
theorem Aa {α β:Type} (f:α->β) (g:α->α) (h:∀a,f (g a)=f a):∀(l:List α) (i:Nat),(l.modify i g).map f=l.map f
 |[],i=>by simp
 |a::l,0=>by simp[h]
 |a::l,i+1=>by
  have:=Aa f g h l i;simp[this]
theorem oK {α:Type} {P P':α->Prop} {g:α->α} (h1:∀a,P a->P' (g a)) (h2:∀a,P a->P' a):∀(l:List α) (i:Nat),(∀a∈l,P a)->∀a∈l.modify i g,P' a
 |[],i,_,a,ha=>by simp at ha
 |b::l,0,h,a,ha=>by
  simp at ha;rcases ha with rfl|ha
  ·exact h1 b (h b (by simp))
  ·exact h2 a (h a (by simp[ha]))
 |b::l,i+1,h,a,ha=>by
  simp at ha;rcases ha with rfl|ha
  ·exact h2 a (h a (by simp))
  ·exact oK h1 h2 l i (fun x hx=>h x (by simp[hx])) a ha
theorem SQ (bs:List qj) (i k:Nat) (g:Bool) (t:T):AO (zV bs i k g t)=AO bs:=by
 unfold AO zV;exact Aa _ _ (fun a=>by simp) bs i
theorem SS (k:Nat) (t:T) (bs:List qj):AO (uJ k t bs)=AO bs:=by
 unfold AO uJ;rw[List.map_append,List.map_map]
 conv=>rhs;rw[<-List.take_append_drop k bs,List.map_append]
 congr 1
 apply List.map_congr_left
 intro a _;simp[Sz]
theorem InT.sh {bs bs':List qj} (h:AO bs'=AO bs) {y:cO} (hy:InT bs y):InT bs' y:=by
 obtain⟨br,h1,h2⟩:=hy;have h3:(AO bs)[y.br]? =some br.ps.length:=by unfold AO;rw[List.getElem?_map,h1];rfl
 rw[<-h]at h3;unfold AO at h3;rw[List.getElem?_map]at h3;cases hb:bs'[y.br]? with
 |none=>rw[hb]at h3;cases h3
 |some b=>
  rw[hb]at h3;injection h3 with h3
  exact⟨b,hb,by have h3:b.ps.length=br.ps.length:=h3;omega⟩
theorem Ph {n:Nat} (g:Bool) (t:T) (p:oU) (h:p.gs.length<=n/\p.cs.length<=n):(IM g t p).gs.length<=n+1/\(IM g t p).cs.length<=n+1:=by
 unfold IM;cases g
 ·rw[if_neg (by decide)];simp;omega
 ·rw[if_pos rfl];simp;omega
theorem Pj {bs:List qj} {n:Nat} (h:jS bs n) (i k:Nat) (g:Bool) (t:T):jS (zV bs i k g t) (n+1):=by
 unfold jS zV;refine oK (P:=fun br:qj=>∀p∈br.ps,p.gs.length<=n/\p.cs.length<=n) (P':=fun br:qj=>∀p∈br.ps,p.gs.length<=n+1/\p.cs.length<=n+1) (fun a ha=>?_) (fun a ha p hp=>?_) bs i h
 ·exact oK (P:=fun p:oU=>p.gs.length<=n/\p.cs.length<=n) (P':=fun p:oU=>p.gs.length<=n+1/\p.cs.length<=n+1) (fun p hp=>Ph g t p hp) (fun p hp=>⟨by omega,by omega⟩) a.ps k ha
 ·have:=ha p hp;exact⟨by omega,by omega⟩
theorem Pm {bs:List qj} {n:Nat} (h:jS bs n) (k:Nat) (t:T):jS (uJ k t bs) (n+1):=by
 intro b hb;unfold uJ at hb;rcases List.mem_append.1 hb with hb|hb
 ·obtain⟨a,ha,rfl⟩:=List.mem_map.1 hb;exact oK (P:=fun p:oU=>p.gs.length<=n/\p.cs.length<=n) (P':=fun p:oU=>p.gs.length<=n+1/\p.cs.length<=n+1) (fun p hp=>Ph true t p hp) (fun p hp=>⟨by omega,by omega⟩) a.ps 0 (h a (List.mem_of_mem_take ha))
 ·intro p hp;have:=h b (List.mem_of_mem_drop hb) p hp;exact⟨by omega,by omega⟩
theorem IW (s:ah) (x:au) (bs:List qj) (m:MS) (n:Nat) (h:jS bs n):AO (mG s x bs m).1=AO bs/\jS (mG s x bs m).1 (n+1)/\(mG s x bs m).2.items=m.items:=by
 have h1:jS bs (n+1):=fun b hb p hp=>by have:=h b hb p hp;exact⟨by omega,by omega⟩
 unfold mG
 split
 ·exact⟨rfl,h1,rfl⟩
 ·split
  ·exact⟨rfl,h1,by rw[dh,gu]⟩
  ·split
   ·exact⟨rfl,h1,gu _ _ _⟩
   ·split
    ·exact⟨SS _ _ _,Pm h _ _,rfl⟩
    ·split
     ·exact⟨rfl,h1,dh _ _ _⟩
     ·exact⟨SQ _ _ _ _ _,Pj h _ _ _ _,rfl⟩
theorem xE (s:ah) (key:Str) (kd:Int) (p:Nat):∀(l:List cO) (m:MS),(rY s key kd p l m).items=m.items
 |[],m=>rfl
 |x::l,m=>by
  unfold rY;rw[xE s key kd p l]
  (repeat' split)<;>first|rfl|exact dh _ _ _
theorem Gn (s:ah) (key:Str) (p:Nat) (m:MS):(keysT s key p m).2.items=m.items:=by
 unfold keysT
 split
 ·rfl
 ·show(rY s key _ p m.items _).items=m.items
  rw[xE];unfold Ws
  split
  ·rfl
  ·split
   ·exact dh _ _ _
   ·rfl
end Go.Proofs.Ytbjnhllkdilpfaa
