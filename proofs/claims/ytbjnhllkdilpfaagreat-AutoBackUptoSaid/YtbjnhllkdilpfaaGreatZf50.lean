/- Part 50 of the proof. No conditions. -/
import Derived.Test.YtbjnhllkdilpfaaGreatZf44
set_option linter.unusedVariables false
set_option linter.unusedSimpArgs false
namespace Go.Proofs.YtbjnhllkdilpfaaGreat
open Go.RowKit
structure BrG (b:dL):Prop where
 win:0<=b.window/\b.window<=1152921504606846976
 n:0<b.ps.length/\b.ps.length<=8
 first:∀p l,b.ps=p::l->p.form≠3
 form:∀p∈b.ps,1<=p.form/\p.form<=3
 type:∀p∈b.ps,0<=p.type
 nots:∀p∈b.ps,p.form=3->p.cs=[]
 rows:∀p∈b.ps,p.gs.length<=200/\p.cs.length<=200
structure PlG (t:qg):Prop where
 ax:1<=t.aS/\t.aS<=3
 ids:∀(i:Nat) (b:dL),t.branches[i]? =some b->b.id=i
 nb:t.branches.length<=4
 br:∀b∈t.branches,BrG b
def RQ (p:dU):Nat×Int:=(p.form,p.type)
def L8 (b:dL):Nat×Int×List (Nat×Int):=(b.id,b.window,b.ps.map RQ)
theorem VA (g:Bool) (t:T) (p:dU):RQ (Hf g t p)=RQ p:=by
 unfold Hf RQ;cases g<;>simp
theorem zCh (bs:List dL) (i k:Nat) (g:Bool) (t:T):(uX bs i k g t).map L8=bs.map L8:=by
 unfold uX;exact ou _ _ (λa=>by simp only[L8];rw[ou _ _ (VA g t)]) bs i
theorem zCi (k:Nat) (t:T) (bs:List dL):(tY k t bs).map L8=bs.map L8:=by
 unfold tY;rw[zGr,zHh]
 conv=>rhs;rw[<-zJd k bs,zGr]
 congr 1
 apply zJw
 intro a _;simp only[Function.comp,L8,RF];rw[ou _ _ (VA true t)]
theorem KF (s:ai) (x:az) (bs:List dL) (m:MS):(je s x bs m).1.map L8=bs.map L8:=by
 unfold je
 split
 ·rfl
 split
 ·rfl
 split
 ·rfl
 split
 ·exact zCi _ _ _
 split
 ·rfl
 exact zCh _ _ _ _ _
theorem FQ (s:ai):∀(l:List az) (bs:List dL) (m:MS),(gu s l bs m).1.map L8=bs.map L8
 |[],bs,m=>rfl
 |x::l,bs,m=>by rw[gu,FQ s l];exact KF s x bs m
def VB (bs:List dL) (y:dh):Prop:=∃b p,bs[y.br]? =some b/\b.ps[y.part]? =some p/\p.form=y.form
theorem VB.sg {bs a:List dL} (h:a.map L8=bs.map L8) {y:dh} (f:VB bs y):VB a y:=by
 obtain⟨b,p,i,k,j⟩:=f;have c:(bs.map L8)[y.br]? =some (L8 b):=by rw[zG2,i];rfl
 rw[<-h,zG2]at c;cases hb:a[y.br]? with
 |none=>rw[hb]at c;cases c
 |some e=>
  rw[hb]at c;injection c with c
  have g:e.ps.map RQ=b.ps.map RQ:=zGv (λz=>z.2.2) c;have d:(b.ps.map RQ)[y.part]? =some (RQ p):=by rw[zG2,k];rfl
  rw[<-g,zG2]at d;cases hp:e.ps[y.part]? with
  |none=>rw[hp]at d;cases d
  |some p'=>
   rw[hp]at d;injection d with d
   exact⟨e,p',hb,hp,(zGv Prod.fst d).trans j⟩
def Am (bs:List dL):Prop:=∀b∈bs,∀p∈b.ps,p.form=3->p.cs=[]
theorem KG:∀(l:List dh) (y:dh),kY y l=y\/kY y l∈l
 |[],y=>.inl rfl
 |z::l,y=>by
  unfold kY;rcases KG l (if y.part<z.part then z else y)with h|h
  ·split at h
   ·rw[zF3 (by assumption),h];exact .inr (by simp)
   rw[zF2 (by assumption),h];exact .inl rfl
  exact .inr (by simp[h])
theorem VC {bs:List dL} (h:Am bs) {y:dh} (g:Bool) (x:g=false->VB bs y/\y.form≠3) (t:T):Am (uX bs y.br y.part g t):=by
 intro b hb p s n;unfold uX at hb;obtain⟨i,u⟩:=zH7.1 hb;rw[zHi]at u;obtain⟨a,m,d⟩:=zJk.1 u;have r:=zGj m
 split at d
 ·rename_i z
  subst d;obtain⟨k,q⟩:=zH7.1 s;simp only at q;rw[zHi]at q;obtain⟨c,l,f⟩:=zJk.1 q;have j:=zGj l
  split at f
  ·rename_i o
   subst f;cases g with
   |true=>
    have e:c.form=3:=n;exact h a r c j e
   |false=>
    have e:c.form=3:=n;obtain⟨⟨C,p0,v,A,w⟩,B⟩:=x rfl;rw[<-z,v]at m;injection m with m
    subst m;rw[<-o,A]at l;injection l with l
    subst l;exact absurd (w.symm.trans e) B
  subst f;exact h a r c j n
 subst d;exact h a r p s n
theorem VD {bs:List dL} (h:Am bs) (k:Nat) (t:T):Am (tY k t bs):=by
 intro b hb p l f;unfold tY at hb;rcases zFy.1 hb with hb|hb
 ·obtain⟨a,m,rfl⟩:=zGa.1 hb;have j:=zKu m;obtain⟨i,g⟩:=zH7.1 l;simp only[RF]at g;rw[zHi]at g;obtain⟨c,n,d⟩:=zJk.1 g;have e:=zGj n
  split at d
  ·subst d;exact h a j c e f
  subst d;exact h a j c e f
 exact h b (zJ2 hb) p l f
theorem N8 (s:ai) (x:az) (bs:List dL) (m:MS) (h:Am bs) (f:∀y∈m.items,VB bs y):Am (je s x bs m).1:=by
 unfold je
 split
 ·exact h
 split
 ·exact h
 split
 ·exact h
 split
 ·exact VD h _ _
 rename_i a l g
 split
 ·exact h
 refine VC h _ (λc=>?_) _;unfold oh at c⊢;simp only at c⊢
 have d:(kY a (a::l)).form=2:=by
  by_cases b:(kY a (a::l)).form=2
  ·exact b
  rw[zG1.2 b]at c;cases c
 have e:kY a (a::l)∈dE m.items false x:=by
  rw[g];rcases KG (a::l) a with b|b
  ·rw[b];exact List.mem_cons_self
  exact b
 refine⟨?_,by omega⟩;rcases Kv m.items false x _ e with b|b
 ·exact f _ b
 rw[b]at d;cases d
theorem Ar (s:ai):∀(l:List az) (bs:List dL) (m:MS),Am bs->(∀y∈m.items,VB bs y)->Am (gu s l bs m).1
 |[],bs,m,h,_=>h
 |x::l,bs,m,h,b=>by
  rw[gu]
  have a:(je s x bs m).2.items=m.items:=by
   unfold je
   (repeat' split)<;>first|rfl|exact bP _ _ _|exact fK _ _ _|(rw[bP,fK])
  exact Ar s l _ _ (N8 s x bs m h b) λy c=>(b y (by rw[<-a];exact c)).sg (KF s x bs m)
theorem Aw (s:ai):∀(l:List az) (bs:List dL) (m:MS) (n:Nat),jS bs n->jS (gu s l bs m).1 (n+l.length)
 |[],bs,m,n,h=>h
 |x::l,bs,m,n,h=>by
  rw[gu];have:=Aw s l _ (je s x bs m).2 (n+1) (Du s x bs m n h).2.1;rw[zFh,show n+(l.length+1)=n+1+l.length by omega];exact this
theorem RS (s:ai) (x:az) (bs:List dL) (m:MS) (h:(je s x bs m).2.err=0):m.err=0:=by
 unfold je at h
 split at h
 ·exact h
 rename_i a
 exact zKi.1 a
theorem Dw (s:ai):∀(l:List az) (bs:List dL) (m:MS),(gu s l bs m).2.err=0->m.err=0
 |[],bs,m,h=>h
 |x::l,bs,m,h=>by
  rw[gu]at h;exact RS s x bs m (Dw s l _ _ h)
theorem RU (s:ai) (a:Str) (p:Nat) (m:MS) (h:(keysT s a p m).2.err=0):m.err=0:=by
 unfold keysT at h
 split at h
 ·exact h
 rename_i c
 exact zKi.1 λb=>c (.inr b)
theorem KH {e p:Nat} {m:MS} (a:e≠0):(dI e p m).err≠0:=by
 unfold dI
 split
 ·exact a
 rename_i h;exact h
theorem N9 (s:ai) (f:Nat):∀(l:List bn) (i pos:Nat) (ps:List (Nat×Int)) (m:MS),(wJ s f l i pos ps m).2.err=0->
  m.err=0/\(∀x∈l,0<=typeAt s x.type)/\(i=0->∀x r,l=x::r->x.form≠3)/\(wJ s f l i pos ps m).1=ps++l.map (λx=>(x.form,typeAt s x.type))/\
   ∀y∈(wJ s f l i pos ps m).2.items,y∈m.items\/(y.br=f/\∃k x,l[k]? =some x/\y.part=i+k/\y.form=x.form)
 |[],i,pos,ps,m,h=>⟨h,λx a=>absurd a (by simp),λ_ x r e=>(by cases e),by simp[wJ],λy c=>.inl c⟩
 |x::l,i,pos,ps,m,h=>by
  unfold wJ at h⊢;simp only[]at h⊢;generalize a:(if(decide (typeAt s x.type<0)||(ed x.name m.items).2)=true then dI 10 x.pos m else m)=n at h⊢;generalize b:(if i=0/\x.form=3 then dI 15 x.pos n else n)=g at h⊢;obtain⟨d,v,A,w,p⟩:=N9 s f l (i+1) (if x.form≠3 then pos+1 else pos) (ps++[(x.form,typeAt s x.type)]) ⟨g.items++[⟨x.name,f,i,pos,x.form,typeAt s x.type⟩],g.err,g.pos⟩ h;have d:g.err=0:=d
  have o:¬(i=0/\x.form=3):=λj=>by
   rw[zF3 j]at b;rw[<-b]at d;exact KH (by decide) d
  rw[zF2 o]at b;subst b
  have hb:¬((decide (typeAt s x.type<0)||(ed x.name m.items).2)=true):=λj=>by
   rw[zF3 j]at a;rw[<-a]at d;exact KH (by decide) d
  rw[zF2 hb]at a;subst a
  have q:0<=typeAt s x.type:=by
   simp only[zG8,zF9,not_or]at hb;omega
  refine⟨d,λy c=>?_,λu y r e=>?_,by rw[w];simp,λy c=>?_⟩
  ·rcases zF6.1 c with rfl|c
   ·exact q
   exact v y c
  ·injection e with e1 e2
   subst e1;exact λa=>o ⟨u,a⟩
  rcases p y c with a|⟨a,k,z,t,B,b⟩
  ·rcases zFy.1 a with a|a
   ·exact .inl a
   simp only[zF6,zGi,zHt]at a;subst a;exact .inr ⟨rfl,0,x,rfl,rfl,rfl⟩
  exact .inr ⟨a,k+1,z,by simpa using t,by omega,b⟩
def BrIt (s:ai) (win:Nat) (l:List bn) (b:dL):Prop:=b.window=win/\b.ps=l.map (λx=>Ti (x.form,typeAt s x.type))/\(∀x∈l,0<=typeAt s x.type)/\∀x r,l=x::r->x.form≠3
theorem VB.more {bs:List dL} {y:dh} (h:VB bs y) (l:List dL):VB (bs++l) y:=by
 obtain⟨b,p,a,d,c⟩:=h;exact⟨b,p,by rw[zGh (zFc.1 a).1];exact a,d,c⟩
theorem P6 (s:ai) (win:Nat):∀(r:List (List bn)) (i:Nat) (bs:List dL) (m:MS),bs.length=i->(jG s win i r bs m).2.err=0->(∀y∈m.items,VB bs y)->
  m.err=0/\(∀y∈(jG s win i r bs m).2.items,VB (jG s win i r bs m).1 y)/\(jG s win i r bs m).1.length=i+r.length/\
   ∀j b,(jG s win i r bs m).1[j]? =some b->bs[j]? =some b\/(b.id=j/\∃l∈r,BrIt s win l b)
 |[],i,bs,m,f,h,q=>⟨h,q,f,λj b hb=>.inl hb⟩
 |l::r,i,bs,m,f,h,q=>by
  unfold jG at h⊢;have g:=P6 s win r (i+1) (bs++[⟨i,win,(wJ s i l 0 0 [] m).1.map Ti⟩]) (wJ s i l 0 0 [] m).2 (by simp[f]) h
  have z:(wJ s i l 0 0 [] m).2.err=0:=by
   have c:∀(r:List (List bn)) (i:Nat) (bs:List dL) (m:MS),(jG s win i r bs m).2.err=0->m.err=0:=by
    intro r
    induction r with
    |nil=>exact λ_ _ _ h=>h
    |cons a r g=>
     intro i bs m h;unfold jG at h;exact(N9 s i a 0 0 [] m (g _ _ _ h)).1
   exact c _ _ _ _ h
  obtain⟨A,E,C,F,D⟩:=N9 s i l 0 0 [] m z;have d:(wJ s i l 0 0 [] m).1.map Ti=l.map (λx=>Ti (x.form,typeAt s x.type)):=by rw[F,List.nil_append,zHh];rfl
  obtain⟨_,B,t,v⟩:=g λy w=>by
   rcases D y w with c|⟨c,k,x,p,o,n⟩
   ·exact(q y c).more _
   refine⟨⟨i,win,(wJ s i l 0 0 [] m).1.map Ti⟩,Ti (x.form,typeAt s x.type),?_,?_,n.symm⟩
   ·rw[c,zGd (by omega),f,zJi];rfl
   show((wJ s i l 0 0 [] m).1.map Ti)[y.part]? =_
   rw[d,zG2,o,zFr,p];rfl
  refine⟨A,B,by rw[t,zFh];omega,λj b hb=>?_⟩;rcases v j b hb with c|⟨c,x,p,o⟩
  ·by_cases u:j<bs.length
   ·rw[zGh u]at c;exact .inl c
   rw[zGd (by omega)]at c
   have n:j-bs.length=0:=by
    have:=(zFc.1 c).1
    simpa using this
   rw[n]at c;injection c with c
   subst c;exact .inr ⟨by show i=j;omega,l,by simp,rfl,d,E,λx r e=>C rfl x r e⟩
  exact .inr ⟨c,x,by simp[p],o⟩
theorem VE {q:di} (h:pG q=0):lT q=true/\q.branches.length<=4/\iJ q<=200/\∀l∈q.branches,l.length<=8:=by
 unfold pG at h
 split at h
 ·cases h
 rename_i a
 split at h
 ·cases h
 rename_i e
 split at h
 ·cases h
 rename_i b
 refine⟨by simpa using a,by omega,by omega,λl d=>?_⟩;have c:q.branches.any (λl=>decide (8<l.length))=false:=by simpa using b
 have:=List.any_eq_false.1 c l d
 simpa using this
theorem RV (s:ai) (q:di) (h:(kZ s q).2.2=0):PlG (kZ s q).1:=by
 unfold kZ at h⊢
 split at h
 ·rename_i I;exact absurd h I
 rename_i I
 rw[zF2 I]
 split at h
 ·rename_i a
  exact absurd (Int.ofNat_eq_zero.1 h) a
 rename_i a
 rw[zF2 a]
 split at h
 ·rename_i c
  exact absurd (by simpa using h) c
 rename_i c
 rw[zF2 c];have c:=zKi.1 c;have d:=VE (zKi.1 a);obtain⟨o,U,K,L⟩:=d;have R:=RU s q.key q.keyAt _ (Dw s _ _ _ c);obtain⟨_,A,t,e⟩:=P6 s q.window q.branches 0 [] ms0 rfl R (λy k=>absurd k (by simp[ms0]));have w:=Aj s q.key q.keyAt (jG s q.window 0 q.branches [] ms0).2;obtain⟨f,S⟩:=zN ((jG s q.window 0 q.branches [] ms0).1)
 obtain⟨g,E⟩:=zN ((keysT s q.key q.keyAt (jG s q.window 0 q.branches [] ms0).2).2)
 rw[S]at A t e c⊢;rw[E]at w c⊢;have n:=FQ s q.cond f g
 have H:=Ar s q.cond f g (λb hb p a Z=>by
  obtain⟨j,m⟩:=zH7.1 hb;rcases e j b m with d|⟨d,l,i,v,u,_⟩
  ·cases d
  rw[u]at a;obtain⟨x,_,rfl⟩:=zGa.1 a
  rfl) (λy k=>A y (by rw[<-w];exact k))
 have D:=Aw s q.cond f g 0 (λb hb p a=>by
  obtain⟨j,m⟩:=zH7.1 hb;rcases e j b m with d|⟨d,l,i,v,u,_⟩
  ·cases d
  rw[u]at a;obtain⟨x,_,rfl⟩:=zGa.1 a
  exact⟨zFv _,zFv _⟩)
 have P:q.cond.length<=200:=zFi (zk q.cond 0) K;unfold lT Dh at o;simp only[zFn,zF9,zGu]at o;obtain⟨⟨⟨⟨⟨⟨X,B⟩,M⟩,Q⟩,_⟩,F⟩,_⟩:=o;have o:(gu s q.cond f g).1.length=f.length:=by simpa using zGv List.length n
 have k:∀(j:Nat) (b:dL),(gu s q.cond f g).1[j]? =some b->b.id=j/\b.window=q.window/\∃l∈q.branches,b.ps.map RQ=l.map (λx=>(x.form,typeAt s x.type))/\(∀x∈l,0<=typeAt s x.type)/\∀x r,l=x::r->x.form≠3:=λj b hb=>by
  have O:(List.map L8 (gu s q.cond f g).1)[j]? =some (L8 b):=by rw[zG2,hb];rfl
  rw[n,zG2]at O;obtain⟨N,Y,d⟩:=zJk.1 O;rcases e j N Y with v|⟨v,l,i,u,W,J,G⟩
  ·cases v
  refine⟨(zGv Prod.fst d).symm.trans v,(zGv (λz=>z.2.1) d).symm.trans u,l,i,?_,J,G⟩;have C:N.ps.map RQ=b.ps.map RQ:=zGv (λz=>z.2.2) d;rw[<-C,W,zHh];rfl
 refine⟨⟨B,M⟩,λj b hb=>(k j b hb).1,by show(gu s q.cond f g).1.length<=4;rw[o,t];omega,λb hb=>?_⟩;obtain⟨j,m⟩:=zH7.1 hb;obtain⟨_,J,l,i,d,O,N⟩:=k j b m;have v:=F l i;unfold G7 qQ at v;simp only[zFn,zF9,zGu]at v;have z:b.ps.length=l.length:=by simpa using zGv List.length d
 have k:∀p∈b.ps,∃x∈l,x.form=p.form/\typeAt s x.type=p.type:=λp a=>by
  have:RQ p∈b.ps.map RQ:=zGa.2 ⟨p,a,rfl⟩;rw[d]at this;obtain⟨x,u,c⟩:=zGa.1 this;exact⟨x,u,zGv Prod.fst c,zGv Prod.snd c⟩
 refine⟨by rw[J];omega,by rw[z];exact⟨v.1,L l i⟩,λp r C=>?_,λp a=>?_,λp a=>?_,λp a=>H b hb p a,λp a=>?_⟩
 ·rw[C]at d;cases l with
  |nil=>cases d
  |cons x l=>
   have:=List.cons.inj d;rw[show p.form=x.form from zGv Prod.fst this.1];exact N x l rfl
 ·obtain⟨x,u,G,_⟩:=k p a;have:=(v.2 x u).1.1;omega
 ·obtain⟨x,u,_,G⟩:=k p a;rw[<-G];exact O x u
 have:=D b hb p a;omega
theorem FT (s:ai) (a:Str) (h:(jH s a).2=true):PlG (jH s a).1:=by
 unfold jH at h⊢
 split at h
 ·cases h
 rename_i b
 rw[zF2 b];exact RV s _ (by simpa using h)
theorem FU (s:ai) (a:Str):(jH s a).1.keys.length<=s.types.length:=by
 unfold jH
 split
 ·exact zFj _
 show(kZ s _).1.keys.length<=_
 unfold kZ
 (repeat' split)<;>first|exact zFj _|skip
 show(keysT s _ _ _).1.length<=_
 unfold keysT
 split
 ·exact zFj _
 simp
end Go.Proofs.YtbjnhllkdilpfaaGreat
