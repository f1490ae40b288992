/- Part 41 of the proof. No conditions. -/
import Derived.Test.YtbjnhllkdilpfaaGreatZf40
import Derived.Test.YtbjnhllkdilpfaaGreatZf28
set_option linter.unusedVariables false
set_option linter.unusedSimpArgs false
set_option maxRecDepth 100000
set_option maxHeartbeats 16000000
namespace Go.Proofs.YtbjnhllkdilpfaaGreat
open Go.RowKit _root_.Go.Proofs.Tryz
def uV:az->Nat
 |.leaf op ..=>op
 |.un op ..=>op
 |.bin op ..=>op
def fH:az->Nat×Nat
 |.leaf op n sc nm a _=>(nC op n sc nm.length a.length,0)
 |.un op x _=>textF op (nY (bz op) 0 [(uV x,(fH x).1,(fH x).2)])
 |.bin op x y _=>textF op (nY (bz op) 0 [(uV x,(fH x).1,(fH x).2),(uV y,(fH y).1,(fH y).2)])
theorem mM.op {P:Nat->Prop} {w:World}:∀{e:az} {cs:List Value},mM P w e cs->∃c f h i b d:Value,cs=[.int .i64 (uV e),c,f,h,i,b,d]
 |.leaf op n c b a p,cs,h=>by
  obtain rfl:cs=iF op n c b a p:=h;exact⟨_,_,_,_,_,_,rfl⟩
 |.un op x p,cs,h=>by
  obtain⟨g,xs,rfl,_⟩:=h;exact⟨_,_,_,_,_,_,rfl⟩
 |.bin op x y p,cs,h=>by
  obtain⟨g,xs,d,rfl,_⟩:=h;exact⟨_,_,_,_,_,_,rfl⟩
theorem uG {l:Str} (h:nameB l=true):l.length<=24:=by
 rcases zHu 24 l.length with a|a
 ·rw[EC l (by omega)]at h;cases h
 exact a
theorem kH {l:Str} (h:l.isEmpty=true):l.length=0:=by simpa using h
theorem Rj (op n c p:Nat) (a S2:ByteArray) (s:a.size<=24) (t:S2.size<=24) (f:20<=op/\op<=31) (u:n<=9223372036854775807) (g:op=21->c<=14) (w:World):
  Calls prog 67 #[.agg #[op,"",n,c,a,S2,p]] w (wK (nC op n c a.size S2.size,0) w):=by
 have q:Hid (∀W:World,Calls prog 91 #[.agg #[op,"",n,c,a,S2,p]] W (zZ (nC op n c a.size S2.size) W)):=zH λW=>Rf op n c p a S2 s t f u g W
 unfold zZ at q;unfold wK;generalize nC op n c a.size S2.size=N at *;have A:Hid (∀(W:World),Calls prog 89 #[op] W λe w'=>e=.returned (.int .i64 (bz op:Nat))/\w'=W):=zH λW=>Fp op W
 have D:((op:Int)==6)=false:=zB (by omega)
 have x:((op:Int)==15)=false:=zB (by omega)
 have z:((op:Int)==16)=false:=zB (by omega)
 have v:((op:Int)==17)=false:=zB (by omega)
 clear s t f u g;generalize bz op=b at *
 go_enter func67,ntmps67
 have k:=Bk.new w 110 #[op,"",n,c,a,S2,p];have d:Below w w (w.alloc (.cells #[op,"",n,c,a,S2,p] 110)):=zR.alloc zL _;go_upto_region 1 with fail
 generalize w.alloc (.cells #[op,"",n,c,a,S2,p] 110)=o at *;generalize j:w.heap.size=F at *;obtain⟨I,H,G,L,J,E,C⟩:=zc7 k;have e:=zH d;have h:=zH j;clear k d j;go_wp2_with fail
 refine(A.out _).mono ?_;rintro r y ⟨rfl,j⟩;obtain rfl:o=y:=j.symm;go_wp2_with fail
 go_loopw[5,6,19] (λl m i wr=>l=.slice none 0 0/\m=.int .i64 0/\i=.int .i64 0/\o=wr) (λ_ _ _ _=>0)
 case atStart=>exact⟨rfl,rfl,rfl,rfl⟩
 case round=>
  obtain⟨rfl,rfl,rfl,rfl⟩:=hrel;go_wp2_with fail
  refine(q.out _).mono ?_;rintro r K ⟨S,rfl,m,d⟩;have k:=zH (e.trans (d.mono (by have:=e.size;have:=h.out;omega)));have B:=zH m;clear d m;go_wp2
  go_ret2
  exact⟨_,rfl,B.out,by first|exact k.out|(rw[<-h.out];exact k.out)|(rw[h.out];exact k.out)⟩
theorem C9 {op n b:Nat} {c a:Str} (h:lS op n b c a 0=true):(20<=op/\op<=31)/\c.length<=24/\a.length<=24/\(op=21->b<=14/\jE n b<=16):=by
 have f:(op=6\/(15<=op/\op<=17))\/((1<=op/\op<=14)/\op≠6)\/(op=20)\/(op=21)\/(op=22)\/(op=23\/op=25)\/(op=24\/(26<=op/\op<=31))\/(op=0\/op=18\/op=19\/32<=op):=by omega
 rcases f with f|f|f|f|f|f|f|f
 ·have d:lY op n b c a=some (1,c.isEmpty,a.isEmpty,(n==0&&b==0)):=by unfold lY;(repeat' split)<;>first|rfl|(exfalso;omega)
  rw[eQ d]at h;simp at h
 ·have d:lY op n b c a=some (2,c.isEmpty,a.isEmpty,(n==0&&b==0)):=by unfold lY;(repeat' split)<;>first|rfl|(exfalso;omega)
  rw[eQ d]at h;simp at h
 ·have d:lY op n b c a=some (0,c.isEmpty,a.isEmpty,b==0):=by unfold lY;(repeat' split)<;>first|rfl|(exfalso;omega)
  rw[eQ d]at h;simp only[zFn,zFt,zF9,zG8]at h;have i:=kH h.1.1.1;have g:=kH h.1.1.2;exact⟨by omega,by omega,by omega,λe=>by omega⟩
 ·have d:lY op n b c a=some (0,c.isEmpty,a.isEmpty,(decide (1<=b)&&decide (b<=14))&&decide (jE n b<=16)):=by unfold lY;(repeat' split)<;>first|rfl|(exfalso;omega)
  rw[eQ d]at h;simp only[zFn,zFt,zF9,zG8]at h;have i:=kH h.1.1.1;have g:=kH h.1.1.2;exact⟨by omega,by omega,by omega,λe=>⟨h.1.2.1.2,h.1.2.2⟩⟩
 ·have d:lY op n b c a=some (0,c.isEmpty,a.isEmpty,(n==0||n==1)&&b==0):=by unfold lY;(repeat' split)<;>first|rfl|(exfalso;omega)
  rw[eQ d]at h;simp only[zFn,zFt,zF9,zG8]at h;have i:=kH h.1.1.1;have g:=kH h.1.1.2;exact⟨by omega,by omega,by omega,λe=>by omega⟩
 ·have d:lY op n b c a=some (0,nameB c,a.isEmpty,(n==0&&b==0)):=by unfold lY;(repeat' split)<;>first|rfl|(exfalso;omega)
  rw[eQ d]at h;simp only[zFn,zFt,zF9,zG8]at h;have i:=uG h.1.1.1;have g:=kH h.1.1.2;exact⟨by omega,by omega,by omega,λe=>by omega⟩
 ·have d:lY op n b c a=some (0,nameB c,nameB a||a==iY,(n==0&&b==0)):=by unfold lY;(repeat' split)<;>first|rfl|(exfalso;omega)
  rw[eQ d]at h;simp only[zFn,zFt,zF9,zG8]at h;have i:=uG h.1.1.1
  have g:a.length<=24:=by
   rcases h.1.1.2 with g|g
   ·exact uG g
   rw[g];decide
  exact⟨by omega,by omega,by omega,λe=>by omega⟩
 have d:lY op n b c a=none:=by unfold lY;(repeat' split)<;>first|rfl|(exfalso;omega)
 rw[jc d]at h;cases h
theorem JX {op:Nat} (h:lS op 0 0 [] [] 1=true):U5 op 1:=by
 by_cases c:op=6\/(15<=op/\op<=17)
 ·exact .inl ⟨rfl,c⟩
 exfalso
 have b:∀m x y z,lY op 0 0 [] []=some (m,x,y,z)->m≠1:=by
  intro m x y z a;unfold lY at a
  (repeat' split at a)<;>first|(exfalso;omega)|(injection a with a;injection a with a;omega)|cases a
 rcases hv:lY op 0 0 [] []with _|⟨m,x,y,z⟩
 ·rw[jc hv]at h;cases h
 rw[eQ hv]at h;simp only[zFn,zFt]at h;exact b m x y z hv h.2.symm
theorem FB {op:Nat} (h:lS op 0 0 [] [] 2=true):U5 op 2:=by
 by_cases c:1<=op/\op<=14/\op≠6
 ·exact .inr ⟨rfl,c⟩
 exfalso
 have b:∀m x y z,lY op 0 0 [] []=some (m,x,y,z)->m≠2:=by
  intro m x y z a;unfold lY at a
  (repeat' split at a)<;>first|(exfalso;omega)|(injection a with a;injection a with a;omega)|cases a
 rcases hv:lY op 0 0 [] []with _|⟨m,x,y,z⟩
 ·rw[jc hv]at h;cases h
 rw[eQ hv]at h;simp only[zFn,zFt]at h;exact b m x y z hv h.2.symm
theorem GY (b j:Nat) (a:Nat×Nat×Nat):(oL b j a).1<=a.2.1+2/\(oL b j a).2<=a.2.2+1:=by
 unfold oL
 split
 ·exact⟨zFv _,zFv _⟩
 exact⟨zKq _ _,zKq _ _⟩
theorem U6 (op:Nat):((dN (bz op)).1.getD (op-(dN (bz op)).2) []).length<=3:=by
 have c:∀(l:List Str) (i:Nat),(∀x∈l,x.length<=3)->(l.getD i []).length<=3:=by
  intro l i h;rw[zGy];rcases hg:l[i]? with _|x
  ·simp
  exact h x (zGj hg)
 apply c
 have a:bz op<=8:=by unfold bz;(repeat' split)<;>omega
 generalize bz op=b at *
 match b,a with
 |0,_|1,_|2,_|3,_|4,_|5,_|6,_|7,_|8,_=>decide
theorem Yv (i:Nat):(jX.getD i []).length<=5:=by
 rw[zGy];rcases hg:jX[i]? with _|x
 ·simp
 have:∀x∈jX,x.length<=5:=by decide
 exact this x (zGj hg)
theorem tK:∀e:az,dX e=true->gm e->(fH e).1<=80*aF e/\(fH e).2<=2*aF e
 |.leaf op n f c a p,h,hb=>by
  obtain⟨i,l,k,d⟩:=C9 h;have g:=uD n hb;have j:=Yv (op-25);refine⟨?_,zFj _⟩
  show nC op n f c.length a.length<=80*1
  unfold nC
  by_cases b:op=21
  ·have:=(d b).2;subst b;simp only[show¬(21:Nat)=20 by decide,zKk,if_true];omega
  rw[zF2 b]
  (repeat' split)<;>omega
 |.un op x p,h,hb=>by
  simp only[dX,zFn]at h;have d:=tK x h.2 hb;have b:=GY (bz op) 0 (uV x,(fH x).1,(fH x).2);have e:fH (.un op x p)=((oL (bz op) 0 (uV x,(fH x).1,(fH x).2)).1+(if op=6 then 1 else if op=15 then 4 else if op=16 then 6 else 7),(oL (bz op) 0 (uV x,(fH x).1,(fH x).2)).2+1):=rfl;have g:(if op=6 then 1 else if op=15 then 4 else if op=16 then 6 else 7)<=7:=by(repeat' split)<;>omega
  rw[e]
  show _<=80*(1+aF x)/\_<=2*(1+aF x)
  simp only at b⊢;omega
 |.bin op x y p,h,hb=>by
  simp only[dX,zFn]at h;have g:=tK x h.2.1 hb.1;have i:=tK y h.2.2 hb.2;have b:=GY (bz op) 0 (uV x,(fH x).1,(fH x).2);have d:=GY (bz op) (0+1) (uV y,(fH y).1,(fH y).2);have j:=U6 op;have e:fH (.bin op x y p)=((oL (bz op) 0 (uV x,(fH x).1,(fH x).2)).1+1+((dN (bz op)).1.getD (op-(dN (bz op)).2) []).length+1+(oL (bz op) (0+1) (uV y,(fH y).1,(fH y).2)).1,max (oL (bz op) 0 (uV x,(fH x).1,(fH x).2)).2 (oL (bz op) (0+1) (uV y,(fH y).1,(fH y).2)).2):=rfl;rw[e]
  show _<=80*(1+aF x+aF y)/\_<=2*(1+aF x+aF y)
  simp only at b d⊢;omega
theorem xX {P:Nat->Prop}:∀(e:az) (cs:List Value) (w:World),mM P w e cs->dX e=true->gm e->aF e<=10000->
  Calls prog 67 #[.agg cs.toArray] w (wK (fH e) w)
 |.leaf op n F H a p,cs,w,h,b,hb,f=>by
  obtain rfl:cs=iF op n F H a p:=h;obtain⟨c,i,d,k⟩:=C9 b;have:=Rj op n F p (bytes H) (bytes a) (by rw[bZ];exact i) (by rw[bZ];exact d) c hb (λe=>(k e).1) w;rw[bZ,bZ]at this;exact this
 |.un op x p,cs,w,h,b,hb,f=>by
  obtain⟨g,xs,rfl,J,d,k⟩:=h;obtain⟨l,t,s,m,r,o,rfl⟩:=k.op;simp only[dX,zFn]at b;have f:1+aF x<=10000:=f;have z:=tK x b.2 hb
  exact Fz op p _ _ _ _ (some ⟨g,0,none⟩) 1 1 [(uV x,(fH x).1,(fH x).2)] rfl (JX b.1) (by intro q e;simp at e;subst e;simp only;omega) w (λj v=>by
   match j,v with
   |0,_=>exact⟨g,l,t,s,m,r,o,rfl,d.lt,λq u c=>by rw[d.cell];simpa using c,λW i=>xX x _ W (k.old i) b.2 hb (by omega)⟩)
 |.bin op x y p,cs,w,h,b,hb,f=>by
  obtain⟨g,xs,L,rfl,J,d,k,A⟩:=h;obtain⟨D,B,z,G,E,C,rfl⟩:=k.op;obtain⟨l,t,s,m,r,o,rfl⟩:=A.op;simp only[dX,zFn]at b;have f:1+aF x+aF y<=10000:=f;have I:=tK x b.2.1 hb.1;have K:=tK y b.2.2 hb.2
  exact Fz op p _ _ _ _ (some ⟨g,0,none⟩) 2 2 [(uV x,(fH x).1,(fH x).2),(uV y,(fH y).1,(fH y).2)] rfl (FB b.1) (by intro q e;simp at e;rcases e with rfl|rfl<;>simp only<;>omega) w (λj v=>by
   match j,v with
   | 0, _ => exact ⟨g, D, B, z, G, E, C, rfl, d.lt, λq u c => by
     have c:[Value.int .i64 (uV x),D,B,z,G,E,C][q]? =some u:=c;rw[d.cell];have e:q<7:=(zFc.1 c).1;rw[zF7]
     rw[zGh (by simp;omega),zHm,zFr,c],λW i=>xX x _ W (k.old i) b.2.1 hb.1 (by omega)⟩
   | 1, _ => exact ⟨g, l, t, s, m, r, o, rfl, d.lt, λq u c => by
     have c:[Value.int .i64 (uV y),l,t,s,m,r,o][q]? =some u:=c;rw[d.cell];rw[zF7];rw[zGd (by simp)]
     simpa using c,λW i=>xX y _ W (A.old i) b.2.2 hb.2 (by omega)⟩)
theorem uH {P:Nat->Prop}:∀(e:az) (cs:List Value) (w:World),mM P w e cs->gm e->
  Calls prog 88 #[.agg cs.toArray] w λr w'=>r=.returned (.bool (dX e))/\Below w w w'
 |.leaf op n z A a p,cs,w,h,c=>by
  obtain rfl:cs=iF op n z A a p:=h;have:=right_step op n z p (bytes A) (bytes a) none 0 0 [] rfl (by omega) c w (λj e=>absurd e (by simp));rw[aI,aI]at this
  simpa[dX,iF]using this
 |.un op x p,cs,w,h,c=>by
  obtain⟨g,xs,rfl,F,b,i⟩:=h;obtain⟨o,k,v,t,l,s,r,rfl,m⟩:=i.seven
  have:=right_step op 0 0 p ⟨#[]⟩ ⟨#[]⟩ (some ⟨g,0,none⟩) 1 1 [dX x] rfl (by omega) (by omega) w (λj e=>by
   match j,e with
   |0,_=>exact⟨g,o,k,v,t,l,s,r,rfl,b.lt,λq u d=>by rw[b.cell];simpa using d,λW f=>uH x _ W (i.old f) c⟩)
  rw[show(⟨#[]⟩:ByteArray).toList=[] by rw[zFm]]at this
  simpa[dX,opC]using this
 |.bin op x y p,cs,w,h,c=>by
  obtain⟨g,xs,J,rfl,F,b,i,m⟩:=h;obtain⟨C,G,E,B,I,H,D,rfl,_⟩:=i.seven;obtain⟨o,k,v,t,l,s,r,rfl,_⟩:=m.seven
  have:=right_step op 0 0 p ⟨#[]⟩ ⟨#[]⟩ (some ⟨g,0,none⟩) 2 2 [dX x,dX y] rfl (by omega) (by omega) w (λj e=>by
   match j,e with
   | 0, _ => exact ⟨g, C, G, E, B, I, H, D, rfl, b.lt, λq u d => by
     rw[b.cell];have K:q<7:=(zFc.1 d).1;rw[zF7]
     rw[zGh (by simp;omega),zHm,zFr,d],λW f=>uH x _ W (i.old f) c.1⟩
   | 1, _ => exact ⟨g, o, k, v, t, l, s, r, rfl, b.lt, λq u d => by
     rw[b.cell];rw[zF7];rw[zGd (by simp)]
     simpa using d,λW f=>uH y _ W (m.old f) c.2⟩)
  rw[show(⟨#[]⟩:ByteArray).toList=[] by rw[zFm]]at this
  simpa[dX,opC]using this
end Go.Proofs.YtbjnhllkdilpfaaGreat
