/- Part 37 of the proof. No conditions. -/
import Derived.Test.YtbjnhllkdilpfaaZc35
import Derived.Test.YtbjnhllkdilpfaaZc36
import Derived.Test.YtbjnhllkdilpfaaZc32
import Derived.Test.YtbjnhllkdilpfaaZc34
namespace Go.Proofs.Ytbjnhllkdilpfaa
open Go.RowKit
set_option maxRecDepth 100000
set_option maxHeartbeats 16000000
set_option linter.unusedVariables false
set_option linter.unusedSimpArgs false
def tN:ax->Nat
 |.leaf op ..=>op
 |.un op ..=>op
 |.bin op ..=>op
def dQ:ax->Nat×Nat
 |.leaf op n sc nm a _=>(lL op n sc nm.length a.length,0)
 |.un op x _=>textF op (mi (aW op) 0 [(tN x,(dQ x).1,(dQ x).2)])
 |.bin op x y _=>textF op (mi (aW op) 0 [(tN x,(dQ x).1,(dQ x).2),(tN y,(dQ y).1,(dQ y).2)])
theorem kZ.op {P:Nat->Prop} {w:World}:∀{e:ax} {cs:List Value},kZ P w e cs->∃d1 d2 d3 d4 d5 d6:Value,cs=[.int .i64 (tN e),d1,d2,d3,d4,d5,d6]
 |.leaf op n sc nm a p,cs,h=>by
  obtain rfl:cs=gK op n sc nm a p:=h;exact⟨_,_,_,_,_,_,rfl⟩
 |.un op x p,cs,h=>by
  obtain⟨g,xs,rfl,_⟩:=h;exact⟨_,_,_,_,_,_,rfl⟩
 |.bin op x y p,cs,h=>by
  obtain⟨g,xs,ys,rfl,_⟩:=h;exact⟨_,_,_,_,_,_,rfl⟩
theorem sJ {l:Str} (h:nameB l=true):l.length<=24:=by
 rcases Nat.lt_or_ge 24 l.length with hl|hl
 ·rw[Dt l (by omega)]at h;cases h
 ·exact hl
theorem jy {l:Str} (h:l.isEmpty=true):l.length=0:=by simpa using h
theorem OC (op n sc p : Nat) (S1 S2 : ByteArray) (h1 : S1.size ≤ 24) (h2 : S2.size ≤ 24) (hop : 20 ≤ op ∧ op ≤ 31) (hn : n ≤ 9223372036854775807) (hsc : op = 21 → sc ≤ 14) (w : World) :
  Calls Try.prog 63 #[.agg #[.int .i64 op,.slice none 0 0,.int .i64 n,.int .i64 sc,.string S1,.string S2,.int .i64 p]] w (uP (lL op n sc S1.size S2.size,0) w):=by
 have HL:Hid (∀W:World,Calls Try.prog 84 #[.agg #[.int .i64 op,.slice none 0 0,.int .i64 n,.int .i64 sc,.string S1,.string S2,.int .i64 p]] W (yM (lL op n sc S1.size S2.size) W)):=zH fun W=>OA op n sc p S1 S2 h1 h2 hop hn hsc W
 unfold yM at HL;unfold uP;generalize lL op n sc S1.size S2.size=N at *;have qm:Hid (∀(W:World),Calls Try.prog 82 #[.int .i64 op] W fun e w'=>e=.returned (.int .i64 (aW op:Nat))/\w'=W):=zH fun W=>DU op W
 have e6:((op:Int)==6)=false:=zB (by omega)
 have e15:((op:Int)==15)=false:=zB (by omega)
 have e16:((op:Int)==16)=false:=zB (by omega)
 have e17:((op:Int)==17)=false:=zB (by omega)
 clear h1 h2 hop hn hsc;generalize aW op=b at *
 go_enter Try.func63,Try.ntmps63
 have kb:=Bk.new w 118 #[.int .i64 op,.slice none 0 0,.int .i64 n,.int .i64 sc,.string S1,.string S2,.int .i64 p];have hb0:Below w.heap.size w (w.alloc (.cells #[.int .i64 op,.slice none 0 0,.int .i64 n,.int .i64 sc,.string S1,.string S2,.int .i64 p] 118)):=zR.alloc zL _;go_upto_region 1 with fail
 generalize w.alloc (.cells #[.int .i64 op,.slice none 0 0,.int .i64 n,.int .i64 sc,.string S1,.string S2,.int .i64 p] 118)=w0 at *;generalize eU:w.heap.size=bx at *;obtain⟨q0,q1,q2,q3,q4,q5,q6⟩:=zc7 kb;have HB0:=zH hb0;have jw:=zH eU;clear kb hb0 eU;go_wp2_with fail
 refine(qm.out _).mono ?_;rintro r w1 ⟨rfl,hw1⟩;obtain rfl:w0=w1:=hw1.symm;go_wp2_with fail
 go_loopw[5,6,19] (fun l m i wr=>l=.slice none 0 0/\m=.int .i64 0/\i=.int .i64 0/\w0=wr) (fun _ _ _ _=>0)
 case atStart=>exact⟨rfl,rfl,rfl,rfl⟩
 case round=>
  obtain⟨rfl,rfl,rfl,rfl⟩:=hrel;go_wp2_with fail
  refine(HL.out _).mono ?_;rintro r w4 ⟨S,rfl,hS,hb4⟩;have HB:=zH (HB0.out.trans (hb4.mono (by have:=HB0.out.size;have:=jw.out;omega)));have HS:=zH hS;clear hb4 hS;go_wp2
  go_ret2
  exact⟨_,rfl,HS.out,by first|exact HB.out|(rw[<-jw.out];exact HB.out)|(rw[jw.out];exact HB.out)⟩
theorem Bo {op n sc:Nat} {nm a:Str} (h:kD op n sc nm a 0=true):(20<=op/\op<=31)/\nm.length<=24/\a.length<=24/\(op=21->sc<=14/\iW n sc<=16):=by
 have hc:(op=6\/(15<=op/\op<=17))\/((1<=op/\op<=14)/\op≠6)\/(op=20)\/(op=21)\/(op=22)\/(op=23\/op=25)\/(op=24\/(26<=op/\op<=31))\/(op=0\/op=18\/op=19\/32<=op):=by omega
 rcases hc with hc|hc|hc|hc|hc|hc|hc|hc
 ·have hs:kK op n sc nm a=some (1,nm.isEmpty,a.isEmpty,(n==0&&sc==0)):=by unfold kK;(repeat' split)<;>first|rfl|(exfalso;omega)
  rw[dX hs]at h;simp at h
 ·have hs:kK op n sc nm a=some (2,nm.isEmpty,a.isEmpty,(n==0&&sc==0)):=by unfold kK;(repeat' split)<;>first|rfl|(exfalso;omega)
  rw[dX hs]at h;simp at h
 ·have hs:kK op n sc nm a=some (0,nm.isEmpty,a.isEmpty,sc==0):=by unfold kK;(repeat' split)<;>first|rfl|(exfalso;omega)
  rw[dX hs]at h;simp only[Bool.and_eq_true,beq_iff_eq,decide_eq_true_eq,Bool.or_eq_true]at h;have h1:=jy h.1.1.1;have h2:=jy h.1.1.2;exact⟨by omega,by omega,by omega,fun e=>by omega⟩
 ·have hs:kK op n sc nm a=some (0,nm.isEmpty,a.isEmpty,(decide (1<=sc)&&decide (sc<=14))&&decide (iW n sc<=16)):=by unfold kK;(repeat' split)<;>first|rfl|(exfalso;omega)
  rw[dX hs]at h;simp only[Bool.and_eq_true,beq_iff_eq,decide_eq_true_eq,Bool.or_eq_true]at h;have h1:=jy h.1.1.1;have h2:=jy h.1.1.2;exact⟨by omega,by omega,by omega,fun e=>⟨h.1.2.1.2,h.1.2.2⟩⟩
 ·have hs:kK op n sc nm a=some (0,nm.isEmpty,a.isEmpty,(n==0||n==1)&&sc==0):=by unfold kK;(repeat' split)<;>first|rfl|(exfalso;omega)
  rw[dX hs]at h;simp only[Bool.and_eq_true,beq_iff_eq,decide_eq_true_eq,Bool.or_eq_true]at h;have h1:=jy h.1.1.1;have h2:=jy h.1.1.2;exact⟨by omega,by omega,by omega,fun e=>by omega⟩
 ·have hs:kK op n sc nm a=some (0,nameB nm,a.isEmpty,(n==0&&sc==0)):=by unfold kK;(repeat' split)<;>first|rfl|(exfalso;omega)
  rw[dX hs]at h;simp only[Bool.and_eq_true,beq_iff_eq,decide_eq_true_eq,Bool.or_eq_true]at h;have h1:=sJ h.1.1.1;have h2:=jy h.1.1.2;exact⟨by omega,by omega,by omega,fun e=>by omega⟩
 ·have hs:kK op n sc nm a=some (0,nameB nm,nameB a||a==iH,(n==0&&sc==0)):=by unfold kK;(repeat' split)<;>first|rfl|(exfalso;omega)
  rw[dX hs]at h;simp only[Bool.and_eq_true,beq_iff_eq,decide_eq_true_eq,Bool.or_eq_true]at h;have h1:=sJ h.1.1.1
  have h2:a.length<=24:=by
   rcases h.1.1.2 with h2|h2
   ·exact sJ h2
   ·rw[h2];decide
  exact⟨by omega,by omega,by omega,fun e=>by omega⟩
 ·have hs:kK op n sc nm a=none:=by unfold kK;(repeat' split)<;>first|rfl|(exfalso;omega)
  rw[iL hs]at h;cases h
theorem Ir {op:Nat} (h:kD op 0 0 [] [] 1=true):Su op 1:=by
 by_cases hc:op=6\/(15<=op/\op<=17)
 ·exact .inl ⟨rfl,hc⟩
 ·exfalso
  have hs:∀m x y z,kK op 0 0 [] []=some (m,x,y,z)->m≠1:=by
   intro m x y z he;unfold kK at he
   (repeat' split at he)<;>first|(exfalso;omega)|(injection he with he;injection he with he;omega)|cases he
  rcases hv:kK op 0 0 [] []with _|⟨m,x,y,z⟩
  ·rw[iL hv]at h;cases h
  ·rw[dX hv]at h;simp only[Bool.and_eq_true,beq_iff_eq]at h;exact hs m x y z hv h.2.symm
theorem DY {op:Nat} (h:kD op 0 0 [] [] 2=true):Su op 2:=by
 by_cases hc:1<=op/\op<=14/\op≠6
 ·exact .inr ⟨rfl,hc⟩
 ·exfalso
  have hs:∀m x y z,kK op 0 0 [] []=some (m,x,y,z)->m≠2:=by
   intro m x y z he;unfold kK at he
   (repeat' split at he)<;>first|(exfalso;omega)|(injection he with he;injection he with he;omega)|cases he
  rcases hv:kK op 0 0 [] []with _|⟨m,x,y,z⟩
  ·rw[iL hv]at h;cases h
  ·rw[dX hv]at h;simp only[Bool.and_eq_true,beq_iff_eq]at h;exact hs m x y z hv h.2.symm
theorem ET (b j:Nat) (a:Nat×Nat×Nat):(mX b j a).1<=a.2.1+2/\(mX b j a).2<=a.2.2+1:=by
 unfold mX
 split
 ·exact⟨Nat.le_refl _,Nat.le_refl _⟩
 ·exact⟨Nat.le_add_right _ _,Nat.le_add_right _ _⟩
theorem Sv (op:Nat):((dB (aW op)).1.getD (op-(dB (aW op)).2) []).length<=3:=by
 have key:∀(l:List Str) (i:Nat),(∀x∈l,x.length<=3)->(l.getD i []).length<=3:=by
  intro l i h;rw[List.getD_eq_getElem?_getD];rcases hg:l[i]? with _|x
  ·simp
  ·exact h x (List.mem_of_getElem? hg)
 apply key
 have hb8:aW op<=8:=by unfold aW;(repeat' split)<;>omega
 generalize aW op=b at *
 match b,hb8 with
 |0,_|1,_|2,_|3,_|4,_|5,_|6,_|7,_|8,_=>decide
theorem VS (i:Nat):(jl.getD i []).length<=5:=by
 rw[List.getD_eq_getElem?_getD];rcases hg:jl[i]? with _|x
 ·simp
 ·have:∀x∈jl,x.length<=5:=by decide
  exact this x (List.mem_of_getElem? hg)
theorem qX:∀e:ax,dM e=true->kF e->(dQ e).1<=80*aB e/\(dQ e).2<=2*aB e
 |.leaf op n sc nm a p,h,hb=>by
  obtain⟨h1,h2,h3,h4⟩:=Bo h;have hd:=sG n hb;have ha:=VS (op-25);refine⟨?_,Nat.zero_le _⟩
  show lL op n sc nm.length a.length<=80*1
  unfold lL
  by_cases h21:op=21
  ·have:=(h4 h21).2;subst h21;simp only[show¬(21:Nat)=20 by decide,if_false,if_true];omega
  ·rw[if_neg h21]
   (repeat' split)<;>omega
 |.un op x p,h,hb=>by
  simp only[dM,Bool.and_eq_true]at h;have ih:=qX x h.2 hb;have hp:=ET (aW op) 0 (tN x,(dQ x).1,(dQ x).2);have e:dQ (.un op x p)=((mX (aW op) 0 (tN x,(dQ x).1,(dQ x).2)).1+(if op=6 then 1 else if op=15 then 4 else if op=16 then 6 else 7),(mX (aW op) 0 (tN x,(dQ x).1,(dQ x).2)).2+1):=rfl;have h7:(if op=6 then 1 else if op=15 then 4 else if op=16 then 6 else 7)<=7:=by(repeat' split)<;>omega
  rw[e]
  show _<=80*(1+aB x)/\_<=2*(1+aB x)
  simp only at hp⊢;omega
 |.bin op x y p,h,hb=>by
  simp only[dM,Bool.and_eq_true]at h;have ihx:=qX x h.2.1 hb.1;have ihy:=qX y h.2.2 hb.2;have hp:=ET (aW op) 0 (tN x,(dQ x).1,(dQ x).2);have hq:=ET (aW op) (0+1) (tN y,(dQ y).1,(dQ y).2);have hs:=Sv op;have e:dQ (.bin op x y p)=((mX (aW op) 0 (tN x,(dQ x).1,(dQ x).2)).1+1+((dB (aW op)).1.getD (op-(dB (aW op)).2) []).length+1+(mX (aW op) (0+1) (tN y,(dQ y).1,(dQ y).2)).1,max (mX (aW op) 0 (tN x,(dQ x).1,(dQ x).2)).2 (mX (aW op) (0+1) (tN y,(dQ y).1,(dQ y).2)).2):=rfl;rw[e]
  show _<=80*(1+aB x+aB y)/\_<=2*(1+aB x+aB y)
  simp only at hp hq⊢;omega
theorem wJ {P : Nat → Prop} : ∀ (e : ax) (cs : List Value) (w : World), kZ P w e cs → dM e = true → kF e → aB e ≤ 10000 →
  Calls Try.prog 63 #[.agg cs.toArray] w (uP (dQ e) w)
 |.leaf op n sc nm a p,cs,w,h,hr,hb,hs=>by
  obtain rfl:cs=gK op n sc nm a p:=h;obtain⟨h1,h2,h3,h4⟩:=Bo hr;have:=OC op n sc p (bytes nm) (bytes a) (by rw[bD];exact h2) (by rw[bD];exact h3) h1 hb (fun e=>(h4 e).1) w;rw[bD,bD]at this;exact this
 |.un op x p,cs,w,h,hr,hb,hs=>by
  obtain⟨g,xs,rfl,hP,hk,hx⟩:=h;obtain⟨y1,y2,y3,y4,y5,y6,rfl⟩:=hx.op;simp only[dM,Bool.and_eq_true]at hr;have hs:1+aB x<=10000:=hs;have hl:=qX x hr.2 hb
  exact DX op p _ _ _ _ (some ⟨g,0,none⟩) 1 1 [(tN x,(dQ x).1,(dQ x).2)] rfl (Ir hr.1) (by intro q hq;simp at hq;subst hq;simp only;omega) w (fun j hj=>by
   match j,hj with
   |0,_=>exact⟨g,y1,y2,y3,y4,y5,y6,rfl,hk.lt,fun q u hu=>by rw[hk.cell];simpa using hu,fun W hW=>wJ x _ W (hx.old hW) hr.2 hb (by omega)⟩)
 |.bin op x y p,cs,w,h,hr,hb,hs=>by
  obtain⟨g,xs,ys,rfl,hP,hk,hx,hy⟩:=h;obtain⟨x1,x2,x3,x4,x5,x6,rfl⟩:=hx.op;obtain⟨y1,y2,y3,y4,y5,y6,rfl⟩:=hy.op;simp only[dM,Bool.and_eq_true]at hr;have hs:1+aB x+aB y<=10000:=hs;have hlx:=qX x hr.2.1 hb.1;have Ji:=qX y hr.2.2 hb.2
  exact DX op p _ _ _ _ (some ⟨g,0,none⟩) 2 2 [(tN x,(dQ x).1,(dQ x).2),(tN y,(dQ y).1,(dQ y).2)] rfl (DY hr.1) (by intro q hq;simp at hq;rcases hq with rfl|rfl<;>simp only<;>omega) w (fun j hj=>by
   match j,hj with
   | 0, _ => exact ⟨g, x1, x2, x3, x4, x5, x6, rfl, hk.lt, fun q u hu => by
     have hu:[Value.int .i64 (tN x),x1,x2,x3,x4,x5,x6][q]? =some u:=hu;rw[hk.cell];have hq:q<7:=(List.getElem?_eq_some_iff.1 hu).1;rw[List.getElem?_toArray]
     rw[List.getElem?_append_left (by simp;omega),Nat.zero_mul,Nat.zero_add,hu],fun W hW=>wJ x _ W (hx.old hW) hr.2.1 hb.1 (by omega)⟩
   | 1, _ => exact ⟨g, y1, y2, y3, y4, y5, y6, rfl, hk.lt, fun q u hu => by
     have hu:[Value.int .i64 (tN y),y1,y2,y3,y4,y5,y6][q]? =some u:=hu;rw[hk.cell];rw[List.getElem?_toArray];rw[List.getElem?_append_right (by simp)]
     simpa using hu,fun W hW=>wJ y _ W (hy.old hW) hr.2.2 hb.2 (by omega)⟩)
theorem sK {P : Nat → Prop} : ∀ (e : ax) (cs : List Value) (w : World), kZ P w e cs → kF e →
  Calls Try.prog 81 #[.agg cs.toArray] w fun r w'=>r=.returned (.bool (dM e))/\Below w.heap.size w w'
 |.leaf op n sc nm a p,cs,w,h,hs=>by
  obtain rfl:cs=gK op n sc nm a p:=h;have:=right_step op n sc p (bytes nm) (bytes a) none 0 0 [] rfl (by omega) hs w (fun j hj=>absurd hj (by simp));rw[aF,aF]at this
  simpa[dM,gK]using this
 |.un op x p,cs,w,h,hs=>by
  obtain⟨g,xs,rfl,hP,hk,hx⟩:=h;obtain⟨y0,y1,y2,y3,y4,y5,y6,rfl,hy⟩:=hx.seven
  have:=right_step op 0 0 p ⟨#[]⟩ ⟨#[]⟩ (some ⟨g,0,none⟩) 1 1 [dM x] rfl (by omega) (by omega) w (fun j hj=>by
   match j,hj with
   |0,_=>exact⟨g,y0,y1,y2,y3,y4,y5,y6,rfl,hk.lt,fun q u hu=>by rw[hk.cell];simpa using hu,fun W hW=>sK x _ W (hx.old hW) hs⟩)
  rw[show(⟨#[]⟩:ByteArray).toList=[] by rw[ByteArray.toList_eq]]at this
  simpa[dM,opC]using this
 |.bin op x y p,cs,w,h,hs=>by
  obtain⟨g,xs,ys,rfl,hP,hk,hx,hy⟩:=h;obtain⟨x0,x1,x2,x3,x4,x5,x6,rfl,_⟩:=hx.seven;obtain⟨y0,y1,y2,y3,y4,y5,y6,rfl,_⟩:=hy.seven
  have:=right_step op 0 0 p ⟨#[]⟩ ⟨#[]⟩ (some ⟨g,0,none⟩) 2 2 [dM x,dM y] rfl (by omega) (by omega) w (fun j hj=>by
   match j,hj with
   | 0, _ => exact ⟨g, x0, x1, x2, x3, x4, x5, x6, rfl, hk.lt, fun q u hu => by
     rw[hk.cell];have hq:q<7:=(List.getElem?_eq_some_iff.1 hu).1;rw[List.getElem?_toArray]
     rw[List.getElem?_append_left (by simp;omega),Nat.zero_mul,Nat.zero_add,hu],fun W hW=>sK x _ W (hx.old hW) hs.1⟩
   | 1, _ => exact ⟨g, y0, y1, y2, y3, y4, y5, y6, rfl, hk.lt, fun q u hu => by
     rw[hk.cell];rw[List.getElem?_toArray];rw[List.getElem?_append_right (by simp)]
     simpa using hu,fun W hW=>sK y _ W (hy.old hW) hs.2⟩)
  rw[show(⟨#[]⟩:ByteArray).toList=[] by rw[ByteArray.toList_eq]]at this
  simpa[dM,opC]using this
def qY (x:aZ):Bool:=((decide (1<=x.form)&&decide (x.form<=3))&&nameB x.type)&&nameB x.name
def Iy (l:List aZ):Bool:=decide (0<l.length)&&l.all qY
def zh (e:ax):Bool:=tN e !=13&&dM e
def EY (q:bK):Bool:=(((decide (0<q.branches.length)&&decide (1<=q.aP))&&decide (q.aP<=3))&&decide (q.window<=1152921504606846976))&&(q.key.isEmpty||nameB q.key)
def mD (q:bK):Bool:=(EY q&&q.branches.all Iy)&&q.cond.all zh
theorem oW.get {B:Nat} {w:World}:∀{vs:List Value} {ls:List (List aZ)},oW B w vs ls->∀k (hk:k<ls.length),∃A c,vs[k]? =some (.slice A ls[k].length c)/\Rd w w.heap.size A (ls[k].flatMap aZ.cells)
 |[],[],_,k,hk=>absurd hk (by simp)
 |v::vs,l::ls,h,0,hk=>by
  obtain⟨A,c,rfl,_⟩:=bg h.1;exact⟨A,c,rfl,dG h.1⟩
 |v::vs,l::ls,h,k+1,hk=>oW.get h.2 k (by simpa using hk)
 |[],_::_,h,_,_=>h.elim
 |_::_,[],h,_,_=>h.elim
theorem oW.len {B:Nat} {w:World}:∀{vs:List Value} {ls:List (List aZ)},oW B w vs ls->vs.length=ls.length
 |[],[],_=>rfl
 |v::vs,l::ls,h=>by simp[oW.len h.2]
 |[],_::_,h=>h.elim
 |_::_,[],h=>h.elim
theorem jY.get {B : Nat} {w : World} {A : Option Addr} {n c : Nat} {dI : List (List aZ)} (h : jY B w (.slice A n c) dI) (k : Nat) (hk : k < dI.length) :
  ∃g o A' c',A=some ⟨g,o,none⟩/\g<w.heap.size/\w.cell? ⟨g,o+k,none⟩=some (.slice A' dI[k].length c')/\Rd w w.heap.size A' (dI[k].flatMap aZ.cells):=by
 obtain⟨vs,h1,h2⟩:=h;obtain⟨A0,c0,hv,_⟩:=bg h1;injection hv with hA hn hc
 subst hA;have hrd:=dG (by rw[hn]at h1;exact h1);obtain⟨A',c',hg,hr⟩:=h2.get k hk;have hlv:=h2.len;obtain⟨g,o,hA,hlt,hcc⟩:=hrd.at_ (j:=k) (by rw[hlv];exact hk);exact⟨g,o,A',c',hA,hlt,hcc k _ hg,hr⟩
theorem yI.get {B : Nat} {w : World} {A : Option Addr} {n c : Nat} {es : List ax} (h : yI B w (.slice A n c) es) (k : Nat) (hk : k < es.length) :
  ∃g o y0 y1 y2 y3 y4 y5 y6,A=some ⟨g,o,none⟩/\g<w.heap.size/\kZ (fun g=>B<=g) w es[k] [y0,y1,y2,y3,y4,y5,y6]/\∀(j:Nat) (u:Value),[y0,y1,y2,y3,y4,y5,y6][j]? =some u->w.cell? ⟨g,o+(k*7+j),none⟩=some u:=by
 obtain⟨css,h1,h2⟩:=h;obtain⟨A0,c0,hv,_⟩:=bg h1;injection hv with hA hn hc
 subst hA;have hrd:=dG (by rw[hn]at h1;exact h1);obtain⟨y0,y1,y2,y3,y4,y5,y6,hok,hys⟩:=h2.get k hk;obtain⟨g,o,hA,hlt,hcc⟩:=hrd.at_ (j:=k*7) (by have:=(List.getElem?_eq_some_iff.1 (hys 0 y0 rfl)).1;simpa using this);exact⟨g,o,y0,y1,y2,y3,y4,y5,y6,hA,hlt,hok,fun j u hu=>hcc _ u (hys j u hu)⟩
theorem QV.old {B:Nat} {w w':World} {q:bK} {cs:List Value} (h:QV B w q cs) (hb:Below w.heap.size w w'):QV B w' q cs:=by
 obtain⟨bv,wv,h1,h2,h3⟩:=h;exact⟨bv,wv,h1,h2.old hb,h3.old hb⟩
theorem yI.len {B:Nat} {w:World} {A:Option Addr} {n c:Nat} {es:List ax} (h:yI B w (.slice A n c) es):n=es.length:=by
 obtain⟨css,h1,h2⟩:=h;obtain⟨A0,c0,hv,_⟩:=bg h1;injection hv with hA hn hc
 rw[hn,h2.len.1]
theorem jY.len {B:Nat} {w:World} {A:Option Addr} {n c:Nat} {dI:List (List aZ)} (h:jY B w (.slice A n c) dI):n=dI.length:=by
 obtain⟨vs,h1,h2⟩:=h;obtain⟨A0,c0,hv,_⟩:=bg h1;injection hv with hA hn hc
theorem BA {α:Type} (f:α->Bool) (l:List α) (k:Nat) (h:k<l.length):(l.drop k).all f=(f l[k]&&(l.drop (k+1)).all f):=by rw[List.drop_eq_getElem_cons h,List.all_cons]
theorem KN (B : Nat) (w : World) (q : bK) (A1 A2 : Option Addr) (n1 n2 c1 c2 : Nat) (hbr : jY B w (.slice A1 n1 c1) q.branches) (hwh : yI B w (.slice A2 n2 c2) q.cond) (hbd : ∀ e ∈ q.cond, kF e) (hn : n1 ≤ 1000 ∧ n2 ≤ 100000) (hst : q.aP ≤ 1000) (hwin : q.window ≤ 9223372036854775807) (hit : ∀ l ∈ q.branches, l.length ≤ 1000) :
  Calls Try.prog 61 #[.agg (q.cells (.slice A1 n1 c1) (.slice A2 n2 c2)).toArray] w fun r w'=>r=.returned (.bool (mD q))/\Below w.heap.size w w':=by
 have hl1:=hbr.len;have hl2:=hwh.len;have OH:=zH hbr;have Zn:=zH hwh;have Fz:=zH hbd;have vP:=zH hl1;have HL2:=zH hl2;have HIT:=zH hit;have tJ:Hid (∀(S:ByteArray) (W:World),Calls Try.prog 77 #[.string S] W fun e w'=>e=.returned (.bool (nameB S.toList))/\Below W.heap.size W w'):=zH fun S W=>nX S W
 obtain⟨hd,hhd⟩:∃z,EY q=z:=⟨_,rfl⟩
 obtain⟨RES,hres⟩:∃R,mD q=R:=⟨_,rfl⟩
 rw[hres];unfold mD at hres;rw[hhd]at hres;unfold EY at hhd;obtain⟨dI,es,st,win,key,ka⟩:=q;simp only at OH Zn Fz vP HL2 HIT hhd hres hst hwin;unfold bK.cells iK;obtain⟨K,hK⟩:∃K,bytes key=K:=⟨_,rfl⟩
 have hkl:key=K.toList:=by rw[<-hK,aF]
 rw[hkl]at hhd;have HHD:=zH hhd;have aG:=zH hres;have hwI:decide ((win:Int)<=1152921504606846976)=decide (win<=1152921504606846976):=by rw[decide_eq_decide];omega
 have hw0:decide ((0:Int)<=(win:Int))=true:=by rw[decide_eq_true_eq];omega
 obtain⟨wb,hwb⟩:∃z,decide (win<=1152921504606846976)=z:=⟨_,rfl⟩
 have VT:=HHD.out;rw[hwb]at hwI VT;rw[<-hl1]at VT;have HHD2:=zH VT;obtain⟨hn1,hn2⟩:=hn;clear hbr hwh hbd hl1 hl2 hit hhd hres hkl hwb HHD hwin VT;simp only[hK];clear hK
 go_enter Try.func61,Try.ntmps61
 have kb:=Bk.new w 80 #[.slice A1 n1 c1,.slice A2 n2 c2,.int .i64 st,.int .i64 win,.string K,.int .i64 ka];have HB0:=zH ((Below.refl w.heap.size w).alloc zL (.cells #[.slice A1 n1 c1,.slice A2 n2 c2,.int .i64 st,.int .i64 win,.string K,.int .i64 ka] 80));go_upto_region 1 with fail
 generalize w.alloc (.cells #[.slice A1 n1 c1,.slice A2 n2 c2,.int .i64 st,.int .i64 win,.string K,.int .i64 ka] 80)=w0 at *;generalize eU:w.heap.size=bx at *;have jw:=zH eU;have HKB:=zH kb;have hbx:=kb.lt;clear kb eU;have OI:Hid (Below w.heap.size w w0):=zH (by first|exact HB0.out|(rw[jw.out];exact HB0.out))
 go_cut[3] (fun v wx=>v=.bool hd/\Hid (Below w0.heap.size w0 wx))
 case first=>
  as_aux_lemma=>
  have hh:=HHD2.out;have q0:=HKB.out.cell 0;have q2:=HKB.out.cell 2;have q3:=HKB.out.cell 3;have q4:=HKB.out.cell 4
  by_cases h1:0<n1
  case neg=>
   have hI:¬(0:Int)<(n1:Int):=by omega
   have hst:hd=false:=by rw[<-hh,decide_eq_false h1];rfl
   subst hst;clear h1 hh hwI hw0;go_wp2_with fail
   go_meet
   exact⟨rfl,zH zR⟩
  case pos=>
  have hI:(0:Int)<(n1:Int):=by omega
  rw[decide_eq_true h1]at hh
  by_cases h2:1<=st
  case neg=>
   have hI2:¬(1:Int)<=(st:Int):=by omega
   have hst:hd=false:=by rw[<-hh,decide_eq_false h2];rfl
   subst hst;clear h1 h2 hh hwI hw0;go_wp2_with fail
   go_meet
   exact⟨rfl,zH zR⟩
  case pos=>
  have hI2:(1:Int)<=(st:Int):=by omega
  rw[decide_eq_true h2]at hh
  by_cases h3:st<=3
  case neg=>
   have hI3:¬(st:Int)<=(3:Int):=by omega
   have hst:hd=false:=by rw[<-hh,decide_eq_false h3];rfl
   subst hst;clear h1 h2 h3 hh hwI hw0;go_wp2_with fail
   go_meet
   exact⟨rfl,zH zR⟩
  case pos=>
  have hI3:(st:Int)<=(3:Int):=by omega
  rw[decide_eq_true h3]at hh;cases wb
  case false=>
   have hst:hd=false:=by rw[<-hh];rfl
   subst hst;clear h1 h2 h3 hh;go_wp2_with fail
   go_meet
   exact⟨rfl,zH zR⟩
  case true=>
  by_cases hk:K.toList=[]
  case pos=>
   have hkE:K.toList.isEmpty=true:=by rw[hk];rfl
   have hst:hd=true:=by rw[<-hh,hk];rfl
   subst hst;clear h1 h2 h3 hh;go_wp2_with fail
   go_meet
   exact⟨rfl,zH zR⟩
  case neg=>
   have hkE:K.toList.isEmpty=false:=by rw[Bool.eq_false_iff];intro h;exact hk (by simpa using h)
   have hst:hd=nameB K.toList:=by rw[<-hh,hkE];rfl
   subst hst;have HNK:=zH (tJ.out K w0);clear h1 h2 h3 hh;go_wp2_with fail
   refine HNK.out.mono ?_;rintro r w2 ⟨rfl,hb2⟩;have HB2:=zH hb2;clear hb2;go_wp2_with fail
   go_meet
   exact⟨rfl,HB2⟩
 case rest=>
 obtain⟨rfl,HB⟩:=hcut;have HA:Hid (((hd&&(dI.drop 0).all Iy)&&es.all zh)=RES):=zH (by rw[List.drop_zero];exact aG.out);clear aG HHD2 hwI hw0;have q0:=(HKB.out.old HB.out).cell 0;go_wp2_with fail
 clear q0
 go_loopw[3,46] (fun o i wr=>∃(k:Nat) (z:Bool),k<=n1/\o=.bool z/\i=.int .i64 k/\Hid (((z&&(dI.drop k).all Iy)&&es.all zh)=RES)/\Hid (Below w0.heap.size w0 wr)) (fun _ i _=>n1-(intOf i).toNat)
 case atStart=>exact⟨0,hd,Nat.zero_le _,rfl,rfl,HA,HB⟩
 case round=>
  clear HA HB;obtain⟨k,z,hk,rfl,rfl,HR,HB⟩:=hrel;obtain⟨wo,rfl⟩:∃wo:World,wo=wr:=⟨_,rfl⟩
  by_cases hlt:k<n1
  ·as_aux_lemma=>
   have hkl:k<dI.length:=by have:=vP.out;omega
   have hbw:Below w.heap.size w wo:=OI.out.trans (HB.out.mono OI.out.size);obtain⟨g,o,A',c',hA,hg,hc,hrd⟩:=(OH.out.old hbw).get k hkl;subst hA;have hll:=HIT.out dI[k] (List.getElem_mem hkl);have hr:=HR.out;rw[BA _ _ _ hkl]at hr;obtain⟨l,hl⟩:∃l,dI[k]=l:=⟨_,rfl⟩
   rw[hl]at hc hrd hll hr;obtain⟨n,hn⟩:∃n,l.length=n:=⟨_,rfl⟩
   rw[hn]at hc hll;have HN:=zH hn;have vg:=zH hrd;have HR2:=zH hr;obtain⟨tl,htl⟩:∃z,((dI.drop (k+1)).all Iy)=z:=⟨_,rfl⟩
   have hr:=HR2.out;rw[htl]at hr;have HTL:=zH htl;have HR3:=zH hr;obtain⟨z2,hz2⟩:∃y,(z&&decide (0<n))=y:=⟨_,rfl⟩
   have HZ2:=zH hz2;clear hr hrd hl hn HR HR2 htl hz2 hbw hg;go_upto_region 5 with fail
   clear hc
   go_cut[3] (fun v wx=>v=.bool z2/\wo=wx)
   case first=>
    as_aux_lemma=>
    have hz:=HZ2.out;cases z
    case false=>
     have hst:z2=false:=by rw[<-hz];rfl
     subst hst;clear hz;go_wp2_with fail
     go_meet
     exact⟨rfl,rfl⟩
    case true=>
     by_cases h0:0<n
     ·have hI:(0:Int)<(n:Int):=by omega
      have hst:z2=true:=by rw[<-hz,decide_eq_true h0];rfl
      have hD:decide (0<n)=true:=decide_eq_true h0;subst hst;clear hz h0;go_wp2_with fail
      go_meet
      exact⟨rfl,rfl⟩
     ·have hI:¬(0:Int)<(n:Int):=by omega
      have hst:z2=false:=by rw[<-hz,decide_eq_false h0];rfl
      have hD:decide (0<n)=false:=decide_eq_false h0;subst hst;clear hz h0;go_wp2_with fail
      go_meet
      exact⟨rfl,rfl⟩
   case rest=>
   obtain⟨rfl,hwc⟩:=hcut;subst hwc
   have hr4:(((z2&&(l.drop 0).all qY)&&tl)&&es.all zh)=RES:=by
    rw[<-HR3.out,<-HZ2.out,List.drop_zero];unfold Iy;rw[HN.out];cases z<;>cases decide (0<n)<;>cases l.all qY<;>cases tl<;>rfl
   have HR4:=zH hr4;have HBO:=HB;clear HB hr4 HR3 HZ2;go_wp2_with fail
   go_loopw[3,58] (fun o i wr=>∃(j:Nat) (y:Bool),j<=n/\o=.bool y/\i=.int .i64 j/\Hid ((((y&&(l.drop j).all qY)&&tl)&&es.all zh)=RES)/\Hid (Below wo.heap.size wo wr)) (fun _ i _=>n-(intOf i).toNat)
   case atStart=>exact⟨0,z2,Nat.zero_le _,rfl,rfl,HR4,zH zR⟩
   case round=>
    clear HR4;obtain⟨j,y,hj,rfl,rfl,VU,BV⟩:=hrel;obtain⟨wp,rfl⟩:∃wp:World,wp=wr:=⟨_,rfl⟩
    by_cases hlj:j<n
    ·as_aux_lemma=>
     have hjl:j<l.length:=by have:=HN.out;omega
     obtain⟨gi,oi,rfl,hgi,hci⟩:=vg.out.elem (n:=4) Bz (by omega) hjl;have hr:=VU.out;rw[BA _ _ _ hjl]at hr;obtain⟨⟨f,ty,nm,ps⟩,hx⟩:∃z,l[j]=z:=⟨_,rfl⟩
     rw[hx]at hci hr;have hcc:∀(q:Nat) (u:Value),(aZ.cells ⟨f,ty,nm,ps⟩)[q]? =some u->wp.cell? ⟨gi,oi+j*4+q,none⟩=some u:=fun q u h=>(aT BV.out gi _ hgi).trans (hci q u h)
     obtain⟨T,hT⟩:∃T,bytes ty=T:=⟨_,rfl⟩
     obtain⟨M,hM⟩:∃M,bytes nm=M:=⟨_,rfl⟩
     have r0:wp.cell? ⟨gi,oi+j*4,none⟩=some (.int .i64 f):=hcc 0 _ rfl;have r1:wp.cell? ⟨gi,oi+j*4+1,none⟩=some (.string T):=(hcc 1 _ rfl).trans (by rw[hT]);have r2:wp.cell? ⟨gi,oi+j*4+2,none⟩=some (.string M):=(hcc 2 _ rfl).trans (by rw[hM]);have r3:wp.cell? ⟨gi,oi+j*4+3,none⟩=some (.int .i64 ps):=hcc 3 _ rfl
     have hok:qY ⟨f,ty,nm,ps⟩=(((decide (1<=f)&&decide (f<=3))&&nameB T.toList)&&nameB M.toList):=by
      unfold qY;rw[<-hT,<-hM,aF,aF]
     rw[hok]at hr;have HRK:=zH hr;clear hcc hci hgi hx hr hT hM hok VU;go_upto_region 9 with fail
     have kb:=Bk.new wp 126 #[.int .i64 f,.string T,.string M,.int .i64 ps];have HB2:=zH (BV.out.alloc BV.out.size (.cells #[.int .i64 f,.string T,.string M,.int .i64 ps] 126));clear r0 r1 r2 r3 BV;generalize wp.alloc (.cells #[.int .i64 f,.string T,.string M,.int .i64 ps] 126)=W5 at *;generalize wp.heap.size=gx at *;have Ci:=zH kb;clear kb;obtain⟨y2,hy2⟩:∃z,(y&&(((decide (1<=f)&&decide (f<=3))&&nameB T.toList)&&nameB M.toList))=z:=⟨_,rfl⟩
     have HY2:=zH hy2;clear hy2
     have UD:(((y2&&(l.drop (j+1)).all qY)&&tl)&&es.all zh)=RES:=by
      rw[<-HRK.out,<-HY2.out];cases y<;>simp[Bool.and_assoc]
     have Jm:=zH UD;clear UD HRK;have hy:=HY2.out;have q0:=Ci.out.cell 0;have q1:=Ci.out.cell 1;cases y
     case false=>
      have hst:y2=false:=by rw[<-hy];rfl
      subst hst;clear hy;go_wp2
      go_roundw
      case rel=>exact⟨j+1,_,by omega,rfl,by go_num,Jm,HB2⟩
      case measure=>simp[intOf];omega
     case true=>
     by_cases h1:1<=f
     case neg=>
      have hI:¬(1:Int)<=(f:Int):=by omega
      have hst:y2=false:=by rw[<-hy,decide_eq_false h1];rfl
      subst hst;clear hy h1;go_wp2
      go_roundw
      case rel=>exact⟨j+1,_,by omega,rfl,by go_num,Jm,HB2⟩
      case measure=>simp[intOf];omega
     case pos=>
     have hI:(1:Int)<=(f:Int):=by omega
     by_cases h3:f<=3
     case neg=>
      have hI3:¬(f:Int)<=(3:Int):=by omega
      have hst:y2=false:=by rw[<-hy,decide_eq_false h3,Bool.and_false];rfl
      subst hst;clear hy h1 h3;go_wp2
      go_roundw
      case rel=>exact⟨j+1,_,by omega,rfl,by go_num,Jm,HB2⟩
      case measure=>simp[intOf];omega
     case pos=>
     have hI3:(f:Int)<=(3:Int):=by omega
     have hst:y2=(nameB T.toList&&nameB M.toList):=by rw[<-hy,decide_eq_true h1,decide_eq_true h3];rfl
     obtain⟨t1,ht1⟩:∃z,nameB T.toList=z:=⟨_,rfl⟩
     obtain⟨t2,ht2⟩:∃z,nameB M.toList=z:=⟨_,rfl⟩
     have tK:=zH (tJ.out T W5);rw[ht1]at tK hst;rw[ht2]at hst
     have Vg:Hid (∀W,Calls Try.prog 77 #[.string M] W fun e w'=>e=.returned (.bool t2)/\Below W.heap.size W w'):=zH fun W=>by
      have:=tJ.out M W
      rwa [ht2]at this
     have HST:=zH hst;clear hy h1 h3 hst ht1 ht2;go_wp2_with fail
     refine tK.out.mono ?_;rintro r w6 ⟨rfl,hb6⟩;have Zo:=zH hb6;have q2:=(Ci.out.old hb6).cell 2;clear hb6 tK;cases t1
     case false=>
      have hs:y2=false:=HST.out;subst hs;clear HST;go_wp2
      go_roundw
      case rel=>exact⟨j+1,_,by omega,rfl,by go_num,Jm,zH (HB2.out.trans (Zo.out.mono HB2.out.size))⟩
      case measure=>simp[intOf];omega
     case true=>
      have hs:y2=t2:=HST.out;subst hs;clear HST;go_wp2_with fail
      refine(Vg.out _).mono ?_;rintro r w7 ⟨rfl,hb7⟩;have HB7:=zH (Zo.out.trans (hb7.mono Zo.out.size));clear hb7;go_wp2
      go_roundw
      case rel=>exact⟨j+1,_,by omega,rfl,by go_num,Jm,zH (HB2.out.trans (HB7.out.mono HB2.out.size))⟩
      case measure=>simp[intOf];omega
    ·as_aux_lemma=>
     obtain rfl:j=n:=by omega
     have hr:=VU.out;rw[List.drop_eq_nil_of_le (by rw[HN.out];exact Nat.le_refl _)]at hr
     have hr6:((y&&(dI.drop (k+1)).all Iy)&&es.all zh)=RES:=by
      rw[<-hr,HTL.out];cases y<;>rfl
     have HR6:=zH hr6;have Zo:=zH (HBO.out.trans (BV.out.mono HBO.out.size));clear hr hr6 VU;go_wp2
     go_roundw
     case rel=>exact⟨k+1,y,by omega,rfl,by go_num,HR6,Zo⟩
     case measure=>simp[intOf];omega
  ·as_aux_lemma=>
   have hr:=HR.out;rw[List.drop_eq_nil_of_le (by have:=vP.out;omega)]at hr
   have hr2:(z&&(es.drop 0).all zh)=RES:=by
    rw[<-hr,List.drop_zero];cases z<;>rfl
   have HR2:=zH hr2;have q1:=(HKB.out.old HB.out).cell 1;clear hr hr2 HR OH vP HIT tJ;go_wp2_with fail
   clear q1
   go_loopw[3,88] (fun o i wr=>∃(j:Nat) (y:Bool),j<=n2/\o=.bool y/\i=.int .i64 j/\Hid ((y&&(es.drop j).all zh)=RES)/\Hid (Below wo.heap.size wo wr)) (fun _ i _=>n2-(intOf i).toNat)
   case atStart=>exact⟨0,z,Nat.zero_le _,rfl,rfl,HR2,zH zR⟩
   case round=>
    clear HR2;obtain⟨j,y,hj,rfl,rfl,VU,BV⟩:=hrel;obtain⟨wp,rfl⟩:∃wp:World,wp=wr:=⟨_,rfl⟩
    have HBP:=zH (HB.out.trans (BV.out.mono HB.out.size))
    by_cases hlj:j<n2
    ·as_aux_lemma=>
     have hjl:j<es.length:=by have:=HL2.out;omega
     have hbw:Below w.heap.size w wp:=OI.out.trans (HBP.out.mono OI.out.size);obtain⟨g,o,y0,y1,y2,y3,y4,y5,y6,hA,hg,hok,hc⟩:=(Zn.out.old hbw).get j hjl;subst hA;obtain⟨d1,d2,d3,d4,d5,d6,hcs⟩:=hok.op;injection hcs with h0 hcs
     injection hcs with h1 hcs
     injection hcs with h2 hcs
     injection hcs with h3 hcs
     injection hcs with h4 hcs
     injection hcs with h5 hcs
     injection hcs with h6 hcs
     subst h0 h1 h2 h3 h4 h5 h6;have hr:=VU.out;rw[BA _ _ _ hjl]at hr;have hbe:=Fz.out es[j] (List.getElem_mem hjl);have HQ:Hid (∀W,Below wp.heap.size wp W->Calls Try.prog 81 #[.agg #[.int .i64 (tN es[j]),y1,y2,y3,y4,y5,y6]] W fun r w'=>r=.returned (.bool (dM es[j]))/\Below W.heap.size W w'):=zH fun W hW=>sK es[j] _ W (hok.old hW) hbe
     generalize es[j]=E at *;have q1:=(HKB.out.old HBP.out).cell 1;have r0:wp.cell? ⟨g,o+j*7,none⟩=some (.int .i64 (tN E)):=hc 0 _ rfl;have r1:wp.cell? ⟨g,o+j*7+1,none⟩=some y1:=hc 1 _ rfl;have r2:wp.cell? ⟨g,o+j*7+2,none⟩=some y2:=hc 2 _ rfl;have r3:wp.cell? ⟨g,o+j*7+3,none⟩=some y3:=hc 3 _ rfl;have r4:wp.cell? ⟨g,o+j*7+4,none⟩=some y4:=hc 4 _ rfl;have r5:wp.cell? ⟨g,o+j*7+5,none⟩=some y5:=hc 5 _ rfl;have r6:wp.cell? ⟨g,o+j*7+6,none⟩=some y6:=hc 6 _ rfl;obtain⟨z2,hz2⟩:∃z,(y&&(tN E !=13&&dM E))=z:=⟨_,rfl⟩
     have UD:(z2&&(es.drop (j+1)).all zh)=RES:=by
      rw[<-hr,<-hz2];unfold zh;cases y<;>simp[Bool.and_assoc]
     have Jm:=zH UD;have HZ2:=zH hz2;clear hr UD hz2 hc hok hbe hbw VU hg;cases y
     case false=>
      have hst:z2=false:=by rw[<-HZ2.out];rfl
      subst hst;clear HZ2;go_wp2
      go_roundw
      case rel=>exact⟨j+1,_,by omega,rfl,by go_num,Jm,BV⟩
      case measure=>simp[intOf];omega
     case true=>
     by_cases h13:tN E=13
     case pos=>
      have hI:((tN E:Int) !=13)=false:=by rw[bne_eq_false_iff_eq];omega
      have hst:z2=false:=by rw[<-HZ2.out,h13];rfl
      subst hst;clear HZ2 h13;go_wp2
      go_roundw
      case rel=>exact⟨j+1,_,by omega,rfl,by go_num,Jm,BV⟩
      case measure=>simp[intOf];omega
     case neg=>
      have hI:((tN E:Int) !=13)=true:=by rw[bne_iff_ne];omega
      have hst:dM E=z2:=by
       rw[<-HZ2.out];have:(tN E !=13)=true:=by rw[bne_iff_ne];exact h13
       rw[this];rfl
      have HST:=zH hst;clear HZ2 h13 hst;go_wp2_with fail
      refine(HQ.out wp zR).mono ?_;rintro r w6 ⟨rfl,hb6⟩;have Zo:=zH (BV.out.trans (hb6.mono BV.out.size));rw[HST.out];clear hb6 HQ r0 r1 r2 r3 r4 r5 r6 q1;go_wp2
      go_roundw
      case rel=>exact⟨j+1,_,by omega,rfl,by go_num,Jm,Zo⟩
      case measure=>simp[intOf];omega
    ·as_aux_lemma=>
     obtain rfl:j=n2:=by omega
     have hr:=VU.out;rw[List.drop_eq_nil_of_le (by have:=HL2.out;omega)]at hr;have hR:RES=y:=by rw[<-hr];cases y<;>rfl
     subst hR;have HF:=zH (OI.out.trans (HBP.out.mono OI.out.size));clear hr VU;go_wp2
     go_ret
     exact⟨rfl,by first|exact HF.out|(rw[<-jw.out];exact HF.out)|(rw[jw.out];exact HF.out)⟩
end Go.Proofs.Ytbjnhllkdilpfaa
