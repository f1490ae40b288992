/- Part 35 of the proof. No conditions. -/
import Derived.Test.YtbjnhllkdilpfaaZb33
import Derived.Test.YtbjnhllkdilpfaaZb34
namespace Go.Proofs.Ytbjnhllkdilpfaa
open Go.RowKit
set_option linter.unusedSimpArgs false
set_option linter.unusedVariables false
set_option maxHeartbeats 16000000
set_option maxRecDepth 100000
def rO:au->Nat
 |.leaf op ..=>op
 |.un op ..=>op
 |.bin op ..=>op
def fA:au->Nat×Nat
 |.leaf op n sc nm a _=>(kV op n sc nm.length a.length,0)
 |.un op x _=>textF op (lQ (aZ op) 0 [(rO x,(fA x).1,(fA x).2)])
 |.bin op x y _=>textF op (lQ (aZ op) 0 [(rO x,(fA x).1,(fA x).2),(rO y,(fA y).1,(fA y).2)])
theorem kN.op {P:Nat->Prop} {w:World}:∀{e:au} {cs:List Value},kN P w e cs->∃d1 d2 d3 d4 d5 d6:Value,cs=[.int .i64 (rO e),d1,d2,d3,d4,d5,d6]
 |.leaf op n sc nm a p,cs,h=>by
  obtain rfl:cs=iC op n sc nm a p:=h;exact⟨_,_,_,_,_,_,rfl⟩
 |.un op x p,cs,h=>by
  obtain⟨g,xs,rfl,_⟩:=h;exact⟨_,_,_,_,_,_,rfl⟩
 |.bin op x y p,cs,h=>by
  obtain⟨g,xs,ys,rfl,_⟩:=h;exact⟨_,_,_,_,_,_,rfl⟩
theorem qW {l:Str} (h:nameB l=true):l.length<=24:=by
 rcases Nat.lt_or_ge 24 l.length with hl|hl
 ·rw[BB l (by omega)]at h;cases h
 ·exact hl
theorem jm {l:Str} (h:l.isEmpty=true):l.length=0:=by simpa using h
theorem KT (op n sc p : Nat) (S1 S2 : ByteArray) (h1 : S1.size ≤ 24) (h2 : S2.size ≤ 24) (hop : 20 ≤ op ∧ op ≤ 31) (hn : n ≤ 9223372036854775807) (hsc : op = 21 → sc ≤ 14) (w : World) :
  Calls Try.prog 63 #[.agg #[.int .i64 op,.slice none 0 0,.int .i64 n,.int .i64 sc,.string S1,.string S2,.int .i64 p]] w (sV (kV op n sc S1.size S2.size,0) w):=by
 have HL:Hid (∀W:World,Calls Try.prog 84 #[.agg #[.int .i64 op,.slice none 0 0,.int .i64 n,.int .i64 sc,.string S1,.string S2,.int .i64 p]] W (xm (kV op n sc S1.size S2.size) W)):=zH fun W=>KP op n sc p S1 S2 h1 h2 hop hn hsc W
 unfold xm at HL;unfold sV;generalize kV op n sc S1.size S2.size=N at *;have lZ:Hid (∀(W:World),Calls Try.prog 82 #[.int .i64 op] W fun e w'=>e=.returned (.int .i64 (aZ op:Nat))/\w'=W):=zH fun W=>Cm op W
 have e6:((op:Int)==6)=false:=by rw[beq_eq_false_iff_ne];omega
 have e15:((op:Int)==15)=false:=by rw[beq_eq_false_iff_ne];omega
 have e16:((op:Int)==16)=false:=by rw[beq_eq_false_iff_ne];omega
 have e17:((op:Int)==17)=false:=by rw[beq_eq_false_iff_ne];omega
 clear h1 h2 hop hn hsc;generalize aZ op=b at *
 go_enter Try.func63,Try.ntmps63
 have kb:=Bk.new w 118 #[.int .i64 op,.slice none 0 0,.int .i64 n,.int .i64 sc,.string S1,.string S2,.int .i64 p];have hb0:Below w.heap.size w (w.alloc (.cells #[.int .i64 op,.slice none 0 0,.int .i64 n,.int .i64 sc,.string S1,.string S2,.int .i64 p] 118)):=zR.alloc zL _;go_upto_region 1 with fail
 generalize w.alloc (.cells #[.int .i64 op,.slice none 0 0,.int .i64 n,.int .i64 sc,.string S1,.string S2,.int .i64 p] 118)=w0 at *;generalize eP:w.heap.size=bx at *;obtain⟨q0,q1,q2,q3,q4,q5,q6⟩:=zc7 kb;have HB0:=zH hb0;have jl:=zH eP;clear kb hb0 eP;go_wp2_with fail
 refine(lZ.out _).mono ?_;rintro r w1 ⟨rfl,hw1⟩;obtain rfl:w0=w1:=hw1.symm;go_wp2_with fail
 go_loopw[5,6,19] (fun l m i wr=>l=.slice none 0 0/\m=.int .i64 0/\i=.int .i64 0/\w0=wr) (fun _ _ _ _=>0)
 case atStart=>exact⟨rfl,rfl,rfl,rfl⟩
 case round=>
  obtain⟨rfl,rfl,rfl,rfl⟩:=hrel;go_wp2_with fail
  refine(HL.out _).mono ?_;rintro r w4 ⟨S,rfl,hS,hb4⟩;have HB:=zH (HB0.out.trans (hb4.mono (by have:=HB0.out.size;have:=jl.out;omega)));have HS:=zH hS;clear hb4 hS;go_wp2
  go_ret2
  exact⟨_,rfl,HS.out,by first|exact HB.out|(rw[<-jl.out];exact HB.out)|(rw[jl.out];exact HB.out)⟩
theorem zO {op n sc:Nat} {nm a:Str} (h:jP op n sc nm a 0=true):(20<=op/\op<=31)/\nm.length<=24/\a.length<=24/\(op=21->sc<=14/\iR n sc<=16):=by
 have hc:(op=6\/(15<=op/\op<=17))\/((1<=op/\op<=14)/\op≠6)\/(op=20)\/(op=21)\/(op=22)\/(op=23\/op=25)\/(op=24\/(26<=op/\op<=31))\/(op=0\/op=18\/op=19\/32<=op):=by omega
 rcases hc with hc|hc|hc|hc|hc|hc|hc|hc
 ·have hs:jW op n sc nm a=some (1,nm.isEmpty,a.isEmpty,(n==0&&sc==0)):=by unfold jW;(repeat' split)<;>first|rfl|(exfalso;omega)
  rw[dY hs]at h;simp at h
 ·have hs:jW op n sc nm a=some (2,nm.isEmpty,a.isEmpty,(n==0&&sc==0)):=by unfold jW;(repeat' split)<;>first|rfl|(exfalso;omega)
  rw[dY hs]at h;simp at h
 ·have hs:jW op n sc nm a=some (0,nm.isEmpty,a.isEmpty,sc==0):=by unfold jW;(repeat' split)<;>first|rfl|(exfalso;omega)
  rw[dY hs]at h;simp only[Bool.and_eq_true,beq_iff_eq,decide_eq_true_eq,Bool.or_eq_true]at h;have h1:=jm h.1.1.1;have h2:=jm h.1.1.2;exact⟨by omega,by omega,by omega,fun e=>by omega⟩
 ·have hs:jW op n sc nm a=some (0,nm.isEmpty,a.isEmpty,(decide (1<=sc)&&decide (sc<=14))&&decide (iR n sc<=16)):=by unfold jW;(repeat' split)<;>first|rfl|(exfalso;omega)
  rw[dY hs]at h;simp only[Bool.and_eq_true,beq_iff_eq,decide_eq_true_eq,Bool.or_eq_true]at h;have h1:=jm h.1.1.1;have h2:=jm h.1.1.2;exact⟨by omega,by omega,by omega,fun e=>⟨h.1.2.1.2,h.1.2.2⟩⟩
 ·have hs:jW op n sc nm a=some (0,nm.isEmpty,a.isEmpty,(n==0||n==1)&&sc==0):=by unfold jW;(repeat' split)<;>first|rfl|(exfalso;omega)
  rw[dY hs]at h;simp only[Bool.and_eq_true,beq_iff_eq,decide_eq_true_eq,Bool.or_eq_true]at h;have h1:=jm h.1.1.1;have h2:=jm h.1.1.2;exact⟨by omega,by omega,by omega,fun e=>by omega⟩
 ·have hs:jW op n sc nm a=some (0,nameB nm,a.isEmpty,(n==0&&sc==0)):=by unfold jW;(repeat' split)<;>first|rfl|(exfalso;omega)
  rw[dY hs]at h;simp only[Bool.and_eq_true,beq_iff_eq,decide_eq_true_eq,Bool.or_eq_true]at h;have h1:=qW h.1.1.1;have h2:=jm h.1.1.2;exact⟨by omega,by omega,by omega,fun e=>by omega⟩
 ·have hs:jW op n sc nm a=some (0,nameB nm,nameB a||a==iq,(n==0&&sc==0)):=by unfold jW;(repeat' split)<;>first|rfl|(exfalso;omega)
  rw[dY hs]at h;simp only[Bool.and_eq_true,beq_iff_eq,decide_eq_true_eq,Bool.or_eq_true]at h;have h1:=qW h.1.1.1
  have h2:a.length<=24:=by
   rcases h.1.1.2 with h2|h2
   ·exact qW h2
   ·rw[h2];decide
  exact⟨by omega,by omega,by omega,fun e=>by omega⟩
 ·have hs:jW op n sc nm a=none:=by unfold jW;(repeat' split)<;>first|rfl|(exfalso;omega)
  rw[iF hs]at h;cases h
theorem F5 {op:Nat} (h:jP op 0 0 [] [] 1=true):OM op 1:=by
 by_cases hc:op=6\/(15<=op/\op<=17)
 ·exact .inl ⟨rfl,hc⟩
 ·exfalso
  have hs:∀m x y z,jW op 0 0 [] []=some (m,x,y,z)->m≠1:=by
   intro m x y z he;unfold jW at he
   (repeat' split at he)<;>first|(exfalso;omega)|(injection he with he;injection he with he;omega)|cases he
  rcases hv:jW op 0 0 [] []with _|⟨m,x,y,z⟩
  ·rw[iF hv]at h;cases h
  ·rw[dY hv]at h;simp only[Bool.and_eq_true,beq_iff_eq]at h;exact hs m x y z hv h.2.symm
theorem CJ {op:Nat} (h:jP op 0 0 [] [] 2=true):OM op 2:=by
 by_cases hc:1<=op/\op<=14/\op≠6
 ·exact .inr ⟨rfl,hc⟩
 ·exfalso
  have hs:∀m x y z,jW op 0 0 [] []=some (m,x,y,z)->m≠2:=by
   intro m x y z he;unfold jW at he
   (repeat' split at he)<;>first|(exfalso;omega)|(injection he with he;injection he with he;omega)|cases he
  rcases hv:jW op 0 0 [] []with _|⟨m,x,y,z⟩
  ·rw[iF hv]at h;cases h
  ·rw[dY hv]at h;simp only[Bool.and_eq_true,beq_iff_eq]at h;exact hs m x y z hv h.2.symm
theorem DN (b j:Nat) (a:Nat×Nat×Nat):(mD b j a).1<=a.2.1+2/\(mD b j a).2<=a.2.2+1:=by
 unfold mD
 split
 ·exact⟨Nat.le_refl _,Nat.le_refl _⟩
 ·exact⟨Nat.le_add_right _ _,Nat.le_add_right _ _⟩
theorem OO (op:Nat):((dG (aZ op)).1.getD (op-(dG (aZ op)).2) []).length<=3:=by
 have key:∀(l:List Str) (i:Nat),(∀x∈l,x.length<=3)->(l.getD i []).length<=3:=by
  intro l i h;rw[List.getD_eq_getElem?_getD];rcases hg:l[i]? with _|x
  ·simp
  ·exact h x (List.mem_of_getElem? hg)
 apply key
 have hb8:aZ op<=8:=by unfold aZ;(repeat' split)<;>omega
 generalize aZ op=b at *
 match b,hb8 with
 |0,_|1,_|2,_|3,_|4,_|5,_|6,_|7,_|8,_=>decide
theorem Si (i:Nat):(je.getD i []).length<=5:=by
 rw[List.getD_eq_getElem?_getD];rcases hg:je[i]? with _|x
 ·simp
 ·have:∀x∈je,x.length<=5:=by decide
  exact this x (List.mem_of_getElem? hg)
theorem qg:∀e:au,dO e=true->jQ e->(fA e).1<=80*aG e/\(fA e).2<=2*aG e
 |.leaf op n sc nm a p,h,hb=>by
  obtain⟨h1,h2,h3,h4⟩:=zO h;have hd:=qU n hb;have ha:=Si (op-25);refine⟨?_,Nat.zero_le _⟩
  show kV op n sc nm.length a.length<=80*1
  unfold kV
  by_cases h21:op=21
  ·have:=(h4 h21).2;subst h21;simp only[show¬(21:Nat)=20 by decide,if_false,if_true];omega
  ·rw[if_neg h21]
   (repeat' split)<;>omega
 |.un op x p,h,hb=>by
  simp only[dO,Bool.and_eq_true]at h;have ih:=qg x h.2 hb;have hp:=DN (aZ op) 0 (rO x,(fA x).1,(fA x).2);have e:fA (.un op x p)=((mD (aZ op) 0 (rO x,(fA x).1,(fA x).2)).1+(if op=6 then 1 else if op=15 then 4 else if op=16 then 6 else 7),(mD (aZ op) 0 (rO x,(fA x).1,(fA x).2)).2+1):=rfl;have h7:(if op=6 then 1 else if op=15 then 4 else if op=16 then 6 else 7)<=7:=by(repeat' split)<;>omega
  rw[e]
  show _<=80*(1+aG x)/\_<=2*(1+aG x)
  simp only at hp⊢;omega
 |.bin op x y p,h,hb=>by
  simp only[dO,Bool.and_eq_true]at h;have ihx:=qg x h.2.1 hb.1;have ihy:=qg y h.2.2 hb.2;have hp:=DN (aZ op) 0 (rO x,(fA x).1,(fA x).2);have hq:=DN (aZ op) (0+1) (rO y,(fA y).1,(fA y).2);have hs:=OO op;have e:fA (.bin op x y p)=((mD (aZ op) 0 (rO x,(fA x).1,(fA x).2)).1+1+((dG (aZ op)).1.getD (op-(dG (aZ op)).2) []).length+1+(mD (aZ op) (0+1) (rO y,(fA y).1,(fA y).2)).1,max (mD (aZ op) 0 (rO x,(fA x).1,(fA x).2)).2 (mD (aZ op) (0+1) (rO y,(fA y).1,(fA y).2)).2):=rfl;rw[e]
  show _<=80*(1+aG x+aG y)/\_<=2*(1+aG x+aG y)
  simp only at hp hq⊢;omega
theorem uG {P : Nat → Prop} : ∀ (e : au) (cs : List Value) (w : World), kN P w e cs → dO e = true → jQ e → aG e ≤ 10000 →
  Calls Try.prog 63 #[.agg cs.toArray] w (sV (fA e) w)
 |.leaf op n sc nm a p,cs,w,h,hr,hb,hs=>by
  obtain rfl:cs=iC op n sc nm a p:=h;obtain⟨h1,h2,h3,h4⟩:=zO hr;have:=KT op n sc p (bytes nm) (bytes a) (by rw[bJ];exact h2) (by rw[bJ];exact h3) h1 hb (fun e=>(h4 e).1) w;rw[bJ,bJ]at this;exact this
 |.un op x p,cs,w,h,hr,hb,hs=>by
  obtain⟨g,xs,rfl,hP,hk,hx⟩:=h;obtain⟨y1,y2,y3,y4,y5,y6,rfl⟩:=hx.op;simp only[dO,Bool.and_eq_true]at hr;have hs:1+aG x<=10000:=hs;have hl:=qg x hr.2 hb
  exact CG op p _ _ _ _ (some ⟨g,0,none⟩) 1 1 [(rO x,(fA x).1,(fA x).2)] rfl (F5 hr.1) (by intro q hq;simp at hq;subst hq;simp only;omega) w (fun j hj=>by
   match j,hj with
   |0,_=>exact⟨g,y1,y2,y3,y4,y5,y6,rfl,hk.lt,fun q u hu=>by rw[hk.cell];simpa using hu,fun W hW=>uG x _ W (hx.old hW) hr.2 hb (by omega)⟩)
 |.bin op x y p,cs,w,h,hr,hb,hs=>by
  obtain⟨g,xs,ys,rfl,hP,hk,hx,hy⟩:=h;obtain⟨x1,x2,x3,x4,x5,x6,rfl⟩:=hx.op;obtain⟨y1,y2,y3,y4,y5,y6,rfl⟩:=hy.op;simp only[dO,Bool.and_eq_true]at hr;have hs:1+aG x+aG y<=10000:=hs;have hlx:=qg x hr.2.1 hb.1;have hly:=qg y hr.2.2 hb.2
  exact CG op p _ _ _ _ (some ⟨g,0,none⟩) 2 2 [(rO x,(fA x).1,(fA x).2),(rO y,(fA y).1,(fA y).2)] rfl (CJ hr.1) (by intro q hq;simp at hq;rcases hq with rfl|rfl<;>simp only<;>omega) w (fun j hj=>by
   match j,hj with
   | 0, _ => exact ⟨g, x1, x2, x3, x4, x5, x6, rfl, hk.lt, fun q u hu => by
     have hu:[Value.int .i64 (rO x),x1,x2,x3,x4,x5,x6][q]? =some u:=hu;rw[hk.cell];have hq:q<7:=(List.getElem?_eq_some_iff.1 hu).1;rw[List.getElem?_toArray]
     rw[List.getElem?_append_left (by simp;omega),Nat.zero_mul,Nat.zero_add,hu],fun W hW=>uG x _ W (hx.old hW) hr.2.1 hb.1 (by omega)⟩
   | 1, _ => exact ⟨g, y1, y2, y3, y4, y5, y6, rfl, hk.lt, fun q u hu => by
     have hu:[Value.int .i64 (rO y),y1,y2,y3,y4,y5,y6][q]? =some u:=hu;rw[hk.cell];rw[List.getElem?_toArray];rw[List.getElem?_append_right (by simp)]
     simpa using hu,fun W hW=>uG y _ W (hy.old hW) hr.2.2 hb.2 (by omega)⟩)
theorem qX {P : Nat → Prop} : ∀ (e : au) (cs : List Value) (w : World), kN P w e cs → jQ e →
  Calls Try.prog 81 #[.agg cs.toArray] w fun r w'=>r=.returned (.bool (dO e))/\Below w.heap.size w w'
 |.leaf op n sc nm a p,cs,w,h,hs=>by
  obtain rfl:cs=iC op n sc nm a p:=h;have:=right_step op n sc p (bytes nm) (bytes a) none 0 0 [] rfl (by omega) hs w (fun j hj=>absurd hj (by simp));rw[aJ,aJ]at this
  simpa[dO,iC]using this
 |.un op x p,cs,w,h,hs=>by
  obtain⟨g,xs,rfl,hP,hk,hx⟩:=h;obtain⟨y0,y1,y2,y3,y4,y5,y6,rfl,hy⟩:=hx.seven
  have:=right_step op 0 0 p ⟨#[]⟩ ⟨#[]⟩ (some ⟨g,0,none⟩) 1 1 [dO x] rfl (by omega) (by omega) w (fun j hj=>by
   match j,hj with
   |0,_=>exact⟨g,y0,y1,y2,y3,y4,y5,y6,rfl,hk.lt,fun q u hu=>by rw[hk.cell];simpa using hu,fun W hW=>qX x _ W (hx.old hW) hs⟩)
  rw[show(⟨#[]⟩:ByteArray).toList=[] by rw[ByteArray.toList_eq]]at this
  simpa[dO,opC]using this
 |.bin op x y p,cs,w,h,hs=>by
  obtain⟨g,xs,ys,rfl,hP,hk,hx,hy⟩:=h;obtain⟨x0,x1,x2,x3,x4,x5,x6,rfl,_⟩:=hx.seven;obtain⟨y0,y1,y2,y3,y4,y5,y6,rfl,_⟩:=hy.seven
  have:=right_step op 0 0 p ⟨#[]⟩ ⟨#[]⟩ (some ⟨g,0,none⟩) 2 2 [dO x,dO y] rfl (by omega) (by omega) w (fun j hj=>by
   match j,hj with
   | 0, _ => exact ⟨g, x0, x1, x2, x3, x4, x5, x6, rfl, hk.lt, fun q u hu => by
     rw[hk.cell];have hq:q<7:=(List.getElem?_eq_some_iff.1 hu).1;rw[List.getElem?_toArray]
     rw[List.getElem?_append_left (by simp;omega),Nat.zero_mul,Nat.zero_add,hu],fun W hW=>qX x _ W (hx.old hW) hs.1⟩
   | 1, _ => exact ⟨g, y0, y1, y2, y3, y4, y5, y6, rfl, hk.lt, fun q u hu => by
     rw[hk.cell];rw[List.getElem?_toArray];rw[List.getElem?_append_right (by simp)]
     simpa using hu,fun W hW=>qX y _ W (hy.old hW) hs.2⟩)
  rw[show(⟨#[]⟩:ByteArray).toList=[] by rw[ByteArray.toList_eq]]at this
  simpa[dO,opC]using this
end Go.Proofs.Ytbjnhllkdilpfaa
