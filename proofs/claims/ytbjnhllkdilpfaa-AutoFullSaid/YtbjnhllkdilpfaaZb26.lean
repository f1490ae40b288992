/- Part 26 of the proof. No conditions. -/
import Derived.Test.YtbjnhllkdilpfaaZb25
namespace Go.Proofs.Ytbjnhllkdilpfaa
open Go.RowKit
set_option linter.unusedSimpArgs false
set_option linter.unusedVariables false
set_option maxHeartbeats 16000000
set_option maxRecDepth 100000
def kV (op n sc l1 l2:Nat):Nat:=
 if op=20 then iK n else if op=21 then iR n sc else if op=22 then(if n=1 then 4 else 5)else if op=23 then l1+2 else if op=24 then l1+1+l2 else if op=25 then l1+7 else(je.getD (op-25) []).length+l1+l2+3
def xm (n:Nat) (w:World) (e:Ending) (w':World):Prop:=∃S:ByteArray,e=.returned (.string S)/\S.size=n/\Below w.heap.size w w'
theorem ai (a b:ByteArray):(a++b).size=a.size+b.size:=ByteArray.size_append
def RV (bx op ix:Nat) (S1 S2 G:ByteArray):List Spec:=[.st (fun v w=>∃g,v=.slice (some ⟨g,0,none⟩) 7 7/\g<w.heap.size/\w.cell? ⟨g,ix,none⟩=some (.string G)) (fun _ _ _ hb ⟨g,h1,h2,h3⟩=>⟨g,h1,Nat.lt_of_lt_of_le h2 hb.size,(aU hb g _ h2).trans h3⟩),
 .is (.pointer (some ⟨bx,0,none⟩)),
 .is (.int .i64 (op:Nat)),
 .is (.int .i64 (ix:Nat)),
 .st (fun v w=>∃g,v=.pointer (some ⟨g,ix,none⟩)/\g<w.heap.size/\w.cell? ⟨g,ix,none⟩=some (.string G)) (fun _ _ _ hb ⟨g,h1,h2,h3⟩=>⟨g,h1,Nat.lt_of_lt_of_le h2 hb.size,(aU hb g _ h2).trans h3⟩),
 .is (.string G),
 .is (.string (G++(⟨#[40]⟩:ByteArray))),
 .is (.pointer (some ⟨bx,4,none⟩)),
 .is (.string S1),
 .is (.string ((G++(⟨#[40]⟩:ByteArray))++S1)),
 .is (.string (((G++(⟨#[40]⟩:ByteArray))++S1)++(⟨#[46]⟩:ByteArray))),
 .is (.pointer (some ⟨bx,5,none⟩)),
 .is (.string S2),
 .is (.string ((((G++(⟨#[40]⟩:ByteArray))++S1)++(⟨#[46]⟩:ByteArray))++S2)),
 .is (.string (((((G++(⟨#[40]⟩:ByteArray))++S1)++(⟨#[46]⟩:ByteArray))++S2)++(⟨#[41]⟩:ByteArray))),
 .is (.string (((((G++(⟨#[40]⟩:ByteArray))++S1)++(⟨#[46]⟩:ByteArray))++S2)++(⟨#[41]⟩:ByteArray)))]
theorem KP (op n sc p : Nat) (S1 S2 : ByteArray) (h1 : S1.size ≤ 24) (h2 : S2.size ≤ 24) (hop : 20 ≤ op ∧ op ≤ 31) (hn : n ≤ 9223372036854775807) (hsc : op = 21 → sc ≤ 14) (w : World) :
  Calls Try.prog 84 #[.agg #[.int .i64 op,.slice none 0 0,.int .i64 n,.int .i64 sc,.string S1,.string S2,.int .i64 p]] w (xm (kV op n sc S1.size S2.size) w):=by
 unfold xm;obtain⟨N,hN⟩:∃N,kV op n sc S1.size S2.size=N:=⟨_,rfl⟩
 rw[hN];have hlf:=hN;unfold kV at hlf;clear hN;have hcl:op=20\/op=21\/op=22\/op=23\/op=24\/op=25\/(26<=op/\op<=31):=by omega
 have GY:=zH hn;have BM:=zH hop;clear hn hop;rcases hcl with hc|hc|hc|hc|hc|hc|hc
 ·as_aux_lemma=>
  have hN:N=iK n:=by rw[<-hlf];(repeat' split)<;>first|rfl|(exfalso;omega)
  clear hlf;have e20:((op:Int)==20)=true:=by rw[beq_iff_eq];omega
  have FZ:=zH hN;clear hN hc;have HD:=zH (fun W=>yg (n:Int) ⟨by omega,by have:=GY.out;omega⟩ W)
  go_enter Try.func84,Try.ntmps84
  have kb:=Bk.new w 118 #[.int .i64 op,.slice none 0 0,.int .i64 n,.int .i64 sc,.string S1,.string S2,.int .i64 p];have hb0:Below w.heap.size w (w.alloc (.cells #[.int .i64 op,.slice none 0 0,.int .i64 n,.int .i64 sc,.string S1,.string S2,.int .i64 p] 118)):=zR.alloc zL _;go_upto_region 1 with fail
  generalize w.alloc (.cells #[.int .i64 op,.slice none 0 0,.int .i64 n,.int .i64 sc,.string S1,.string S2,.int .i64 p] 118)=w0 at *;generalize eP:w.heap.size=bx at *;have q0:=kb.cell 0;have q2:=kb.cell 2;have q3:=kb.cell 3;have q4:=kb.cell 4;have q5:=kb.cell 5;have HB0:=zH hb0;have jl:=zH eP;clear kb hb0 eP;go_wp2_with fail
  refine(HD.out _).mono ?_;rintro r w4 ⟨rfl,hb4⟩;have HB:=zH (HB0.out.trans (hb4.mono (by have:=HB0.out.size;have:=jl.out;omega)));clear hb4 HD;go_wp2
  go_ret
  exact⟨_,rfl,FZ.out.symm,by first|exact HB.out|(rw[<-jl.out];exact HB.out)|(rw[jl.out];exact HB.out)⟩
 ·as_aux_lemma=>
  have hN:N=iR n sc:=by rw[<-hlf];(repeat' split)<;>first|rfl|(exfalso;omega)
  clear hlf;have e20:((op:Int)==20)=false:=by rw[beq_eq_false_iff_ne];omega
  have e21:((op:Int)==21)=true:=by rw[beq_iff_eq];omega
  have Qp:=zH (hsc hc);have FZ:=zH hN;clear hN hc;have HD:=zH (fun W=>CB n sc GY.out Qp.out W)
  go_enter Try.func84,Try.ntmps84
  have kb:=Bk.new w 118 #[.int .i64 op,.slice none 0 0,.int .i64 n,.int .i64 sc,.string S1,.string S2,.int .i64 p];have hb0:Below w.heap.size w (w.alloc (.cells #[.int .i64 op,.slice none 0 0,.int .i64 n,.int .i64 sc,.string S1,.string S2,.int .i64 p] 118)):=zR.alloc zL _;go_upto_region 1 with fail
  generalize w.alloc (.cells #[.int .i64 op,.slice none 0 0,.int .i64 n,.int .i64 sc,.string S1,.string S2,.int .i64 p] 118)=w0 at *;generalize eP:w.heap.size=bx at *;have q0:=kb.cell 0;have q2:=kb.cell 2;have q3:=kb.cell 3;have q4:=kb.cell 4;have q5:=kb.cell 5;have HB0:=zH hb0;have jl:=zH eP;clear kb hb0 eP;go_wp2_with fail
  refine(HD.out _).mono ?_;rintro r w4 ⟨S,rfl,hS,hb4⟩;have HS:=zH hS;have HB:=zH (HB0.out.trans (hb4.mono (by have:=HB0.out.size;have:=jl.out;omega)));clear hb4 HD hS;go_wp2
  go_ret
  exact⟨_,rfl,HS.out.trans FZ.out.symm,by first|exact HB.out|(rw[<-jl.out];exact HB.out)|(rw[jl.out];exact HB.out)⟩
 ·as_aux_lemma=>
  have hN:N=if n=1 then 4 else 5:=by rw[<-hlf,hc];rfl
  clear hlf;have e20:((op:Int)==20)=false:=by rw[beq_eq_false_iff_ne];omega
  have e21:((op:Int)==21)=false:=by rw[beq_eq_false_iff_ne];omega
  have e22:((op:Int)==22)=true:=by rw[beq_iff_eq];omega
  have FZ:=zH hN;clear hN hc;have HB:=zH True.intro
  by_cases hn1:n=1
  ·have n1:((n:Int)==1)=true:=by rw[beq_iff_eq];omega
   have hv:=FZ.out;rw[if_pos hn1]at hv;have HV:=zH hv;clear hv FZ hn1 HB
   go_enter Try.func84,Try.ntmps84
   have kb:=Bk.new w 118 #[.int .i64 op,.slice none 0 0,.int .i64 n,.int .i64 sc,.string S1,.string S2,.int .i64 p];have hb0:Below w.heap.size w (w.alloc (.cells #[.int .i64 op,.slice none 0 0,.int .i64 n,.int .i64 sc,.string S1,.string S2,.int .i64 p] 118)):=zR.alloc zL _;go_upto_region 1 with fail
   generalize w.alloc (.cells #[.int .i64 op,.slice none 0 0,.int .i64 n,.int .i64 sc,.string S1,.string S2,.int .i64 p] 118)=w0 at *;generalize eP:w.heap.size=bx at *;have q0:=kb.cell 0;have q2:=kb.cell 2;have q3:=kb.cell 3;have q4:=kb.cell 4;have q5:=kb.cell 5;have HB0:=zH hb0;have jl:=zH eP;clear kb hb0 eP;have HB:=HB0;go_wp2
   go_ret
   exact⟨_,rfl,HV.out.symm,by first|exact HB.out|(rw[<-jl.out];exact HB.out)|(rw[jl.out];exact HB.out)⟩
  ·have n1:((n:Int)==1)=false:=by rw[beq_eq_false_iff_ne];omega
   have hv:=FZ.out;rw[if_neg hn1]at hv;have HV:=zH hv;clear hv FZ hn1 HB
   go_enter Try.func84,Try.ntmps84
   have kb:=Bk.new w 118 #[.int .i64 op,.slice none 0 0,.int .i64 n,.int .i64 sc,.string S1,.string S2,.int .i64 p];have hb0:Below w.heap.size w (w.alloc (.cells #[.int .i64 op,.slice none 0 0,.int .i64 n,.int .i64 sc,.string S1,.string S2,.int .i64 p] 118)):=zR.alloc zL _;go_upto_region 1 with fail
   generalize w.alloc (.cells #[.int .i64 op,.slice none 0 0,.int .i64 n,.int .i64 sc,.string S1,.string S2,.int .i64 p] 118)=w0 at *;generalize eP:w.heap.size=bx at *;have q0:=kb.cell 0;have q2:=kb.cell 2;have q3:=kb.cell 3;have q4:=kb.cell 4;have q5:=kb.cell 5;have HB0:=zH hb0;have jl:=zH eP;clear kb hb0 eP;have HB:=HB0;go_wp2
   go_ret
   exact⟨_,rfl,HV.out.symm,by first|exact HB.out|(rw[<-jl.out];exact HB.out)|(rw[jl.out];exact HB.out)⟩
 ·as_aux_lemma=>
  have hN:N=S1.size+2:=by rw[<-hlf];(repeat' split)<;>first|rfl|(exfalso;omega)
  clear hlf;have e20:((op:Int)==20)=false:=by rw[beq_eq_false_iff_ne];omega
  have e21:((op:Int)==21)=false:=by rw[beq_eq_false_iff_ne];omega
  have e22:((op:Int)==22)=false:=by rw[beq_eq_false_iff_ne];omega
  have e23:((op:Int)==23)=true:=by rw[beq_iff_eq];omega
  have FZ:=zH hN;clear hN hc;have hs0:¬9223372036854775807<1+S1.size:=by(try rw[ai]);(try simp only[show(⟨#[39]⟩:ByteArray).size=1 from rfl,show(⟨#[46]⟩:ByteArray).size=1 from rfl,show(⟨#[67,79,85,78,84,40]⟩:ByteArray).size=6 from rfl]);omega
  have hs1:¬9223372036854775807<((⟨#[39]⟩:ByteArray)++S1).size+1:=by(try rw[ai]);(try simp only[show(⟨#[39]⟩:ByteArray).size=1 from rfl,show(⟨#[46]⟩:ByteArray).size=1 from rfl,show(⟨#[67,79,85,78,84,40]⟩:ByteArray).size=6 from rfl]);omega
  have hs2:¬9223372036854775807<1+S1.size+1:=by(try rw[ai]);(try simp only[show(⟨#[39]⟩:ByteArray).size=1 from rfl,show(⟨#[46]⟩:ByteArray).size=1 from rfl,show(⟨#[67,79,85,78,84,40]⟩:ByteArray).size=6 from rfl]);omega
  go_enter Try.func84,Try.ntmps84
  have kb:=Bk.new w 118 #[.int .i64 op,.slice none 0 0,.int .i64 n,.int .i64 sc,.string S1,.string S2,.int .i64 p];have hb0:Below w.heap.size w (w.alloc (.cells #[.int .i64 op,.slice none 0 0,.int .i64 n,.int .i64 sc,.string S1,.string S2,.int .i64 p] 118)):=zR.alloc zL _;go_upto_region 1 with fail
  generalize w.alloc (.cells #[.int .i64 op,.slice none 0 0,.int .i64 n,.int .i64 sc,.string S1,.string S2,.int .i64 p] 118)=w0 at *;generalize eP:w.heap.size=bx at *;have q0:=kb.cell 0;have q2:=kb.cell 2;have q3:=kb.cell 3;have q4:=kb.cell 4;have q5:=kb.cell 5;have HB0:=zH hb0;have jl:=zH eP;clear kb hb0 eP;have HB:=HB0;go_wp2
  go_ret
  exact⟨_,rfl,by rw[ai,ai,FZ.out];show 1+S1.size+1=_;omega,by first|exact HB.out|(rw[<-jl.out];exact HB.out)|(rw[jl.out];exact HB.out)⟩
 ·as_aux_lemma=>
  have hN:N=S1.size+1+S2.size:=by rw[<-hlf];(repeat' split)<;>first|rfl|(exfalso;omega)
  clear hlf;have e20:((op:Int)==20)=false:=by rw[beq_eq_false_iff_ne];omega
  have e21:((op:Int)==21)=false:=by rw[beq_eq_false_iff_ne];omega
  have e22:((op:Int)==22)=false:=by rw[beq_eq_false_iff_ne];omega
  have e23:((op:Int)==23)=false:=by rw[beq_eq_false_iff_ne];omega
  have e24:((op:Int)==24)=true:=by rw[beq_iff_eq];omega
  have FZ:=zH hN;clear hN hc;have hs0:¬9223372036854775807<S1.size+1:=by(try rw[ai]);(try simp only[show(⟨#[39]⟩:ByteArray).size=1 from rfl,show(⟨#[46]⟩:ByteArray).size=1 from rfl,show(⟨#[67,79,85,78,84,40]⟩:ByteArray).size=6 from rfl]);omega
  have hs1:¬9223372036854775807<(S1++(⟨#[46]⟩:ByteArray)).size+S2.size:=by(try rw[ai]);(try simp only[show(⟨#[39]⟩:ByteArray).size=1 from rfl,show(⟨#[46]⟩:ByteArray).size=1 from rfl,show(⟨#[67,79,85,78,84,40]⟩:ByteArray).size=6 from rfl]);omega
  have hs2:¬9223372036854775807<S1.size+1+S2.size:=by(try rw[ai]);(try simp only[show(⟨#[39]⟩:ByteArray).size=1 from rfl,show(⟨#[46]⟩:ByteArray).size=1 from rfl,show(⟨#[67,79,85,78,84,40]⟩:ByteArray).size=6 from rfl]);omega
  go_enter Try.func84,Try.ntmps84
  have kb:=Bk.new w 118 #[.int .i64 op,.slice none 0 0,.int .i64 n,.int .i64 sc,.string S1,.string S2,.int .i64 p];have hb0:Below w.heap.size w (w.alloc (.cells #[.int .i64 op,.slice none 0 0,.int .i64 n,.int .i64 sc,.string S1,.string S2,.int .i64 p] 118)):=zR.alloc zL _;go_upto_region 1 with fail
  generalize w.alloc (.cells #[.int .i64 op,.slice none 0 0,.int .i64 n,.int .i64 sc,.string S1,.string S2,.int .i64 p] 118)=w0 at *;generalize eP:w.heap.size=bx at *;have q0:=kb.cell 0;have q2:=kb.cell 2;have q3:=kb.cell 3;have q4:=kb.cell 4;have q5:=kb.cell 5;have HB0:=zH hb0;have jl:=zH eP;clear kb hb0 eP;have HB:=HB0;go_wp2
  go_ret
  exact⟨_,rfl,by rw[ai,ai,FZ.out];show S1.size+1+S2.size=_;omega,by first|exact HB.out|(rw[<-jl.out];exact HB.out)|(rw[jl.out];exact HB.out)⟩
 ·as_aux_lemma=>
  have hN:N=S1.size+7:=by rw[<-hlf];(repeat' split)<;>first|rfl|(exfalso;omega)
  clear hlf;have e20:((op:Int)==20)=false:=by rw[beq_eq_false_iff_ne];omega
  have e21:((op:Int)==21)=false:=by rw[beq_eq_false_iff_ne];omega
  have e22:((op:Int)==22)=false:=by rw[beq_eq_false_iff_ne];omega
  have e23:((op:Int)==23)=false:=by rw[beq_eq_false_iff_ne];omega
  have e24:((op:Int)==24)=false:=by rw[beq_eq_false_iff_ne];omega
  have e25:((op:Int)==25)=true:=by rw[beq_iff_eq];omega
  have FZ:=zH hN;clear hN hc;have hs0:¬9223372036854775807<6+S1.size:=by(try rw[ai]);(try simp only[show(⟨#[39]⟩:ByteArray).size=1 from rfl,show(⟨#[46]⟩:ByteArray).size=1 from rfl,show(⟨#[67,79,85,78,84,40]⟩:ByteArray).size=6 from rfl]);omega
  have hs1:¬9223372036854775807<((⟨#[67,79,85,78,84,40]⟩:ByteArray)++S1).size+1:=by(try rw[ai]);(try simp only[show(⟨#[39]⟩:ByteArray).size=1 from rfl,show(⟨#[46]⟩:ByteArray).size=1 from rfl,show(⟨#[67,79,85,78,84,40]⟩:ByteArray).size=6 from rfl]);omega
  have hs2:¬9223372036854775807<6+S1.size+1:=by(try rw[ai]);(try simp only[show(⟨#[39]⟩:ByteArray).size=1 from rfl,show(⟨#[46]⟩:ByteArray).size=1 from rfl,show(⟨#[67,79,85,78,84,40]⟩:ByteArray).size=6 from rfl]);omega
  go_enter Try.func84,Try.ntmps84
  have kb:=Bk.new w 118 #[.int .i64 op,.slice none 0 0,.int .i64 n,.int .i64 sc,.string S1,.string S2,.int .i64 p];have hb0:Below w.heap.size w (w.alloc (.cells #[.int .i64 op,.slice none 0 0,.int .i64 n,.int .i64 sc,.string S1,.string S2,.int .i64 p] 118)):=zR.alloc zL _;go_upto_region 1 with fail
  generalize w.alloc (.cells #[.int .i64 op,.slice none 0 0,.int .i64 n,.int .i64 sc,.string S1,.string S2,.int .i64 p] 118)=w0 at *;generalize eP:w.heap.size=bx at *;have q0:=kb.cell 0;have q2:=kb.cell 2;have q3:=kb.cell 3;have q4:=kb.cell 4;have q5:=kb.cell 5;have HB0:=zH hb0;have jl:=zH eP;clear kb hb0 eP;have HB:=HB0;go_wp2
  go_ret
  exact⟨_,rfl,by rw[ai,ai,FZ.out];show 6+S1.size+1=_;omega,by first|exact HB.out|(rw[<-jl.out];exact HB.out)|(rw[jl.out];exact HB.out)⟩
 ·as_aux_lemma=>
  have hN:N=(je.getD (op-25) []).length+S1.size+S2.size+3:=by rw[<-hlf];(repeat' split)<;>first|rfl|(exfalso;omega)
  clear hlf;have e20:((op:Int)==20)=false:=by rw[beq_eq_false_iff_ne];omega
  have e21:((op:Int)==21)=false:=by rw[beq_eq_false_iff_ne];omega
  have e22:((op:Int)==22)=false:=by rw[beq_eq_false_iff_ne];omega
  have e23:((op:Int)==23)=false:=by rw[beq_eq_false_iff_ne];omega
  have e24:((op:Int)==24)=false:=by rw[beq_eq_false_iff_ne];omega
  have e25:((op:Int)==25)=false:=by rw[beq_eq_false_iff_ne];omega
  obtain⟨ix,hix⟩:∃ix,op=25+ix:=⟨op-25,by omega⟩
  have hix7:ix<7:=by omega
  have hgi:op-25=ix:=by omega
  rw[hgi]at hN;have FZ:=zH hN;clear hN hgi;obtain⟨G,hG⟩:∃G:ByteArray,bytes (je.getD ix [])=G:=⟨_,rfl⟩
  have QD:(je.getD ix []).length=G.size:=by rw[<-hG,bJ]
  have hG5:G.size<=5:=by
   rw[<-QD]
   match ix,hix7 with
   |0,_|1,_|2,_|3,_|4,_|5,_|6,_=>decide
  have hv:=FZ.out;rw[QD]at hv;have HV:=zH hv
  have HAG:Hid (∀W:World,Calls Try.prog 95 #[] W fun e w'=>∃g,e=.returned (.slice (some ⟨g,0,none⟩) 7 7)/\w'.cell? ⟨g,ix,none⟩=some (.string G)/\g<w'.heap.size/\Below W.heap.size W w'):=zH fun W=>(EF W).mono (by
   rintro r w' ⟨g,rfl,hc,_,hg,hb⟩;refine⟨g,rfl,?_,hg,hb⟩;have hl:ix<je.length:=hix7;rw[hc ix hl,<-hG]
   congr 2
   simp[hl])
  have WH:IntKind.i64.wrap (ix:Int)=(ix:Int):=by rw[IntKind.wrap_i64];omega
  have WI:(ix:Int)<7:=by omega
  have hsub:(op:Int)-25=(ix:Int):=by omega
  have hs1:¬9223372036854775807<G.size+1:=by omega
  have hs2:¬9223372036854775807<(G++(⟨#[40]⟩:ByteArray)).size+S1.size:=by rw[ai];show¬9223372036854775807<G.size+1+S1.size;omega
  have hs3:¬9223372036854775807<((G++(⟨#[40]⟩:ByteArray))++S1).size+1:=by rw[ai,ai];show¬9223372036854775807<G.size+1+S1.size+1;omega
  have hs4:¬9223372036854775807<(((G++(⟨#[40]⟩:ByteArray))++S1)++(⟨#[46]⟩:ByteArray)).size+S2.size:=by rw[ai,ai,ai];show¬9223372036854775807<G.size+1+S1.size+1+S2.size;omega
  have hs5:¬9223372036854775807<((((G++(⟨#[40]⟩:ByteArray))++S1)++(⟨#[46]⟩:ByteArray))++S2).size+1:=by rw[ai,ai,ai,ai];show¬9223372036854775807<G.size+1+S1.size+1+S2.size+1;omega
  have ht2:¬9223372036854775807<G.size+1+S1.size:=by omega
  have ht3:¬9223372036854775807<G.size+1+S1.size+1:=by omega
  have ht4:¬9223372036854775807<G.size+1+S1.size+1+S2.size:=by omega
  have ht5:¬9223372036854775807<G.size+1+S1.size+1+S2.size+1:=by omega
  clear hG QD hv FZ hix
  go_enter Try.func84,Try.ntmps84
  have kb:=Bk.new w 118 #[.int .i64 op,.slice none 0 0,.int .i64 n,.int .i64 sc,.string S1,.string S2,.int .i64 p];have hb0:Below w.heap.size w (w.alloc (.cells #[.int .i64 op,.slice none 0 0,.int .i64 n,.int .i64 sc,.string S1,.string S2,.int .i64 p] 118)):=zR.alloc zL _;go_upto_region 1 with fail
  generalize w.alloc (.cells #[.int .i64 op,.slice none 0 0,.int .i64 n,.int .i64 sc,.string S1,.string S2,.int .i64 p] 118)=w0 at *;generalize eP:w.heap.size=bx at *;have q0:=kb.cell 0;have q2:=kb.cell 2;have q3:=kb.cell 3;have q4:=kb.cell 4;have q5:=kb.cell 5;have HB0:=zH hb0;have jl:=zH eP;clear kb hb0 eP;go_upto_region 16 with fail
  obtain⟨W,hW⟩:∃W,w0=W:=⟨_,rfl⟩
  subst hW;clear q2 q3;refine dU (by kernel_rfl) (fun qk=>(RV bx op ix S1 S2 G).getD qk .any) (by kernel_rfl) ?_ ?_
  ·refine aj.cons rfl [] [] rfl rfl (by kernel_rfl) (by kernel_rfl) (fun qK qa wr hB qO qF hK=>?_) ?_
   ·clear qO qF;go_simp
    go_at_call 95
    refine(HAG.out wr).mono ?_;rintro r w9 ⟨g9,rfl,hc9,jO,dZ⟩;exact hK _ _ dZ ⟨g9,rfl,jO,hc9⟩
   refine aj.cons rfl [] [1] rfl rfl (by kernel_rfl) (by kernel_rfl) (fun qK qa wr hB qO qF hK=>?_) ?_
   ·have e1:qa.tmps[1]? =some (.pointer (some ⟨bx,0,none⟩)):=qO.1.trans rfl;clear qO qF;go_simp;exact hK _ _ zR rfl
   refine aj.cons rfl [1] [] rfl rfl (by kernel_rfl) (by kernel_rfl) (fun qK qa wr hB qO qF hK=>?_) ?_
   ·have e43:=aH qF.1 rfl rfl;clear qO qF;have hq0:=zE hB q0;go_simp;exact hK _ _ zR rfl
   refine aj.cons rfl [2] [] rfl rfl (by kernel_rfl) (by kernel_rfl) (fun qK qa wr hB qO qF hK=>?_) ?_
   ·have e44:=aH qF.1 rfl rfl;clear qO qF;go_simp;exact hK _ _ zR (by first|rfl|(show(_:Value)=_;simp;omega))
   refine aj.cons rfl [0,3] [] rfl rfl (by kernel_rfl) (by kernel_rfl) (fun qK qa wr hB qO qF hK=>?_) ?_
   ·obtain⟨u42,e42,r0⟩:=qF.1
    skip
    have e45:=aH qF.2.1 rfl rfl;clear qO qF;obtain⟨g42,h42,hg42,hc42⟩:=(show∃g,u42=.slice (some ⟨g,0,none⟩) 7 7/\g<wr.heap.size/\wr.cell? ⟨g,ix,none⟩=some (.string G)from r0)
    subst h42;have e42:qa.tmps[42]? =some (.slice (some ⟨g42,0,none⟩) 7 7):=e42;go_simp;exact hK _ _ zR ⟨g42,by first|rfl|simp,hg42,hc42⟩
   refine aj.cons rfl [4] [] rfl rfl (by kernel_rfl) (by kernel_rfl) (fun qK qa wr hB qO qF hK=>?_) ?_
   ·obtain⟨u46,e46,r4⟩:=qF.1
    skip
    clear qO qF;obtain⟨g46,h46,hg46,hc46⟩:=(show∃g,u46=.pointer (some ⟨g,ix,none⟩)/\g<wr.heap.size/\wr.cell? ⟨g,ix,none⟩=some (.string G)from r4)
    subst h46;have e46:qa.tmps[46]? =some (.pointer (some ⟨g46,ix,none⟩)):=e46;go_simp;exact hK _ _ zR rfl
   refine aj.cons rfl [5] [] rfl rfl (by kernel_rfl) (by kernel_rfl) (fun qK qa wr hB qO qF hK=>?_) ?_
   ·have e47:=aH qF.1 rfl rfl;clear qO qF;go_simp;exact hK _ _ zR rfl
   refine aj.cons rfl [] [1] rfl rfl (by kernel_rfl) (by kernel_rfl) (fun qK qa wr hB qO qF hK=>?_) ?_
   ·have e1:qa.tmps[1]? =some (.pointer (some ⟨bx,0,none⟩)):=qO.1.trans rfl;clear qO qF;go_simp;exact hK _ _ zR rfl
   refine aj.cons rfl [7] [] rfl rfl (by kernel_rfl) (by kernel_rfl) (fun qK qa wr hB qO qF hK=>?_) ?_
   ·have e49:=aH qF.1 rfl rfl;clear qO qF;have hq4:=zE hB q4;go_simp;exact hK _ _ zR rfl
   refine aj.cons rfl [6,8] [] rfl rfl (by kernel_rfl) (by kernel_rfl) (fun qK qa wr hB qO qF hK=>?_) ?_
   ·have e48:=aH qF.1 rfl rfl;have e50:=aH qF.2.1 rfl rfl;clear qO qF;go_simp;exact hK _ _ zR rfl
   refine aj.cons rfl [9] [] rfl rfl (by kernel_rfl) (by kernel_rfl) (fun qK qa wr hB qO qF hK=>?_) ?_
   ·have e51:=aH qF.1 rfl rfl;clear qO qF;go_simp;exact hK _ _ zR rfl
   refine aj.cons rfl [] [1] rfl rfl (by kernel_rfl) (by kernel_rfl) (fun qK qa wr hB qO qF hK=>?_) ?_
   ·have e1:qa.tmps[1]? =some (.pointer (some ⟨bx,0,none⟩)):=qO.1.trans rfl;clear qO qF;go_simp;exact hK _ _ zR rfl
   refine aj.cons rfl [11] [] rfl rfl (by kernel_rfl) (by kernel_rfl) (fun qK qa wr hB qO qF hK=>?_) ?_
   ·have e53:=aH qF.1 rfl rfl;clear qO qF;have hq5:=zE hB q5;go_simp;exact hK _ _ zR rfl
   refine aj.cons rfl [10,12] [] rfl rfl (by kernel_rfl) (by kernel_rfl) (fun qK qa wr hB qO qF hK=>?_) ?_
   ·have e52:=aH qF.1 rfl rfl;have e54:=aH qF.2.1 rfl rfl;clear qO qF;go_simp;exact hK _ _ zR rfl
   refine aj.cons rfl [13] [] rfl rfl (by kernel_rfl) (by kernel_rfl) (fun qK qa wr hB qO qF hK=>?_) ?_
   ·have e55:=aH qF.1 rfl rfl;clear qO qF;go_simp;exact hK _ _ zR rfl
   refine aj.cons rfl [14] [] rfl rfl (by kernel_rfl) (by kernel_rfl) (fun qK qa wr hB qO qF hK=>?_) ?_
   ·have e56:=aH qF.1 rfl rfl;clear qO qF;go_simp;exact hK _ _ zR rfl
   exact aj.nil
  intro vals wr hl hB hR
  match vals,hl with
  |[z42,z43,z44,z45,z46,z47,z48,z49,z50,z51,z52,z53,z54,z55,z56,z2],_=>
  have ZY:z2=.string (((((G++(⟨#[40]⟩:ByteArray))++S1)++(⟨#[46]⟩:ByteArray))++S2)++(⟨#[41]⟩:ByteArray)):=hR 15 _ rfl;subst ZY;clear hR;simp only[List.cons_append,List.nil_append,aN,Act.put,List.setIfInBounds_toArray,List.set_cons_zero,List.set_cons_succ];have HB:=zH (HB0.out.trans (hB.mono (by have:=HB0.out.size;have:=jl.out;omega)));clear hB;go_wp2
  go_ret
  exact⟨_,rfl,by rw[ai,ai,ai,ai,ai,HV.out];show G.size+1+S1.size+1+S2.size+1=_;omega,by first|exact HB.out|(rw[<-jl.out];exact HB.out)|(rw[jl.out];exact HB.out)⟩
end Go.Proofs.Ytbjnhllkdilpfaa
