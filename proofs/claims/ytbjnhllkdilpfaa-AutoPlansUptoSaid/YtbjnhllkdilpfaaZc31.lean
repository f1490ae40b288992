/- Part 31 of the proof. No conditions. -/
import Derived.Test.YtbjnhllkdilpfaaZc30
namespace Go.Proofs.Ytbjnhllkdilpfaa
open Go.RowKit
set_option maxRecDepth 100000
set_option maxHeartbeats 16000000
set_option linter.unusedVariables false
set_option linter.unusedSimpArgs false
def lL (op n sc l1 l2:Nat):Nat:=
 if op=20 then iU n else if op=21 then iW n sc else if op=22 then(if n=1 then 4 else 5)else if op=23 then l1+2 else if op=24 then l1+1+l2 else if op=25 then l1+7 else(jl.getD (op-25) []).length+l1+l2+3
def yM (n:Nat) (w:World) (e:Ending) (w':World):Prop:=∃S:ByteArray,e=.returned (.string S)/\S.size=n/\Below w.heap.size w w'
theorem aj (a b:ByteArray):(a++b).size=a.size+b.size:=ByteArray.size_append
theorem OA (op n sc p : Nat) (S1 S2 : ByteArray) (h1 : S1.size ≤ 24) (h2 : S2.size ≤ 24) (hop : 20 ≤ op ∧ op ≤ 31) (hn : n ≤ 9223372036854775807) (hsc : op = 21 → sc ≤ 14) (w : World) :
  Calls Try.prog 84 #[.agg #[.int .i64 op,.slice none 0 0,.int .i64 n,.int .i64 sc,.string S1,.string S2,.int .i64 p]] w (yM (lL op n sc S1.size S2.size) w):=by
 unfold yM;obtain⟨N,hN⟩:∃N,lL op n sc S1.size S2.size=N:=⟨_,rfl⟩
 rw[hN];have hlf:=hN;unfold lL at hlf;clear hN;have hcl:op=20\/op=21\/op=22\/op=23\/op=24\/op=25\/(26<=op/\op<=31):=by omega
 have Gs:=zH hn;have QR:=zH hop;clear hn hop;rcases hcl with hc|hc|hc|hc|hc|hc|hc
 ·
  have hN:N=iU n:=by rw[<-hlf];(repeat' split)<;>first|rfl|(exfalso;omega)
  clear hlf;have e20:((op:Int)==20)=true:=by rw[beq_iff_eq];omega
  have Ip:=zH hN;clear hN hc;have HD:=zH (fun W=>zy (n:Int) ⟨by omega,by have:=Gs.out;omega⟩ W)
  go_enter Try.func84,Try.ntmps84
  have kb:=Bk.new w 118 #[.int .i64 op,.slice none 0 0,.int .i64 n,.int .i64 sc,.string S1,.string S2,.int .i64 p];have hb0:Below w.heap.size w (w.alloc (.cells #[.int .i64 op,.slice none 0 0,.int .i64 n,.int .i64 sc,.string S1,.string S2,.int .i64 p] 118)):=zR.alloc zL _;go_upto_region 1 with fail
  generalize w.alloc (.cells #[.int .i64 op,.slice none 0 0,.int .i64 n,.int .i64 sc,.string S1,.string S2,.int .i64 p] 118)=w0 at *;generalize eU:w.heap.size=bx at *;have q0:=kb.cell 0;have q2:=kb.cell 2;have q3:=kb.cell 3;have q4:=kb.cell 4;have q5:=kb.cell 5;have HB0:=zH hb0;have jw:=zH eU;clear kb hb0 eU;go_wp2_with fail
  refine(HD.out _).mono ?_;rintro r w4 ⟨rfl,hb4⟩;have HB:=zH (HB0.out.trans (hb4.mono (by have:=HB0.out.size;have:=jw.out;omega)));clear hb4 HD;go_wp2
  go_ret
  exact⟨_,rfl,Ip.out.symm,by first|exact HB.out|(rw[<-jw.out];exact HB.out)|(rw[jw.out];exact HB.out)⟩
 ·
  have hN:N=iW n sc:=by rw[<-hlf];(repeat' split)<;>first|rfl|(exfalso;omega)
  clear hlf;have e20:((op:Int)==20)=false:=zB (by omega)
  have e21:((op:Int)==21)=true:=by rw[beq_iff_eq];omega
  have Pn:=zH (hsc hc);have Ip:=zH hN;clear hN hc;have HD:=zH (fun W=>DV n sc Gs.out Pn.out W)
  go_enter Try.func84,Try.ntmps84
  have kb:=Bk.new w 118 #[.int .i64 op,.slice none 0 0,.int .i64 n,.int .i64 sc,.string S1,.string S2,.int .i64 p];have hb0:Below w.heap.size w (w.alloc (.cells #[.int .i64 op,.slice none 0 0,.int .i64 n,.int .i64 sc,.string S1,.string S2,.int .i64 p] 118)):=zR.alloc zL _;go_upto_region 1 with fail
  generalize w.alloc (.cells #[.int .i64 op,.slice none 0 0,.int .i64 n,.int .i64 sc,.string S1,.string S2,.int .i64 p] 118)=w0 at *;generalize eU:w.heap.size=bx at *;have q0:=kb.cell 0;have q2:=kb.cell 2;have q3:=kb.cell 3;have q4:=kb.cell 4;have q5:=kb.cell 5;have HB0:=zH hb0;have jw:=zH eU;clear kb hb0 eU;go_wp2_with fail
  refine(HD.out _).mono ?_;rintro r w4 ⟨S,rfl,hS,hb4⟩;have HS:=zH hS;have HB:=zH (HB0.out.trans (hb4.mono (by have:=HB0.out.size;have:=jw.out;omega)));clear hb4 HD hS;go_wp2
  go_ret
  exact⟨_,rfl,HS.out.trans Ip.out.symm,by first|exact HB.out|(rw[<-jw.out];exact HB.out)|(rw[jw.out];exact HB.out)⟩
 ·
  have hN:N=if n=1 then 4 else 5:=by rw[<-hlf,hc];rfl
  clear hlf;have e20:((op:Int)==20)=false:=zB (by omega)
  have e21:((op:Int)==21)=false:=zB (by omega)
  have e22:((op:Int)==22)=true:=by rw[beq_iff_eq];omega
  have Ip:=zH hN;clear hN hc;have HB:=zH True.intro
  by_cases hn1:n=1
  ·have n1:((n:Int)==1)=true:=by rw[beq_iff_eq];omega
   have hv:=Ip.out;rw[if_pos hn1]at hv;have HV:=zH hv;clear hv Ip hn1 HB
   go_enter Try.func84,Try.ntmps84
   have kb:=Bk.new w 118 #[.int .i64 op,.slice none 0 0,.int .i64 n,.int .i64 sc,.string S1,.string S2,.int .i64 p];have hb0:Below w.heap.size w (w.alloc (.cells #[.int .i64 op,.slice none 0 0,.int .i64 n,.int .i64 sc,.string S1,.string S2,.int .i64 p] 118)):=zR.alloc zL _;go_upto_region 1 with fail
   generalize w.alloc (.cells #[.int .i64 op,.slice none 0 0,.int .i64 n,.int .i64 sc,.string S1,.string S2,.int .i64 p] 118)=w0 at *;generalize eU:w.heap.size=bx at *;have q0:=kb.cell 0;have q2:=kb.cell 2;have q3:=kb.cell 3;have q4:=kb.cell 4;have q5:=kb.cell 5;have HB0:=zH hb0;have jw:=zH eU;clear kb hb0 eU;have HB:=HB0;go_wp2
   go_ret
   exact⟨_,rfl,HV.out.symm,by first|exact HB.out|(rw[<-jw.out];exact HB.out)|(rw[jw.out];exact HB.out)⟩
  ·have n1:((n:Int)==1)=false:=zB (by omega)
   have hv:=Ip.out;rw[if_neg hn1]at hv;have HV:=zH hv;clear hv Ip hn1 HB
   go_enter Try.func84,Try.ntmps84
   have kb:=Bk.new w 118 #[.int .i64 op,.slice none 0 0,.int .i64 n,.int .i64 sc,.string S1,.string S2,.int .i64 p];have hb0:Below w.heap.size w (w.alloc (.cells #[.int .i64 op,.slice none 0 0,.int .i64 n,.int .i64 sc,.string S1,.string S2,.int .i64 p] 118)):=zR.alloc zL _;go_upto_region 1 with fail
   generalize w.alloc (.cells #[.int .i64 op,.slice none 0 0,.int .i64 n,.int .i64 sc,.string S1,.string S2,.int .i64 p] 118)=w0 at *;generalize eU:w.heap.size=bx at *;have q0:=kb.cell 0;have q2:=kb.cell 2;have q3:=kb.cell 3;have q4:=kb.cell 4;have q5:=kb.cell 5;have HB0:=zH hb0;have jw:=zH eU;clear kb hb0 eU;have HB:=HB0;go_wp2
   go_ret
   exact⟨_,rfl,HV.out.symm,by first|exact HB.out|(rw[<-jw.out];exact HB.out)|(rw[jw.out];exact HB.out)⟩
 ·
  have hN:N=S1.size+2:=by rw[<-hlf];(repeat' split)<;>first|rfl|(exfalso;omega)
  clear hlf;have e20:((op:Int)==20)=false:=zB (by omega)
  have e21:((op:Int)==21)=false:=zB (by omega)
  have e22:((op:Int)==22)=false:=zB (by omega)
  have e23:((op:Int)==23)=true:=by rw[beq_iff_eq];omega
  have Ip:=zH hN;clear hN hc;have hs0:¬9223372036854775807<1+S1.size:=by(try rw[aj]);(try simp only[show(⟨#[39]⟩:ByteArray).size=1 from rfl,show(⟨#[46]⟩:ByteArray).size=1 from rfl,show(⟨#[67,79,85,78,84,40]⟩:ByteArray).size=6 from rfl]);omega
  have hs1:¬9223372036854775807<((⟨#[39]⟩:ByteArray)++S1).size+1:=by(try rw[aj]);(try simp only[show(⟨#[39]⟩:ByteArray).size=1 from rfl,show(⟨#[46]⟩:ByteArray).size=1 from rfl,show(⟨#[67,79,85,78,84,40]⟩:ByteArray).size=6 from rfl]);omega
  have hs2:¬9223372036854775807<1+S1.size+1:=by(try rw[aj]);(try simp only[show(⟨#[39]⟩:ByteArray).size=1 from rfl,show(⟨#[46]⟩:ByteArray).size=1 from rfl,show(⟨#[67,79,85,78,84,40]⟩:ByteArray).size=6 from rfl]);omega
  go_enter Try.func84,Try.ntmps84
  have kb:=Bk.new w 118 #[.int .i64 op,.slice none 0 0,.int .i64 n,.int .i64 sc,.string S1,.string S2,.int .i64 p];have hb0:Below w.heap.size w (w.alloc (.cells #[.int .i64 op,.slice none 0 0,.int .i64 n,.int .i64 sc,.string S1,.string S2,.int .i64 p] 118)):=zR.alloc zL _;go_upto_region 1 with fail
  generalize w.alloc (.cells #[.int .i64 op,.slice none 0 0,.int .i64 n,.int .i64 sc,.string S1,.string S2,.int .i64 p] 118)=w0 at *;generalize eU:w.heap.size=bx at *;have q0:=kb.cell 0;have q2:=kb.cell 2;have q3:=kb.cell 3;have q4:=kb.cell 4;have q5:=kb.cell 5;have HB0:=zH hb0;have jw:=zH eU;clear kb hb0 eU;have HB:=HB0;go_wp2
  go_ret
  exact⟨_,rfl,by rw[aj,aj,Ip.out];show 1+S1.size+1=_;omega,by first|exact HB.out|(rw[<-jw.out];exact HB.out)|(rw[jw.out];exact HB.out)⟩
 ·
  have hN:N=S1.size+1+S2.size:=by rw[<-hlf];(repeat' split)<;>first|rfl|(exfalso;omega)
  clear hlf;have e20:((op:Int)==20)=false:=zB (by omega)
  have e21:((op:Int)==21)=false:=zB (by omega)
  have e22:((op:Int)==22)=false:=zB (by omega)
  have e23:((op:Int)==23)=false:=zB (by omega)
  have e24:((op:Int)==24)=true:=by rw[beq_iff_eq];omega
  have Ip:=zH hN;clear hN hc;have hs0:¬9223372036854775807<S1.size+1:=by(try rw[aj]);(try simp only[show(⟨#[39]⟩:ByteArray).size=1 from rfl,show(⟨#[46]⟩:ByteArray).size=1 from rfl,show(⟨#[67,79,85,78,84,40]⟩:ByteArray).size=6 from rfl]);omega
  have hs1:¬9223372036854775807<(S1++(⟨#[46]⟩:ByteArray)).size+S2.size:=by(try rw[aj]);(try simp only[show(⟨#[39]⟩:ByteArray).size=1 from rfl,show(⟨#[46]⟩:ByteArray).size=1 from rfl,show(⟨#[67,79,85,78,84,40]⟩:ByteArray).size=6 from rfl]);omega
  have hs2:¬9223372036854775807<S1.size+1+S2.size:=by(try rw[aj]);(try simp only[show(⟨#[39]⟩:ByteArray).size=1 from rfl,show(⟨#[46]⟩:ByteArray).size=1 from rfl,show(⟨#[67,79,85,78,84,40]⟩:ByteArray).size=6 from rfl]);omega
  go_enter Try.func84,Try.ntmps84
  have kb:=Bk.new w 118 #[.int .i64 op,.slice none 0 0,.int .i64 n,.int .i64 sc,.string S1,.string S2,.int .i64 p];have hb0:Below w.heap.size w (w.alloc (.cells #[.int .i64 op,.slice none 0 0,.int .i64 n,.int .i64 sc,.string S1,.string S2,.int .i64 p] 118)):=zR.alloc zL _;go_upto_region 1 with fail
  generalize w.alloc (.cells #[.int .i64 op,.slice none 0 0,.int .i64 n,.int .i64 sc,.string S1,.string S2,.int .i64 p] 118)=w0 at *;generalize eU:w.heap.size=bx at *;have q0:=kb.cell 0;have q2:=kb.cell 2;have q3:=kb.cell 3;have q4:=kb.cell 4;have q5:=kb.cell 5;have HB0:=zH hb0;have jw:=zH eU;clear kb hb0 eU;have HB:=HB0;go_wp2
  go_ret
  exact⟨_,rfl,by rw[aj,aj,Ip.out];show S1.size+1+S2.size=_;omega,by first|exact HB.out|(rw[<-jw.out];exact HB.out)|(rw[jw.out];exact HB.out)⟩
 ·
  have hN:N=S1.size+7:=by rw[<-hlf];(repeat' split)<;>first|rfl|(exfalso;omega)
  clear hlf;have e20:((op:Int)==20)=false:=zB (by omega)
  have e21:((op:Int)==21)=false:=zB (by omega)
  have e22:((op:Int)==22)=false:=zB (by omega)
  have e23:((op:Int)==23)=false:=zB (by omega)
  have e24:((op:Int)==24)=false:=zB (by omega)
  have e25:((op:Int)==25)=true:=by rw[beq_iff_eq];omega
  have Ip:=zH hN;clear hN hc;have hs0:¬9223372036854775807<6+S1.size:=by(try rw[aj]);(try simp only[show(⟨#[39]⟩:ByteArray).size=1 from rfl,show(⟨#[46]⟩:ByteArray).size=1 from rfl,show(⟨#[67,79,85,78,84,40]⟩:ByteArray).size=6 from rfl]);omega
  have hs1:¬9223372036854775807<((⟨#[67,79,85,78,84,40]⟩:ByteArray)++S1).size+1:=by(try rw[aj]);(try simp only[show(⟨#[39]⟩:ByteArray).size=1 from rfl,show(⟨#[46]⟩:ByteArray).size=1 from rfl,show(⟨#[67,79,85,78,84,40]⟩:ByteArray).size=6 from rfl]);omega
  have hs2:¬9223372036854775807<6+S1.size+1:=by(try rw[aj]);(try simp only[show(⟨#[39]⟩:ByteArray).size=1 from rfl,show(⟨#[46]⟩:ByteArray).size=1 from rfl,show(⟨#[67,79,85,78,84,40]⟩:ByteArray).size=6 from rfl]);omega
  go_enter Try.func84,Try.ntmps84
  have kb:=Bk.new w 118 #[.int .i64 op,.slice none 0 0,.int .i64 n,.int .i64 sc,.string S1,.string S2,.int .i64 p];have hb0:Below w.heap.size w (w.alloc (.cells #[.int .i64 op,.slice none 0 0,.int .i64 n,.int .i64 sc,.string S1,.string S2,.int .i64 p] 118)):=zR.alloc zL _;go_upto_region 1 with fail
  generalize w.alloc (.cells #[.int .i64 op,.slice none 0 0,.int .i64 n,.int .i64 sc,.string S1,.string S2,.int .i64 p] 118)=w0 at *;generalize eU:w.heap.size=bx at *;have q0:=kb.cell 0;have q2:=kb.cell 2;have q3:=kb.cell 3;have q4:=kb.cell 4;have q5:=kb.cell 5;have HB0:=zH hb0;have jw:=zH eU;clear kb hb0 eU;have HB:=HB0;go_wp2
  go_ret
  exact⟨_,rfl,by rw[aj,aj,Ip.out];show 6+S1.size+1=_;omega,by first|exact HB.out|(rw[<-jw.out];exact HB.out)|(rw[jw.out];exact HB.out)⟩
 ·
  have hN:N=(jl.getD (op-25) []).length+S1.size+S2.size+3:=by rw[<-hlf];(repeat' split)<;>first|rfl|(exfalso;omega)
  clear hlf;have e20:((op:Int)==20)=false:=zB (by omega)
  have e21:((op:Int)==21)=false:=zB (by omega)
  have e22:((op:Int)==22)=false:=zB (by omega)
  have e23:((op:Int)==23)=false:=zB (by omega)
  have e24:((op:Int)==24)=false:=zB (by omega)
  have e25:((op:Int)==25)=false:=zB (by omega)
  obtain⟨ix,hix⟩:∃ix,op=25+ix:=⟨op-25,by omega⟩
  have hix7:ix<7:=by omega
  have hgi:op-25=ix:=by omega
  rw[hgi]at hN;have Ip:=zH hN;clear hN hgi;obtain⟨G,hG⟩:∃G:ByteArray,bytes (jl.getD ix [])=G:=⟨_,rfl⟩
  have UO:(jl.getD ix []).length=G.size:=by rw[<-hG,bD]
  have hG5:G.size<=5:=by
   rw[<-UO]
   match ix,hix7 with
   |0,_|1,_|2,_|3,_|4,_|5,_|6,_=>decide
  have hv:=Ip.out;rw[UO]at hv;have HV:=zH hv
  have HAG:Hid (∀W:World,Calls Try.prog 95 #[] W fun e w'=>∃g,e=.returned (.slice (some ⟨g,0,none⟩) 7 7)/\w'.cell? ⟨g,ix,none⟩=some (.string G)/\g<w'.heap.size/\Below W.heap.size W w'):=zH fun W=>(GU W).mono (by
   rintro r w' ⟨g,rfl,hc,_,hg,hb⟩;refine⟨g,rfl,?_,hg,hb⟩;have hl:ix<jl.length:=hix7;rw[hc ix hl,<-hG]
   congr 2
   simp[hl])
  have Zd:IntKind.i64.wrap (ix:Int)=(ix:Int):=by rw[IntKind.wrap_i64];omega
  have Ze:(ix:Int)<7:=by omega
  have hsub:(op:Int)-25=(ix:Int):=by omega
  have hs1:¬9223372036854775807<G.size+1:=by omega
  have hs2:¬9223372036854775807<(G++(⟨#[40]⟩:ByteArray)).size+S1.size:=by rw[aj];show¬9223372036854775807<G.size+1+S1.size;omega
  have hs3:¬9223372036854775807<((G++(⟨#[40]⟩:ByteArray))++S1).size+1:=by rw[aj,aj];show¬9223372036854775807<G.size+1+S1.size+1;omega
  have hs4:¬9223372036854775807<(((G++(⟨#[40]⟩:ByteArray))++S1)++(⟨#[46]⟩:ByteArray)).size+S2.size:=by rw[aj,aj,aj];show¬9223372036854775807<G.size+1+S1.size+1+S2.size;omega
  have hs5:¬9223372036854775807<((((G++(⟨#[40]⟩:ByteArray))++S1)++(⟨#[46]⟩:ByteArray))++S2).size+1:=by rw[aj,aj,aj,aj];show¬9223372036854775807<G.size+1+S1.size+1+S2.size+1;omega
  have ht2:¬9223372036854775807<G.size+1+S1.size:=by omega
  have ht3:¬9223372036854775807<G.size+1+S1.size+1:=by omega
  have ht4:¬9223372036854775807<G.size+1+S1.size+1+S2.size:=by omega
  have ht5:¬9223372036854775807<G.size+1+S1.size+1+S2.size+1:=by omega
  clear hG UO hv Ip hix
  go_enter Try.func84,Try.ntmps84
  have kb:=Bk.new w 118 #[.int .i64 op,.slice none 0 0,.int .i64 n,.int .i64 sc,.string S1,.string S2,.int .i64 p];have hb0:Below w.heap.size w (w.alloc (.cells #[.int .i64 op,.slice none 0 0,.int .i64 n,.int .i64 sc,.string S1,.string S2,.int .i64 p] 118)):=zR.alloc zL _;go_upto_region 1 with fail
  generalize w.alloc (.cells #[.int .i64 op,.slice none 0 0,.int .i64 n,.int .i64 sc,.string S1,.string S2,.int .i64 p] 118)=w0 at *;generalize eU:w.heap.size=bx at *;have q0:=kb.cell 0;have q2:=kb.cell 2;have q3:=kb.cell 3;have q4:=kb.cell 4;have q5:=kb.cell 5;have HB0:=zH hb0;have jw:=zH eU;clear kb hb0 eU;go_upto_region 16 with fail
  obtain⟨W,hW⟩:∃W,w0=W:=⟨_,rfl⟩
  subst hW;clear q2 q3
  refine wx (fun k => false) [.st (fun v w => ∃ g, v = .slice (some ⟨g, 0, none⟩) 7 7 ∧ g < w.heap.size ∧ w.cell? ⟨g, ix, none⟩ = some (.string G)) (fun _ _ _ hb ⟨g, h1, h2, h3⟩ => ⟨g, h1, Nat.lt_of_lt_of_le h2 hb.size, (aT hb g _ h2).trans h3⟩),
    .is (.pointer (some ⟨bx,0,none⟩)),
    .is (.int .i64 (op:Nat)),
    .is (.int .i64 (ix:Nat)),
    .st (fun v w=>∃g,v=.pointer (some ⟨g,ix,none⟩)/\g<w.heap.size/\w.cell? ⟨g,ix,none⟩=some (.string G)) (fun _ _ _ hb ⟨g,h1,h2,h3⟩=>⟨g,h1,Nat.lt_of_lt_of_le h2 hb.size,(aT hb g _ h2).trans h3⟩),
    .is (.string G),
    .is (.string (G++(⟨#[40]⟩:ByteArray))),
    .is (.pointer (some ⟨bx,4,none⟩)),
    .is (.string S1),
    .is (.string ((G++(⟨#[40]⟩:ByteArray))++S1)),
    .is (.string (((G++(⟨#[40]⟩:ByteArray))++S1)++(⟨#[46]⟩:ByteArray))),
    .is (.pointer (some ⟨bx,5,none⟩)),
    .is (.string S2),
    .is (.string ((((G++(⟨#[40]⟩:ByteArray))++S1)++(⟨#[46]⟩:ByteArray))++S2)),
    .is (.string (((((G++(⟨#[40]⟩:ByteArray))++S1)++(⟨#[46]⟩:ByteArray))++S2)++(⟨#[41]⟩:ByteArray))),
    .is (.string (((((G++(⟨#[40]⟩:ByteArray))++S1)++(⟨#[46]⟩:ByteArray))++S2)++(⟨#[41]⟩:ByteArray)))] [0,3,4,5,6,9,10,13,14] (by kernel_rfl) (by kernel_rfl) (by kernel_rfl)
    (fun C=>.c (pz [] [] (by kernel_rfl) fun qK qa wr hB qO qF hK=>?_) <|
    .c (px C rfl (fun _ _=>rfl)) <|
    .c (px C rfl (fun _ h=>bW (lJ (bc h q0)))) <|
    .c (pz [2] [] (by kernel_rfl) fun qK qa wr hB qO qF hK=>?_) <|
    .c (pz [0,3] [] (by kernel_rfl) fun qK qa wr hB qO qF hK=>?_) <|
    .c (pz [4] [] (by kernel_rfl) fun qK qa wr hB qO qF hK=>?_) <|
    .c (pz [5] [] (by kernel_rfl) fun qK qa wr hB qO qF hK=>?_) <|
    .c (px C rfl (fun _ _=>rfl)) <|
    .c (px C rfl (fun _ h=>bW (Gf (bc h q4)))) <|
    .c (pz [6,8] [] (by kernel_rfl) fun qK qa wr hB qO qF hK=>?_) <|
    .c (pz [9] [] (by kernel_rfl) fun qK qa wr hB qO qF hK=>?_) <|
    .c (px C rfl (fun _ _=>rfl)) <|
    .c (px C rfl (fun _ h=>bW (Gf (bc h q5)))) <|
    .c (pz [10,12] [] (by kernel_rfl) fun qK qa wr hB qO qF hK=>?_) <|
    .c (pz [13] [] (by kernel_rfl) fun qK qa wr hB qO qF hK=>?_) <|
    .c (px C rfl (fun _ _=>rfl)) <| .nil) ?_
  ·clear qO qF;go_simp
   go_at_call 95
   refine(HAG.out wr).mono ?_;rintro r w9 ⟨g9,rfl,X8,jG,dO⟩;exact hK _ _ dO ⟨g9,rfl,jG,X8⟩
  ·have e44:=ay qF.1 rfl rfl;clear qO qF;go_simp;exact hK _ _ zR (by first|rfl|(show(_:Value)=_;simp;omega))
  ·obtain⟨u42,e42,r0⟩:=qF.1
   skip
   have e45:=ay qF.2.1 rfl rfl;clear qO qF;obtain⟨g42,h42,hg42,hc42⟩:=(show∃g,u42=.slice (some ⟨g,0,none⟩) 7 7/\g<wr.heap.size/\wr.cell? ⟨g,ix,none⟩=some (.string G)from r0)
   subst h42;have e42:qa.tmps[42]? =some (.slice (some ⟨g42,0,none⟩) 7 7):=e42;go_simp;exact hK _ _ zR ⟨g42,by first|rfl|simp,hg42,hc42⟩
  ·obtain⟨u46,e46,r4⟩:=qF.1
   skip
   clear qO qF;obtain⟨g46,h46,hg46,hc46⟩:=(show∃g,u46=.pointer (some ⟨g,ix,none⟩)/\g<wr.heap.size/\wr.cell? ⟨g,ix,none⟩=some (.string G)from r4)
   subst h46;have e46:qa.tmps[46]? =some (.pointer (some ⟨g46,ix,none⟩)):=e46;go_simp;exact hK _ _ zR rfl
  ·have e47:=ay qF.1 rfl rfl;clear qO qF;go_simp;exact hK _ _ zR rfl
  ·have e48:=ay qF.1 rfl rfl;have e50:=ay qF.2.1 rfl rfl;clear qO qF;go_simp;exact hK _ _ zR rfl
  ·have e51:=ay qF.1 rfl rfl;clear qO qF;go_simp;exact hK _ _ zR rfl
  ·have e52:=ay qF.1 rfl rfl;have e54:=ay qF.2.1 rfl rfl;clear qO qF;go_simp;exact hK _ _ zR rfl
  ·have e55:=ay qF.1 rfl rfl;clear qO qF;go_simp;exact hK _ _ zR rfl
  intro qx wr hB hR hS;clear hR hS;simp only[bJ,List.take_succ_cons,List.take_zero,List.drop_succ_cons,List.drop_zero,List.toList_toArray,List.length_cons,List.length_nil,Act.put,List.setIfInBounds_toArray,List.set_cons_zero,List.set_cons_succ];refine zn ?_;have HB:=zH (HB0.out.trans (hB.mono (by have:=HB0.out.size;have:=jw.out;omega)));clear hB;go_wp2
  go_ret
  exact⟨_,rfl,by rw[aj,aj,aj,aj,aj,HV.out];show G.size+1+S1.size+1+S2.size+1=_;omega,by first|exact HB.out|(rw[<-jw.out];exact HB.out)|(rw[jw.out];exact HB.out)⟩
end Go.Proofs.Ytbjnhllkdilpfaa
