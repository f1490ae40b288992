/- Part 30 of the proof. No conditions. -/
import Derived.Test.YtbjnhllkdilpfaaZc18
namespace Go.Proofs.Ytbjnhllkdilpfaa
open Go.RowKit
set_option maxRecDepth 100000
set_option maxHeartbeats 16000000
set_option linter.unusedVariables false
set_option linter.unusedSimpArgs false
def aW (op:Nat):Nat:=
 if op=14 then 1 else if op=13 then 2 else if op=15 then 3 else if 7<=op/\op<=12 then 4 else if op=1\/op=2 then 5 else if 3<=op/\op<=5 then 6 else if op=6 then 7 else 8
def iU (n:Nat):Nat:=(bytes (Lib.itoa n)).size
def iW (n sc:Nat):Nat:=iU (n/10^sc)+1+max sc (iU (n%10^sc))
theorem Io:∀(k n:Nat),n<10^(k+1)->(Lib.decDigits n).length<=k+1
 |0,n,h=>by rw[og n (by simpa using h)];simp
 |k+1,n,h=>by
  by_cases h9:n<10
  ·rw[og n h9];simp
  ·rw[vM n h9,List.length_append];have:=Io k (n/10) (by rw[Nat.pow_succ]at h;omega);simp;omega
theorem sG (n:Nat) (h:n<=9223372036854775807):iU n<=20:=by
 unfold iU Lib.itoa;rw[bD,if_neg (by omega)];exact Io 19 n (by omega)
theorem DU (op:Nat) (w:World):Calls Try.prog 82 #[.int .i64 op] w fun e w'=>e=.returned (.int .i64 (aW op:Nat))/\w'=w:=by
 have VP:(op=14)\/(op=13)\/(op=15)\/(7<=op/\op<=12)\/(op=1)\/(op=2)\/(3<=op/\op<=5)\/(op=6)\/(op=0)\/(16<=op):=by omega
 rcases VP with h|h|h|h|h|h|h|h|h|h
 ·have hl:aW op=1:=by unfold aW;(repeat' split)<;>omega
  rw[hl];clear hl;have x14:((op:Int)==14)=true:=by rw[beq_iff_eq];omega
  clear h
  go_enter Try.func82,Try.ntmps82
  go_wp2
  go_ret
  exact⟨rfl,rfl⟩
 ·have hl:aW op=2:=by unfold aW;(repeat' split)<;>omega
  rw[hl];clear hl;have x14:((op:Int)==14)=false:=zB (by omega)
  have Xw:((op:Int)==13)=true:=by rw[beq_iff_eq];omega
  clear h
  go_enter Try.func82,Try.ntmps82
  go_wp2
  go_ret
  exact⟨rfl,rfl⟩
 ·have hl:aW op=3:=by unfold aW;(repeat' split)<;>omega
  rw[hl];clear hl;have x14:((op:Int)==14)=false:=zB (by omega)
  have Xw:((op:Int)==13)=false:=zB (by omega)
  have x15:((op:Int)==15)=true:=by rw[beq_iff_eq];omega
  clear h
  go_enter Try.func82,Try.ntmps82
  go_wp2
  go_ret
  exact⟨rfl,rfl⟩
 ·have hl:aW op=4:=by unfold aW;(repeat' split)<;>omega
  rw[hl];clear hl;have x14:((op:Int)==14)=false:=zB (by omega)
  have Xw:((op:Int)==13)=false:=zB (by omega)
  have x15:((op:Int)==15)=false:=zB (by omega)
  have Oy:(7:Int)<=(op:Int):=by omega
  have zA6:(op:Int)<=(12:Int):=by omega
  clear h
  go_enter Try.func82,Try.ntmps82
  go_wp2
  go_ret
  exact⟨rfl,rfl⟩
 ·have hl:aW op=5:=by unfold aW;(repeat' split)<;>omega
  rw[hl];clear hl;have x14:((op:Int)==14)=false:=zB (by omega)
  have Xw:((op:Int)==13)=false:=zB (by omega)
  have x15:((op:Int)==15)=false:=zB (by omega)
  have Oy:¬(7:Int)<=(op:Int):=by omega
  have x1:((op:Int)==1)=true:=by rw[beq_iff_eq];omega
  clear h
  go_enter Try.func82,Try.ntmps82
  go_wp2
  go_ret
  exact⟨rfl,rfl⟩
 ·have hl:aW op=5:=by unfold aW;(repeat' split)<;>omega
  rw[hl];clear hl;have x14:((op:Int)==14)=false:=zB (by omega)
  have Xw:((op:Int)==13)=false:=zB (by omega)
  have x15:((op:Int)==15)=false:=zB (by omega)
  have Oy:¬(7:Int)<=(op:Int):=by omega
  have x1:((op:Int)==1)=false:=zB (by omega)
  have x2:((op:Int)==2)=true:=by rw[beq_iff_eq];omega
  clear h
  go_enter Try.func82,Try.ntmps82
  go_wp2
  go_ret
  exact⟨rfl,rfl⟩
 ·have hl:aW op=6:=by unfold aW;(repeat' split)<;>omega
  rw[hl];clear hl;have x14:((op:Int)==14)=false:=zB (by omega)
  have Xw:((op:Int)==13)=false:=zB (by omega)
  have x15:((op:Int)==15)=false:=zB (by omega)
  have Oy:¬(7:Int)<=(op:Int):=by omega
  have x1:((op:Int)==1)=false:=zB (by omega)
  have x2:((op:Int)==2)=false:=zB (by omega)
  have Y9:(3:Int)<=(op:Int):=by omega
  have yop5:(op:Int)<=(5:Int):=by omega
  clear h
  go_enter Try.func82,Try.ntmps82
  go_wp2
  go_ret
  exact⟨rfl,rfl⟩
 ·have hl:aW op=7:=by unfold aW;(repeat' split)<;>omega
  rw[hl];clear hl;have x14:((op:Int)==14)=false:=zB (by omega)
  have Xw:((op:Int)==13)=false:=zB (by omega)
  have x15:((op:Int)==15)=false:=zB (by omega)
  have Oy:¬(7:Int)<=(op:Int):=by omega
  have x1:((op:Int)==1)=false:=zB (by omega)
  have x2:((op:Int)==2)=false:=zB (by omega)
  have Y9:(3:Int)<=(op:Int):=by omega
  have yop5:¬(op:Int)<=(5:Int):=by omega
  have x6:((op:Int)==6)=true:=by rw[beq_iff_eq];omega
  clear h
  go_enter Try.func82,Try.ntmps82
  go_wp2
  go_ret
  exact⟨rfl,rfl⟩
 ·have hl:aW op=8:=by unfold aW;(repeat' split)<;>omega
  rw[hl];clear hl;have x14:((op:Int)==14)=false:=zB (by omega)
  have Xw:((op:Int)==13)=false:=zB (by omega)
  have x15:((op:Int)==15)=false:=zB (by omega)
  have Oy:¬(7:Int)<=(op:Int):=by omega
  have x1:((op:Int)==1)=false:=zB (by omega)
  have x2:((op:Int)==2)=false:=zB (by omega)
  have Y9:¬(3:Int)<=(op:Int):=by omega
  have x6:((op:Int)==6)=false:=zB (by omega)
  clear h
  go_enter Try.func82,Try.ntmps82
  go_wp2
  go_ret
  exact⟨rfl,rfl⟩
 ·have hl:aW op=8:=by unfold aW;(repeat' split)<;>omega
  rw[hl];clear hl;have x14:((op:Int)==14)=false:=zB (by omega)
  have Xw:((op:Int)==13)=false:=zB (by omega)
  have x15:((op:Int)==15)=false:=zB (by omega)
  have Oy:(7:Int)<=(op:Int):=by omega
  have zA6:¬(op:Int)<=(12:Int):=by omega
  have x1:((op:Int)==1)=false:=zB (by omega)
  have x2:((op:Int)==2)=false:=zB (by omega)
  have Y9:(3:Int)<=(op:Int):=by omega
  have yop5:¬(op:Int)<=(5:Int):=by omega
  have x6:((op:Int)==6)=false:=zB (by omega)
  clear h
  go_enter Try.func82,Try.ntmps82
  go_wp2
  go_ret
  exact⟨rfl,rfl⟩
theorem DV (n sc:Nat) (hn:n<=9223372036854775807) (hsc:sc<=14) (w:World):Calls Try.prog 94 #[.int .i64 n,.int .i64 sc] w fun e w'=>∃S:ByteArray,e=.returned (.string S)/\S.size=iW n sc/\Below w.heap.size w w':=by
 have HD:Hid (∀(m:Nat) (W:World),m<=9223372036854775807->Calls Try.prog 64 #[.int .i64 m] W fun e w'=>e=.returned (.string (bytes (Lib.itoa m)))/\Below W.heap.size W w'):=zH fun m W hm=>zy m ⟨by omega,by omega⟩ W
 have HPW:Hid (∀i,i<=14->10^i<=100000000000000/\1<=10^i):=zH fun i hi=>by
  match i,hi with
  |0,_|1,_|2,_|3,_|4,_|5,_|6,_|7,_|8,_|9,_|10,_|11,_|12,_|13,_|14,_=>decide
 have HN:=zH hn;clear hn
 go_enter Try.func94,Try.ntmps94
 go_wp2_with fail
 go_loopw[5,6] (fun t i wr=>∃(k T:Nat),k<=sc/\Hid (T=10^k)/\t=.int .i64 T/\i=.int .i64 k/\w=wr) (fun _ i _=>sc-(intOf i).toNat)
 case atStart=>exact⟨0,1,Nat.zero_le _,zH rfl,rfl,rfl,rfl⟩
 case round=>
  obtain⟨k,T,hk,HT,rfl,rfl,rfl⟩:=hrel
  by_cases hlt:k<sc
  ·as_aux_lemma=>
   have hT:T*10<=100000000000000:=by
    have h1:=(HPW.out (k+1) (by omega)).1;rw[Nat.pow_succ,<-HT.out]at h1;exact h1
   have HT2:Hid (T*10=10^(k+1)):=zH (by rw[Nat.pow_succ,<-HT.out]);clear HT;go_wp2
   go_roundw
   case rel=>exact⟨k+1,T*10,by omega,HT2,by go_num,by go_num,by trivial⟩
   case measure=>simp[intOf];omega
  ·obtain rfl:k=sc:=by omega
   have hT1:1<=T/\T<=100000000000000:=by have:=HPW.out k hsc;rw[<-HT.out]at this;omega
   have htd:Int.tdiv (n:Int) (T:Int)=((n/T:Nat):Int):=by rw[Int.ofNat_tdiv]
   have FC:Int.tmod (n:Int) (T:Int)=((n%T:Nat):Int):=by rw[Int.ofNat_tmod]
   have hTn:(T:Int)≠0:=by omega
   have hTnb:((T:Int)==0)=false:=zB (by omega)
   have hq:n/T<=9223372036854775807:=Nat.le_trans (Nat.div_le_self _ _) HN.out;have hr:n%T<=9223372036854775807:=Nat.le_trans (Nat.mod_le _ _) HN.out;have Oz:Hid (iU (n%T)=(bytes (Lib.itoa ((n%T:Nat):Int))).size):=zH rfl;have HQT:Hid (iU (n/T)=(bytes (Lib.itoa ((n/T:Nat):Int))).size):=zH rfl;have HDR:=zH (fun W=>HD.out (n%T) W hr);have HDQ:=zH (fun W=>HD.out (n/T) W hq);have hlr:=sG (n%T) hr;have hlq:=sG (n/T) hq;have Pq:Hid (iW n k=iU (n/T)+1+max k (iU (n%T))):=zH (by unfold iW;rw[HT.out]);clear HD HPW HT;generalize n/T=q at *;generalize n%T=r at *;have hqw:wrap64 (q:Int)=(q:Int):=(by unfold wrap64;omega)
   clear hT1 hq hr;go_wp2_with fail
   refine(HDR.out w).mono ?_;rintro e w2 ⟨rfl,hb2⟩;obtain⟨D,hD⟩:∃D,bytes (Lib.itoa (r:Int))=D:=⟨_,rfl⟩
   have hrt:=Oz.out;rw[hD]at hrt⊢;have Za:Hid (D.size=iU r):=zH hrt.symm;clear Oz HDR hD hrt;generalize iU r=lr at *;have HB2:=zH hb2;clear hb2;go_wp2_with fail
   go_loopw[7] (fun d wr=>∃S:ByteArray,d=.string S/\Hid (lr<=S.size/\(S.size=lr\/S.size<=k))/\w2=wr) (fun d _=>match d with|.string S=>k-S.size|_=>0)
   case atStart=>exact⟨D,rfl,zH ⟨by rw[Za.out];exact Nat.le_refl _,.inl Za.out⟩,rfl⟩
   case round=>
    clear Za;obtain⟨S,rfl,HS,rfl⟩:=hrel
    by_cases hlt:S.size<k
    ·as_aux_lemma=>
     have QA:(S.size:Int)<(k:Int):=by omega
     have hsum:¬9223372036854775807<1+S.size:=by omega
     have hsz:((⟨#[48]⟩:ByteArray)++S).size=S.size+1:=by rw[ByteArray.size_append];show 1+S.size=_;omega
     have HS2:Hid (lr<=((⟨#[48]⟩:ByteArray)++S).size/\(((⟨#[48]⟩:ByteArray)++S).size=lr\/((⟨#[48]⟩:ByteArray)++S).size<=k)):=zH (by rw[hsz];have:=HS.out;omega);go_wp2
     go_roundw
     case rel=>exact⟨_,rfl,HS2,by trivial⟩
     case measure=>
      show k-((⟨#[48]⟩:ByteArray)++S).size<k-S.size
      rw[hsz];omega
    ·as_aux_lemma=>
     have QA:¬(S.size:Int)<(k:Int):=by omega
     have hss:S.size=max k lr:=by have:=HS.out;omega
     have HSS:=zH hss;have hs20:S.size<=20:=by omega
     clear hlt HS hss;go_wp2_with fail
     refine(HDQ.out _).mono ?_;rintro e w4 ⟨rfl,hb4⟩;obtain⟨D2,hD2⟩:∃D,bytes (Lib.itoa (q:Int))=D:=⟨_,rfl⟩
     have hqt:=HQT.out;rw[hD2]at hqt⊢;have hd20:D2.size<=20:=by omega
     have HQS:=zH hqt;clear hqt hD2 HQT HDQ;have h1:(D2++(⟨#[46]⟩:ByteArray)).size=D2.size+1:=by rw[ByteArray.size_append];rfl
     have hsum1:¬9223372036854775807<D2.size+1:=by omega
     have zAs:¬9223372036854775807<D2.size+1+S.size:=by omega
     have hsum3:¬9223372036854775807<(D2++(⟨#[46]⟩:ByteArray)).size+S.size:=by omega
     have HB:=zH (HB2.out.trans (hb4.mono HB2.out.size));clear hb4;go_wp2
     go_ret
     exact⟨_,rfl,by rw[ByteArray.size_append,ByteArray.size_append,Pq.out,HQS.out,HSS.out];rfl,HB.out⟩
end Go.Proofs.Ytbjnhllkdilpfaa
