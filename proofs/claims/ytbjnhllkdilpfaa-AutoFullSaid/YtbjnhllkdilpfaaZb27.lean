/- Part 27 of the proof. No conditions. -/
import Derived.Test.YtbjnhllkdilpfaaZb26
namespace Go.Proofs.Ytbjnhllkdilpfaa
open Go.RowKit
set_option linter.unusedSimpArgs false
set_option linter.unusedVariables false
set_option maxRecDepth 10000
def jM (M:Nat):Nat:=M/2048+if 1024<M%2048\/(M%2048=1024/\M/2048%2=1)then 1 else 0
theorem Dy {m:Nat} (h0:m≠0) (h:m<=9223372036854775808):m.log2<=63/\2^m.log2<=m/\m<2^(m.log2+1):=by
 refine⟨?_,Nat.log2_self_le h0,Nat.lt_log2_self⟩;have:m.log2<64:=(Nat.log2_lt h0).2 (by omega);omega
theorem shifted {m:Nat} (h0:m≠0) (h:m<=9223372036854775808):9223372036854775808<=m*2^(63-m.log2)/\m*2^(63-m.log2)<18446744073709551616:=by
 obtain⟨h1,h2,h3⟩:=Dy h0 h
 constructor
 ·have:=Nat.mul_le_mul_right (2^(63-m.log2)) h2;rw[<-Nat.pow_add,show m.log2+(63-m.log2)=63 by omega]at this;exact this
 ·have:=Nat.mul_lt_mul_of_pos_right h3 (Nat.two_pow_pos (63-m.log2));rw[<-Nat.pow_add,show m.log2+1+(63-m.log2)=64 by omega]at this;exact this
theorem Ru (neg:Bool) (n:Nat):Ieee.Toward.even.cut neg n 0=n:=by
 unfold Ieee.Toward.cut;simp[Nat.mod_one]
theorem Oy (neg:Bool) (m d:Nat) (hd:d<=m.log2+2):Ieee.Toward.even.cut neg m d=m/2^d+if 2^d<2*(m%2^d)\/(2^d=2*(m%2^d)/\m/2^d%2=1)then 1 else 0:=by
 unfold Ieee.Toward.cut;rw[Nat.min_eq_left hd,Nat.one_shiftLeft];simp only
 congr 1
 by_cases h1:2^d<2*(m%2^d)
 ·rw[if_pos (.inl h1)];simp[h1]
 ·by_cases h2:2^d=2*(m%2^d)/\m/2^d%2=1
  ·rw[if_pos (.inr h2)];simp[h1,h2.2,<-h2.1]
  ·rw[if_neg (fun h=>h.elim h1 h2)]
   by_cases h3:2^d=2*(m%2^d)
   ·have:¬m/2^d%2=1:=fun h=>h2 ⟨h3,h⟩
    simp[h1,this]
   ·simp[h1,h3]
theorem kept {m : Nat} (neg : Bool) (h0 : m ≠ 0) (h : m ≤ 9223372036854775808) :
  Ieee.Toward.even.cut neg (m <<< (0-((m.log2:Int)-52)).toNat) ((m.log2:Int)-52-0).toNat=jM (m*2^(63-m.log2)):=by
 obtain⟨h1,h2,h3⟩:=Dy h0 h;unfold jM
 by_cases hl:m.log2<=52
 ·rw[show((m.log2:Int)-52-0).toNat=0 by omega,show(0-((m.log2:Int)-52)).toNat=52-m.log2 by omega,Ru,Nat.shiftLeft_eq]
  have e:m*2^(63-m.log2)=m*2^(52-m.log2)*2048:=by
   rw[show 63-m.log2=(52-m.log2)+11 by omega,Nat.pow_add,<-Nat.mul_assoc]
  rw[e,Nat.mul_mod_left,Nat.mul_div_cancel _ (by decide)];simp
 ·have hs:(0-((m.log2:Int)-52)).toNat=0:=by omega
  rw[hs,Nat.shiftLeft_zero,show((m.log2:Int)-52-0).toNat=m.log2-52 by omega,Oy _ _ _ (by omega)]
  have e:2048=2^(m.log2-52)*2^(63-m.log2):=by
   rw[<-Nat.pow_add,show m.log2-52+(63-m.log2)=11 by omega]
  have hp:=Nat.two_pow_pos (63-m.log2);have e1:m*2^(63-m.log2)/2048=m/2^(m.log2-52):=by rw[e];exact Nat.mul_div_mul_right _ _ hp
  have e2:m*2^(63-m.log2)%2048=m%2^(m.log2-52)*2^(63-m.log2):=by rw[e];exact Nat.mul_mod_mul_right _ _ _
  rw[e1,e2];generalize 2^(m.log2-52)=D at *;generalize 2^(63-m.log2)=K at *;generalize m%D=r at *
  have c1:1024<r*K<->D<2*r:=by
   constructor
   ·intro h;have:D*K<2*r*K:=by rw[<-e,Nat.mul_assoc];omega
    exact Nat.lt_of_mul_lt_mul_right this
   ·intro h;have:=Nat.mul_lt_mul_of_pos_right h hp;rw[<-e,Nat.mul_assoc]at this;omega
  have c2:r*K=1024<->D=2*r:=by
   constructor
   ·intro h;have:D*K=2*r*K:=by rw[<-e,Nat.mul_assoc];omega
    exact Nat.eq_of_mul_eq_mul_right hp this
   ·intro h;have:D*K=2*r*K:=by rw[h]
    rw[<-e,Nat.mul_assoc]at this;omega
  simp only[c1,c2]
theorem Oz {M:Nat} (h1:9223372036854775808<=M) (h2:M<18446744073709551616):4503599627370496<=jM M/\jM M<=9007199254740992:=by
 unfold jM
 split<;>omega
def FH (n:Int):Nat:=if n<0 then 9223372036854775808 else 0
theorem Il:ofInt 0=0:=by decide
theorem OA {n:Int} (hn:I64 n) (h0:n≠0):ofInt n=FH n+((1022+n.natAbs.log2)*4503599627370496+jM (n.natAbs*2^(63-n.natAbs.log2))):=by
 unfold I64 at hn;have hm:n.natAbs≠0:=by omega
 have hm2:n.natAbs<=9223372036854775808:=by omega
 obtain⟨l1,l2,l3⟩:=Dy hm hm2;obtain⟨s1,s2⟩:=shifted hm hm2;have hb:=Oz s1 s2;have hk:=kept (decide (n<0)) hm hm2
 have e:floatOfInt .f64 n=FH n+((1022+n.natAbs.log2)*4503599627370496+jM (n.natAbs*2^(63-n.natAbs.log2))):=by
  show Ieee.double.nearest (decide (n<0)) n.natAbs 0=_
  unfold Ieee.Format.nearest;have e4:Ieee.double.leastPlace= -1074:=by decide
  have e3:Ieee.double.infRung=9218868437227405312:=by decide
  have e2:Ieee.double.binade=4503599627370496:=by decide
  have e5:Ieee.double.fractionBits=52:=by decide
  have e1:Ieee.double.signWeight=9223372036854775808:=by decide
  rw[if_neg hm,e4,e3,e2,e5];have el:max (0+(n.natAbs.log2:Int)-((52:Nat):Int)) (-1074)=(n.natAbs.log2:Int)-52:=by omega
  simp only[el];rw[hk];generalize jM (n.natAbs*2^(63-n.natAbs.log2))=K at *;have ex:((n.natAbs.log2:Int)-52- -1074).toNat=1022+n.natAbs.log2:=by omega
  rw[ex,Nat.min_eq_left (by omega)];unfold Ieee.Format.word FH;rw[e1]
  by_cases hs:n<0
  ·rw[if_pos (decide_eq_true hs),if_pos hs]
  ·rw[if_neg (by simpa using hs),if_neg hs];omega
 unfold ofInt;rw[e]
 apply BZ
 generalize jM (n.natAbs*2^(63-n.natAbs.log2))=K at *;unfold vX FH
 apply decide_eq_false
 split<;>omega
end Go.Proofs.Ytbjnhllkdilpfaa
namespace Go.Proofs.Ytbjnhllkdilpfaa
open Go.RowKit
set_option linter.unusedSimpArgs false
set_option linter.unusedVariables false
set_option maxHeartbeats 16000000
set_option maxRecDepth 100000
theorem and_one (a:Nat) (h:a<18446744073709551616):bits .and .u64 (a:Int) 1=((a%2:Nat):Int):=by
 have:=u64_and_nat a 1 h (by omega);rw[show((1:Nat):Int)=1 from rfl]at this;rw[this,show 1=2^1-1 from by decide,Nat.and_two_pow_sub_one_eq_mod]
theorem Io (n : Int) (m l : Nat) (hz : (n == 0) = false) (hs : n < 0) (hu : IntKind.u64.wrap (-(IntKind.u64.wrap n)) = (m : Int)) (hl : l ≤ 63)
  (hlo:Hid (∀j,j<63-l->m*2^j<9223372036854775808)) (hhi:Hid (9223372036854775808<=m*2^(63-l)/\m*2^(63-l)<18446744073709551616))
  (w:World):Calls Try.prog 97 #[.int .i64 n] w fun e w'=>e=.returned (.int .u64 (9223372036854775808+((1022+l)*4503599627370496+jM (m*2^(63-l)):Nat)))/\w=w':=by
 go_enter Try.func97,Try.ntmps97
 go_wp2_with fail
 clear hu hz hs
 go_loop[3,5] (fun a e=>∃j:Nat,j<=63-l/\a=.int .u64 (m*2^j:Nat)/\e=.int .i64 (63-j)) (fun _ e=>(intOf e).toNat)
 case atStart=>exact⟨0,Nat.zero_le _,by simp,rfl⟩
 case round=>
  obtain⟨j,hj,rfl,rfl⟩:=hrel
  by_cases hlt:j<63-l
  ·have hb:=hlo.out j hlt;have hs:m*2^(j+1)=m*2^j*2:=by rw[Nat.pow_succ,Nat.mul_assoc]
   have HS:=zH hs;clear hs;generalize m*2^j=M at *;have g1:((M:Int)/9223372036854775808==0)=true:=by rw[beq_iff_eq];omega
   have HB:=zH hb;clear hb;go_wp2_with fail
   have hb:=HB.out
   go_round
   case rel=>
    refine⟨j+1,by omega,?_,xY (by omega)⟩;rw[HS.out];exact xY (by first|(push_cast;omega)|(rw[IntKind.wrap_u64];push_cast;omega))
   case measure=>simp[intOf];omega
  ·have hj':j=63-l:=by omega
   subst hj';have hb:=hhi.out;generalize hM:m*2^(63-l)=M at *;have HM:=zH hM;clear hM;have g1:((M:Int)/9223372036854775808==0)=false:=by rw[beq_eq_false_iff_ne];omega
   have g2:=zC M hb.2;have g3:=and_one (M/2048) (by omega);rw[show((M/2048:Nat):Int)=(M:Int)/2048 from by omega]at g3;clear hb;go_wp2_with fail
   all_goals go_ret
   all_goals(refine⟨fC ?_,rfl⟩)
   all_goals have hb:=hhi.out
   all_goals rw[HM.out]
   all_goals(try simp only[beq_iff_eq,beq_eq_false_iff_ne,ne_eq]at *)
   all_goals unfold jM
   all_goals(try rw[if_pos (by omega)])
   all_goals(try rw[if_neg (by omega)])
   all_goals(simp only[IntKind.wrap_u64];push_cast;omega)
theorem Ip (n : Int) (m l : Nat) (hz : (n == 0) = false) (hs : 0 < n) (hu : IntKind.u64.wrap n = (m : Int)) (hl : l ≤ 63)
  (hlo:Hid (∀j,j<63-l->m*2^j<9223372036854775808)) (hhi:Hid (9223372036854775808<=m*2^(63-l)/\m*2^(63-l)<18446744073709551616))
  (w:World):Calls Try.prog 97 #[.int .i64 n] w fun e w'=>e=.returned (.int .u64 (0+((1022+l)*4503599627370496+jM (m*2^(63-l)):Nat)))/\w=w':=by
 go_enter Try.func97,Try.ntmps97
 go_wp2_with fail
 clear hu hz hs
 go_loop[3,5] (fun a e=>∃j:Nat,j<=63-l/\a=.int .u64 (m*2^j:Nat)/\e=.int .i64 (63-j)) (fun _ e=>(intOf e).toNat)
 case atStart=>exact⟨0,Nat.zero_le _,by simp,rfl⟩
 case round=>
  obtain⟨j,hj,rfl,rfl⟩:=hrel
  by_cases hlt:j<63-l
  ·have hb:=hlo.out j hlt;have hs:m*2^(j+1)=m*2^j*2:=by rw[Nat.pow_succ,Nat.mul_assoc]
   have HS:=zH hs;clear hs;generalize m*2^j=M at *;have g1:((M:Int)/9223372036854775808==0)=true:=by rw[beq_iff_eq];omega
   have HB:=zH hb;clear hb;go_wp2_with fail
   have hb:=HB.out
   go_round
   case rel=>
    refine⟨j+1,by omega,?_,xY (by omega)⟩;rw[HS.out];exact xY (by first|(push_cast;omega)|(rw[IntKind.wrap_u64];push_cast;omega))
   case measure=>simp[intOf];omega
  ·have hj':j=63-l:=by omega
   subst hj';have hb:=hhi.out;generalize hM:m*2^(63-l)=M at *;have HM:=zH hM;clear hM;have g1:((M:Int)/9223372036854775808==0)=false:=by rw[beq_eq_false_iff_ne];omega
   have g2:=zC M hb.2;have g3:=and_one (M/2048) (by omega);rw[show((M/2048:Nat):Int)=(M:Int)/2048 from by omega]at g3;clear hb;go_wp2_with fail
   all_goals go_ret
   all_goals(refine⟨fC ?_,rfl⟩)
   all_goals have hb:=hhi.out
   all_goals rw[HM.out]
   all_goals(try simp only[beq_iff_eq,beq_eq_false_iff_ne,ne_eq]at *)
   all_goals unfold jM
   all_goals(try rw[if_pos (by omega)])
   all_goals(try rw[if_neg (by omega)])
   all_goals(simp only[IntKind.wrap_u64];push_cast;omega)
theorem zD (n:Int) (hn:I64 n) (w:World):Calls Try.prog 97 #[.int .i64 n] w fun e w'=>e=.returned (.int .u64 (ofInt n:Nat))/\w=w':=by
 by_cases h0:n=0
 ·subst h0;rw[Il]
  go_enter Try.func97,Try.ntmps97
  go_wp2_with fail
  go_ret
  exact⟨rfl,rfl⟩
 have hm:n.natAbs≠0:=by omega
 have hn':=hn;unfold I64 at hn';have hm2:n.natAbs<=9223372036854775808:=by omega
 obtain⟨l1,l2,l3⟩:=Dy hm hm2;have hs:=shifted hm hm2
 have lo:∀j,j<63-n.natAbs.log2->n.natAbs*2^j<9223372036854775808:=by
  intro j hj;have h1:n.natAbs*2^(j+1)<=n.natAbs*2^(63-n.natAbs.log2):=Nat.mul_le_mul_left _ (Nat.pow_le_pow_right (by decide) (by omega));rw[Nat.pow_succ,<-Nat.mul_assoc]at h1;omega
 have e:=OA hn h0;rw[e];unfold FH
 by_cases hneg:n<0
 ·rw[if_pos hneg];exact Io n n.natAbs n.natAbs.log2 (beq_eq_false_iff_ne.2 h0) hneg (by rw[IntKind.wrap_u64,IntKind.wrap_u64];omega) l1 (zH lo) (zH hs) w
 ·rw[if_neg hneg];exact Ip n n.natAbs n.natAbs.log2 (beq_eq_false_iff_ne.2 h0) (by omega) (by rw[IntKind.wrap_u64];omega) l1 (zH lo) (zH hs) w
def Bi:Nat->Nat
 |0=>4607182418800017408
 |k+1=>FD .mul (bH (Bi k)) (bH (ofInt 10))
theorem Rw:∀k,Bi k<18446744073709551616
 |0=>by decide
 |k+1=>Ou _ _ _
def xP (n sc:Nat):Nat×Bool:=if 1000000000000000<=n\/15<sc then(0,false)else(FD .quo (bH (ofInt n)) (bH (Bi sc)),true)
theorem Rx (n sc:Nat):(xP n sc).1<18446744073709551616:=by
 unfold xP
 split
 ·decide
 ·exact Ou _ _ _
theorem OB (n sc:Nat) (hn:n<=9223372036854775807) (hs:sc<=1000) (w:World):Calls Try.prog 88 #[.int .i64 n,.int .i64 sc] w fun e w'=>e=.returned (.tuple #[.int .u64 ((xP n sc).1:Nat),.bool (xP n sc).2])/\Below w.heap.size w w':=by
 have hn0:((n:Int)<0)=False:=by simp
 by_cases hbig:1000000000000000<=n
 ·have hg:decide ((1000000000000000:Int)<=(n:Int))=true:=decide_eq_true (by omega);have hd:xP n sc=(0,false):=by unfold xP;rw[if_pos (.inl hbig)]
  rw[hd];have hl:decide ((n:Int)<0)=false:=decide_eq_false (by omega);clear hn hbig hd hn0;generalize(n:Int)=N at *
  go_enter Try.func88,Try.ntmps88
  go_wp2
  go_ret2
  exact⟨rfl,Below.refl _ _⟩
 ·have hg:decide ((1000000000000000:Int)<=(n:Int))=false:=decide_eq_false (by omega);have hl:decide ((n:Int)<0)=false:=decide_eq_false (by omega);have hOI:∀W:World,Calls Try.prog 97 #[.int .i64 n] W fun e w'=>e=.returned (.int .u64 (ofInt n:Nat))/\W=w':=fun W=>zD (n:Int) (by unfold I64;omega) W
  have VS:∀W:World,Calls Try.prog 97 #[.int .i64 10] W fun e w'=>e=.returned (.int .u64 (ofInt 10:Nat))/\W=w':=fun W=>zD 10 (by unfold I64;omega) W
  by_cases h15:15<sc
  ·have hd:xP n sc=(0,false):=by unfold xP;rw[if_pos (.inr h15)]
   rw[hd];have hI:(15:Int)<(sc:Int):=by omega
   clear hn hbig hd hn0 hOI VS h15;generalize(n:Int)=N at *
   go_enter Try.func88,Try.ntmps88
   go_wp2
   go_ret2
   exact⟨rfl,Below.refl _ _⟩
  ·have hd:xP n sc=(FD .quo (bH (ofInt n)) (bH (Bi sc)),true):=by unfold xP;rw[if_neg (by omega)]
   rw[hd];have hI:¬(15:Int)<(sc:Int):=by omega
   have HOI:=zH hOI;have Zz:=zH VS;have o10:ofInt 10<18446744073709551616:=by decide
   have oN:ofInt n<18446744073709551616:=Ox n;generalize hon:ofInt (n:Int)=on at *;obtain⟨ot,hot⟩:∃z,ofInt 10=z:=⟨_,rfl⟩
   rw[hot]at Zz o10;have HOTT:=zH hot;obtain⟨RES,VT⟩:∃z,FD .quo (bH on) (bH (Bi sc))=z:=⟨_,rfl⟩
   rw[VT];have aK:=zH VT;have HMU:=zH (fun(a:Nat) (ha:a<18446744073709551616) W=>Rq a ot ha o10 W);have HQU:=zH (fun(a:Nat) (ha:a<18446744073709551616) W=>Rt on a oN ha W);have HN:∀k:Nat,FD .mul (bH (Bi k)) (bH ot)=Bi (k+1):=fun k=>by show _=FD .mul (bH (Bi k)) (bH (ofInt 10));rw[HOTT.out]
   have GY:=zH HN;clear hn hbig hd hn0 hOI VS h15 hon hot VT HN;generalize(n:Int)=N at *
   go_enter Try.func88,Try.ntmps88
   go_wp2_with fail
   go_loopw[6,7] (fun d i wr=>∃k dn:Nat,k<=sc/\d=.int .u64 dn/\i=.int .i64 k/\Hid (Bi k=dn)/\Hid (Below w.heap.size w wr)) (fun _ i _=>sc-(intOf i).toNat)
   case atStart=>exact⟨0,_,Nat.zero_le _,rfl,rfl,zH rfl,zH zR⟩
   case round=>
    obtain⟨k,dn,hk,rfl,rfl,HD,HB⟩:=hrel;have hdn:dn<18446744073709551616:=by rw[<-HD.out];exact Rw k
    obtain⟨wo,rfl⟩:∃wo:World,wo=wr:=⟨_,rfl⟩
    by_cases hlt:k<sc
    ·as_aux_lemma=>
     have HM:=zH (HMU.out dn hdn);have HT:=zH (show FD .mul (bH dn) (bH ot)=Bi (k+1) by rw[<-HD.out];exact GY.out k);generalize FD .mul (bH dn) (bH ot)=dm at *;clear HMU HQU GY HD;go_wp2_with fail
     refine(Zz.out wo).mono ?_;rintro r w2 ⟨rfl,hw2⟩;subst hw2;go_wp2_with fail
     refine(HM.out wo).mono ?_;rintro r w2 ⟨rfl,hb2⟩;have HB2:=zH (Below.trans HB.out (hb2.mono (Below.size HB.out)));clear HM hb2 HB;go_wp2_with fail
     go_roundw
     case rel=>exact⟨k+1,dm,by omega,rfl,by go_num,zH HT.out.symm,HB2⟩
     case measure=>simp[intOf];omega
    ·as_aux_lemma=>
     obtain rfl:k=sc:=by omega
     have HQ:=zH (HQU.out dn hdn);have HT:=zH (show FD .quo (bH on) (bH dn)=RES by rw[<-HD.out];exact aK.out);generalize FD .quo (bH on) (bH dn)=dm at *;clear HMU HQU GY HD;go_wp2_with fail
     refine(HOI.out wo).mono ?_;rintro r w2 ⟨rfl,hw2⟩;subst hw2;go_wp2_with fail
     refine(HQ.out wo).mono ?_;rintro r w2 ⟨rfl,hb2⟩;have HB2:=zH (Below.trans HB.out (hb2.mono (Below.size HB.out)));clear HQ hb2 HB;go_wp2_with fail
     go_ret2
     obtain rfl:=HT.out;exact⟨rfl,HB2.out⟩
def yE (x:bu):Nat:=(if x.form=3 then 1 else 0)+x.type.length+(if x.form=2 then 1 else 0)+1+x.name.length
def zQ:Nat->List bu->Nat
 |_,[]=>0
 |i,x::l=>(if 0<i then 2 else 0)+yE x+zQ (i+1) l
def jE (l:List bu):Nat:=4+zQ 0 l+1
def DR (l:List bu):Prop:=∀x∈l,x.type.length<=24/\x.name.length<=24
theorem DT:∀(l:List bu) (i:Nat),DR l->zQ i l<=60*l.length
 |[],i,_=>Nat.le_refl _
 |x::l,i,h=>by
  have h1:=h x (by simp);have h2:=DT l (i+1) fun y hy=>h y (by simp[hy])
  have h3:(if 0<i then 2 else 0)<=2:=by split<;>omega
  have h4:yE x<=1+24+1+1+24:=by
   unfold yE;have a1:(if x.form=3 then 1 else 0)<=1:=by split<;>omega
   have a2:(if x.form=2 then 1 else 0)<=1:=by split<;>omega
   omega
  show(if 0<i then 2 else 0)+yE x+zQ (i+1) l<=60*(l.length+1)
  omega
theorem zS (x:bu):x.cells.length=4:=rfl
theorem KU (l : List bu) (A : Option Addr) (c : Nat) (w : World) (hrd : Rd w w.heap.size A (l.flatMap bu.cells)) (hl : l.length ≤ 8) (hsh : DR l) :
  Calls Try.prog 62 #[.slice A l.length c] w (xm (jE l) w):=by
 have vS:=zH hrd;have hb:=DT l 0 hsh;obtain⟨N,hN⟩:∃N,4+zQ 0 l=N:=⟨_,rfl⟩
 have hN1:jE l=N+1:=by unfold jE;omega
 have hNb:N<=484:=by omega
 unfold xm;rw[hN1];have H0:Hid (4+zQ 0 (l.drop 0)=N):=zH (by rw[List.drop_zero];exact hN);clear hrd hb hN hN1 hsh
 go_enter Try.func62,Try.ntmps62
 go_wp2_with fail
 go_loopw[3,8] (fun s i wr=>∃(k:Nat) (S:ByteArray),k<=l.length/\s=.string S/\i=.int .i64 k/\Hid (S.size+zQ k (l.drop k)=N)/\Hid (Below w.heap.size w wr)) (fun _ i _=>l.length-(intOf i).toNat)
 case atStart=>exact⟨0,_,Nat.zero_le _,rfl,rfl,H0,zH zR⟩
 case round=>
  clear H0;obtain⟨k,S,hk,rfl,rfl,HR,HB⟩:=hrel;obtain⟨wo,rfl⟩:∃wo:World,wo=wr:=⟨_,rfl⟩
  by_cases hlt:k<l.length
  ·as_aux_lemma=>
   obtain⟨g,o,rfl,hg,hc⟩:=vS.out.elem (n:=4) zS (by omega) hlt;have hr:=HR.out;rw[List.drop_eq_getElem_cons hlt]at hr;obtain⟨⟨f,ty,nm,ps⟩,hx⟩:∃z,l[k]=z:=⟨_,rfl⟩
   rw[hx]at hc hr;obtain⟨T,hT⟩:∃T,bytes ty=T:=⟨_,rfl⟩
   obtain⟨M,hM⟩:∃M,bytes nm=M:=⟨_,rfl⟩
   have hTs:ty.length=T.size:=by rw[<-hT,bJ]
   have hMs:nm.length=M.size:=by rw[<-hM,bJ]
   have hr2:S.size+((if 0<k then 2 else 0)+((if f=3 then 1 else 0)+T.size+(if f=2 then 1 else 0)+1+M.size)+zQ (k+1) (l.drop (k+1)))=N:=by
    rw[<-hTs,<-hMs];exact hr
   have hcc:∀(j:Nat) (u:Value),(bu.cells ⟨f,ty,nm,ps⟩)[j]? =some u->wo.cell? ⟨g,o+k*4+j,none⟩=some u:=fun j u h=>(aU HB.out g _ hg).trans (hc j u h)
   have r0:wo.cell? ⟨g,o+k*4,none⟩=some (.int .i64 f):=hcc 0 _ rfl;have r1:wo.cell? ⟨g,o+k*4+1,none⟩=some (.string T):=(hcc 1 _ rfl).trans (by rw[hT]);have r2:wo.cell? ⟨g,o+k*4+2,none⟩=some (.string M):=(hcc 2 _ rfl).trans (by rw[hM]);have r3:wo.cell? ⟨g,o+k*4+3,none⟩=some (.int .i64 ps):=hcc 3 _ rfl;obtain⟨d1,hd1⟩:∃z,(if 0<k then 2 else 0:Nat)=z:=⟨_,rfl⟩
   obtain⟨d2,hd2⟩:∃z,(if f=3 then 1 else 0:Nat)=z:=⟨_,rfl⟩
   obtain⟨d3,hd3⟩:∃z,(if f=2 then 1 else 0:Nat)=z:=⟨_,rfl⟩
   obtain⟨rst,IC⟩:∃z,zQ (k+1) (l.drop (k+1))=z:=⟨_,rfl⟩
   rw[hd1,hd2,hd3,IC]at hr2;have HD1:=zH hd1;have HD2:=zH hd2;have HD3:=zH hd3;have Zy:=zH IC;have Kr:=zH hr2;have hsb:S.size+d1+d2+T.size+d3+1+M.size<=484:=by omega
   clear hcc hc hx hr hr2 hT hM hTs hMs hd1 hd2 hd3 IC HR hg;go_upto_region 5 with fail
   have kb:=Bk.new wo 126 #[.int .i64 f,.string T,.string M,.int .i64 ps];have HB2:=zH (HB.out.alloc HB.out.size (.cells #[.int .i64 f,.string T,.string M,.int .i64 ps] 126));clear r0 r1 r2 r3 HB;generalize wo.alloc (.cells #[.int .i64 f,.string T,.string M,.int .i64 ps] 126)=W5 at *;generalize wo.heap.size=gx at *;obtain⟨q0,q1,q2⟩:=zc3 kb;clear kb;go_upto_if 14 with fail
   go_cut[3] (fun v wx=>∃S':ByteArray,v=.string S'/\Hid (S'.size=S.size+d1)/\W5=wx)
   case first=>
    as_aux_lemma=>
    by_cases hk0:0<k
    ·have hI:(0:Int)<(k:Int):=by omega
     have h2:d1=2:=by rw[<-HD1.out,if_pos hk0]
     have hs:¬9223372036854775807<S.size+2:=by omega
     have HZ:Hid ((S++(⟨#[44,32]⟩:ByteArray)).size=S.size+d1):=zH (by rw[ai,h2];rfl);clear hk0 h2;go_wp2_with fail
     go_meet
     exact⟨_,rfl,HZ,rfl⟩
    ·have hI:¬(0:Int)<(k:Int):=by omega
     have h2:d1=0:=by rw[<-HD1.out,if_neg hk0]
     have HZ:Hid (S.size=S.size+d1):=zH (by omega);clear hk0 h2;go_wp2_with fail
     go_meet
     exact⟨_,rfl,HZ,rfl⟩
   case rest=>
   obtain⟨S1,rfl,yx,hwc⟩:=hcut;subst hwc;have hS1:S1.size=S.size+d1:=yx.out;have hsb1:S1.size+d2+T.size+d3+1+M.size<=484:=by omega
   clear hS1;go_upto_if 19 with fail
   go_cut[3] (fun v wx=>∃S':ByteArray,v=.string S'/\Hid (S'.size=S1.size+d2)/\W5=wx)
   case first=>
    as_aux_lemma=>
    by_cases hk0:f=3
    ·have hI:((f:Int)==3)=true:=by rw[beq_iff_eq];omega
     have h2:d2=1:=by rw[<-HD2.out,if_pos hk0]
     have hs:¬9223372036854775807<S1.size+1:=by omega
     have HZ:Hid ((S1++(⟨#[33]⟩:ByteArray)).size=S1.size+d2):=zH (by rw[ai,h2];rfl);clear hk0 h2;go_wp2_with fail
     go_meet
     exact⟨_,rfl,HZ,rfl⟩
    ·have hI:((f:Int)==3)=false:=by rw[beq_eq_false_iff_ne];omega
     have h2:d2=0:=by rw[<-HD2.out,if_neg hk0]
     have HZ:Hid (S1.size=S1.size+d2):=zH (by omega);clear hk0 h2;go_wp2_with fail
     go_meet
     exact⟨_,rfl,HZ,rfl⟩
   case rest=>
   obtain⟨S2,rfl,HS2,hwc⟩:=hcut;subst hwc;have hS2:S2.size=S1.size+d2:=HS2.out;have hsb2:S2.size+T.size+d3+1+M.size<=484:=by omega
   have hs3:¬9223372036854775807<S2.size+T.size:=by omega
   clear hS2;go_upto_if 28 with fail
   obtain⟨S3,hS3⟩:∃z,S2++T=z:=⟨_,rfl⟩
   have hS3s:S3.size=S2.size+T.size:=by rw[<-hS3,ai]
   have HS3:=zH hS3s;rw[hS3];have hsb3:S3.size+d3+1+M.size<=484:=by omega
   clear hS3 hS3s hs3
   go_cut[3] (fun v wx=>∃S':ByteArray,v=.string S'/\Hid (S'.size=S3.size+d3)/\W5=wx)
   case first=>
    as_aux_lemma=>
    by_cases hk0:f=2
    ·have hI:((f:Int)==2)=true:=by rw[beq_iff_eq];omega
     have h2:d3=1:=by rw[<-HD3.out,if_pos hk0]
     have hs:¬9223372036854775807<S3.size+1:=by omega
     have HZ:Hid ((S3++(⟨#[43]⟩:ByteArray)).size=S3.size+d3):=zH (by rw[ai,h2];rfl);clear hk0 h2;go_wp2_with fail
     go_meet
     exact⟨_,rfl,HZ,rfl⟩
    ·have hI:((f:Int)==2)=false:=by rw[beq_eq_false_iff_ne];omega
     have h2:d3=0:=by rw[<-HD3.out,if_neg hk0]
     have HZ:Hid (S3.size=S3.size+d3):=zH (by omega);clear hk0 h2;go_wp2_with fail
     go_meet
     exact⟨_,rfl,HZ,rfl⟩
   case rest=>
   obtain⟨S4,rfl,IE,hwc⟩:=hcut;subst hwc;have hS4:S4.size=S3.size+d3:=IE.out;have hsb4:S4.size+1+M.size<=484:=by omega
   have hs4:¬9223372036854775807<1+M.size:=by omega
   have hs5:¬9223372036854775807<S4.size+((⟨#[32]⟩:ByteArray)++M).size:=by rw[ai];show¬9223372036854775807<S4.size+(1+M.size);omega
   have hs6:¬9223372036854775807<S4.size+(1+M.size):=by omega
   have HF:Hid ((S4++((⟨#[32]⟩:ByteArray)++M)).size+zQ (k+1) (l.drop (k+1))=N):=zH (by
    rw[ai,ai,Zy.out]
    show S4.size+(1+M.size)+rst=N
    have h1:=yx.out;have h2:=HS2.out;have h3:=HS3.out;have h5:=Kr.out
    omega)
   clear hS4 yx HS2 HS3 IE Kr Zy HD1 HD2 HD3 hsb hsb1 hsb2 hsb3;go_wp2
   go_roundw
   case rel=>exact⟨k+1,_,by omega,rfl,by go_num,HF,HB2⟩
   case measure=>simp[intOf];omega
  ·as_aux_lemma=>
   obtain rfl:k=l.length:=by omega
   have hr:=HR.out;rw[List.drop_eq_nil_of_le zL]at hr;have hr:S.size=N:=by simpa[zQ]using hr
   have hs:¬9223372036854775807<S.size+1:=by omega
   have HZ:Hid ((S++(⟨#[41]⟩:ByteArray)).size=N+1):=zH (by rw[ai,hr];rfl);clear HR hr;go_wp2
   go_ret
   exact⟨_,rfl,HZ.out,HB.out⟩
end Go.Proofs.Ytbjnhllkdilpfaa
