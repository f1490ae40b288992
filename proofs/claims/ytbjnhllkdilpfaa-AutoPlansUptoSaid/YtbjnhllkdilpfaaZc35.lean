/- Part 35 of the proof. No conditions. -/
import Derived.Test.YtbjnhllkdilpfaaZc30
namespace Go.Proofs.Ytbjnhllkdilpfaa
open Go.RowKit
set_option maxRecDepth 100000
set_option maxHeartbeats 16000000
set_option linter.unusedVariables false
set_option linter.unusedSimpArgs false
def kK (op n sc:Nat) (nm a:Str):Option (Nat×Bool×Bool×Bool):=
 if op=6\/(15<=op/\op<=17)then some (1,nm.isEmpty,a.isEmpty,(n==0&&sc==0))
 else if 1<=op/\op<=14 then some (2,nm.isEmpty,a.isEmpty,(n==0&&sc==0))
 else if op=20 then some (0,nm.isEmpty,a.isEmpty,sc==0)
 else if op=21 then some (0,nm.isEmpty,a.isEmpty,(decide (1<=sc)&&decide (sc<=14))&&decide (iW n sc<=16))
 else if op=22 then some (0,nm.isEmpty,a.isEmpty,(n==0||n==1)&&sc==0)
 else if op=23\/op=25 then some (0,nameB nm,a.isEmpty,(n==0&&sc==0))
 else if op=24\/(26<=op/\op<=31)then some (0,nameB nm,nameB a||a==iH,(n==0&&sc==0))
 else none
def kD (op n sc:Nat) (nm a:Str) (k:Nat):Bool:=
 match kK op n sc nm a with
 |none=>false
 |some (m,x,y,z)=>((x&&y)&&z)&&k==m
theorem iL {op n sc k:Nat} {nm a:Str} (h:kK op n sc nm a=none):kD op n sc nm a k=false:=by unfold kD;rw[h]
theorem dX {op n sc k m:Nat} {x y z:Bool} {nm a:Str} (h:kK op n sc nm a=some (m,x,y,z)):kD op n sc nm a k=(((x&&y)&&z)&&k==m):=by unfold kD;rw[h]
def dM:ax->Bool
 |.leaf op n sc nm a _=>kD op n sc nm a 0
 |.un op x _=>kD op 0 0 [] [] 1&&dM x
 |.bin op x y _=>kD op 0 0 [] [] 2&&(dM x&&dM y)
def kF:ax->Prop
 |.leaf _ n _ _ _ _=>n<=9223372036854775807
 |.un _ x _=>kF x
 |.bin _ x y _=>kF x/\kF y
structure zA7 (w:World) (A:Option Addr) (j:Nat) (m:Bool):Prop where
 ex:∃(g:Nat) (d0 d1 d2 d3 d4 d5 d6:Value),A=some ⟨g,0,none⟩/\g<w.heap.size/\(∀(q:Nat) (u:Value),[d0,d1,d2,d3,d4,d5,d6][q]? =some u->w.cell? ⟨g,j*7+q,none⟩=some u)/\
  ∀W:World,Below w.heap.size w W->Calls Try.prog 81 #[.agg #[d0,d1,d2,d3,d4,d5,d6]] W fun r W'=>r=.returned (.bool m)/\Below W.heap.size W W'
theorem right_step (op n sc p : Nat) (S1 S2 : ByteArray) (A : Option Addr) (k cc : Nat) (rs : List Bool) (hk : rs.length = k) (hk2 : k ≤ 2) (hn : n ≤ 9223372036854775807) (w : World) (hcall : ∀ j (hj : j < rs.length), zA7 w A j rs[j]) :
  Calls Try.prog 81 #[.agg #[.int .i64 op,.slice A k cc,.int .i64 n,.int .i64 sc,.string S1,.string S2,.int .i64 p]] w fun r w'=>r=.returned (.bool (kD op n sc S1.toList S2.toList k&&rs.all id))/\Below w.heap.size w w':=by
 have HC:=zH hcall;have tJ:Hid (∀(S:ByteArray) (W:World),Calls Try.prog 77 #[.string S] W fun e w'=>e=.returned (.bool (nameB S.toList))/\Below W.heap.size W w'):=zH fun S W=>nX S W
 have HN:=zH hn;have HK:=zH hk;obtain⟨x0,hx0⟩:∃z,S1.toList.isEmpty=z:=⟨_,rfl⟩
 obtain⟨y0,hy0⟩:∃z,S2.toList.isEmpty=z:=⟨_,rfl⟩
 obtain⟨z0,hz0⟩:∃z,(n==0&&sc==0)=z:=⟨_,rfl⟩
 have HX0:=zH hx0;have UN:=zH hy0;have HZ0:=zH hz0;clear hcall hn hk hx0 hy0 hz0;obtain⟨RES,hres⟩:∃R,(kD op n sc S1.toList S2.toList k&&rs.all id)=R:=⟨_,rfl⟩
 have HTM:Hid True:=zH trivial;rw[hres];have aG:=zH hres;clear hres
 go_enter Try.func81,Try.ntmps81
 have kb:=Bk.new w 118 #[.int .i64 op,.slice A k cc,.int .i64 n,.int .i64 sc,.string S1,.string S2,.int .i64 p];have hb0:Below w.heap.size w (w.alloc (.cells #[.int .i64 op,.slice A k cc,.int .i64 n,.int .i64 sc,.string S1,.string S2,.int .i64 p] 118)):=zR.alloc zL _;go_upto_region 2 with fail
 generalize w.alloc (.cells #[.int .i64 op,.slice A k cc,.int .i64 n,.int .i64 sc,.string S1,.string S2,.int .i64 p] 118)=w0 at *;have hbx:=kb.lt;generalize eU:w.heap.size=bx at *;have HKB:=zH kb;have HB0:=zH hb0;clear kb hb0
 go_cut[4,5] (fun v4 v5 wx=>v4=.bool x0/\v5=.bool y0/\Hid (Below w0.heap.size w0 wx))
 case first=>
  as_aux_lemma=>
  have q4:=HKB.out.cell 4;have q5:=HKB.out.cell 5;have hx:=HX0.out;have hy:=UN.out;cases x0<;>cases y0
  all_goals
   first
   |have hx2:S1.toList=[]:=by simpa using hx
   |have hx2:¬S1.toList=[]:=by simpa using hx
   first
   |have hy2:S2.toList=[]:=by simpa using hy
   |have hy2:¬S2.toList=[]:=by simpa using hy
   go_quiet (fail)
   have Yg:=zH (below_drewN (Below.refl w0.heap.size w0) nq);go_wp2
   go_meet
   exact⟨rfl,rfl,Yg⟩
 case rest=>
 obtain⟨rfl,rfl,HB⟩:=hcut;go_upto_region 3 with fail
 go_cut[6] (fun v6 wx=>v6=.bool z0/\Hid (Below w0.heap.size w0 wx))
 case first=>
  as_aux_lemma=>
  have kq:=HKB.out.old HB.out;have q2:=kq.cell 2;have q3:=kq.cell 3;have hz:=HZ0.out;clear kq
  by_cases hn0:n=0
  ·have n0:((n:Int)==0)=true:=by rw[beq_iff_eq];omega
   have hs0:((sc:Int)==0)=z0:=by
    rw[<-hz,hn0,Bool.eq_iff_iff,beq_iff_eq,Bool.and_eq_true,beq_iff_eq,beq_iff_eq];omega
   clear hn0 hz;cases z0
   all_goals
    go_wp2_with fail
    go_meet
    exact⟨rfl,HB⟩
  ·have n0:((n:Int)==0)=false:=zB (by omega)
   have hz2:z0=false:=by rw[<-hz];simp[hn0]
   subst hz2;clear hn0 hz;go_wp2_with fail
   go_meet
   exact⟨rfl,HB⟩
 case rest=>
 obtain⟨rfl,HB2⟩:=hcut;clear HB;have HB:=HB2;clear HB2;obtain⟨wo,hwo⟩:∃wo:World,wo=wc:=⟨_,rfl⟩
 subst hwo;have kq:=HKB.out.old HB.out;have q0:=kq.cell 0;have q2:=kq.cell 2;have q3:=kq.cell 3;have q4:=kq.cell 4;have q5:=kq.cell 5;clear kq
 go_upto_block 0 with fail
 go_cut[3,4,5,6] (fun v3 v4 v5 v6 wx=>∃(m:Nat) (x y z:Bool),v3=.int .i64 m/\v4=.bool x/\v5=.bool y/\v6=.bool z/\Hid (kK op n sc S1.toList S2.toList=some (m,x,y,z))/\Hid (Below w0.heap.size w0 wx))
 case first=>
  have hcl:(op=6)\/(15<=op/\op<=17)\/((1<=op/\op<=14)/\op≠6)\/(op=20)\/(op=21)\/(op=22)\/(op=23)\/(op=25)\/(op=24)\/(26<=op/\op<=31)\/(op=0)\/(op=18\/op=19)\/(32<=op):=by omega
  rcases hcl with hc|hc|hc|hc|hc|hc|hc|hc|hc|hc|hc|hc|hc
  ·as_aux_lemma=>
   have e6:((op:Int)==6)=true:=by rw[beq_iff_eq];omega
   have hsw:kK op n sc S1.toList S2.toList=some (1,S1.toList.isEmpty,S2.toList.isEmpty,(n==0&&sc==0)):=by
    unfold kK
    (repeat' split)<;>first|rfl|(exfalso;omega)
   rw[HX0.out,UN.out,HZ0.out]at hsw;have jP:=zH hsw;clear hc hsw;go_wp2_with fail
   go_meet
   exact⟨_,_,_,_,rfl,rfl,rfl,rfl,jP,HB⟩
  ·as_aux_lemma=>
   have e6:((op:Int)==6)=false:=zB (by omega)
   have l15:(15:Int)<=(op:Int):=by omega
   have EP:(op:Int)<=(17:Int):=by omega
   have hsw:kK op n sc S1.toList S2.toList=some (1,S1.toList.isEmpty,S2.toList.isEmpty,(n==0&&sc==0)):=by
    unfold kK
    (repeat' split)<;>first|rfl|(exfalso;omega)
   rw[HX0.out,UN.out,HZ0.out]at hsw;have jP:=zH hsw;clear hc hsw;go_wp2_with fail
   go_meet
   exact⟨_,_,_,_,rfl,rfl,rfl,rfl,jP,HB⟩
  ·as_aux_lemma=>
   have e6:((op:Int)==6)=false:=zB (by omega)
   have l15:¬(15:Int)<=(op:Int):=by omega
   have l1:(1:Int)<=(op:Int):=by omega
   have ES:(op:Int)<=(14:Int):=by omega
   have hsw:kK op n sc S1.toList S2.toList=some (2,S1.toList.isEmpty,S2.toList.isEmpty,(n==0&&sc==0)):=by
    unfold kK
    (repeat' split)<;>first|rfl|(exfalso;omega)
   rw[HX0.out,UN.out,HZ0.out]at hsw;have jP:=zH hsw;clear hc hsw;go_wp2_with fail
   go_meet
   exact⟨_,_,_,_,rfl,rfl,rfl,rfl,jP,HB⟩
  ·as_aux_lemma=>
   have e6:((op:Int)==6)=false:=zB (by omega)
   have l15:(15:Int)<=(op:Int):=by omega
   have EP:¬(op:Int)<=(17:Int):=by omega
   have l1:(1:Int)<=(op:Int):=by omega
   have ES:¬(op:Int)<=(14:Int):=by omega
   have e20:((op:Int)==20)=true:=by rw[beq_iff_eq];omega
   have hsw:kK op n sc S1.toList S2.toList=some (0,S1.toList.isEmpty,S2.toList.isEmpty,sc==0):=by
    unfold kK
    (repeat' split)<;>first|rfl|(exfalso;omega)
   rw[HX0.out,UN.out]at hsw;have jP:=zH hsw;clear hc hsw;have hn0:(0:Int)<=(n:Int):=by omega
   have hsI:((sc:Int)==0)=(sc==0):=by rw[Bool.eq_iff_iff,beq_iff_eq,beq_iff_eq];omega
   go_wp2_with fail
   go_meet
   exact⟨_,_,_,_,rfl,rfl,rfl,rfl,jP,HB⟩
  ·as_aux_lemma=>
   have e6:((op:Int)==6)=false:=zB (by omega)
   have l15:(15:Int)<=(op:Int):=by omega
   have EP:¬(op:Int)<=(17:Int):=by omega
   have l1:(1:Int)<=(op:Int):=by omega
   have ES:¬(op:Int)<=(14:Int):=by omega
   have e20:((op:Int)==20)=false:=zB (by omega)
   have e21:((op:Int)==21)=true:=by rw[beq_iff_eq];omega
   have hsw:kK op n sc S1.toList S2.toList=some (0,S1.toList.isEmpty,S2.toList.isEmpty,(decide (1<=sc)&&decide (sc<=14))&&decide (iW n sc<=16)):=by
    unfold kK
    (repeat' split)<;>first|rfl|(exfalso;omega)
   rw[HX0.out,UN.out]at hsw;have jP:=zH hsw;clear hc hsw;have hn0:(0:Int)<=(n:Int):=by omega
   by_cases h1:1<=sc
   ·have h1I:(1:Int)<=(sc:Int):=by omega
    by_cases Us:sc<=14
    ·have h14I:(sc:Int)<=(14:Int):=by omega
     have xm:=zH (DV n sc HN.out Us wo)
     by_cases hp:iW n sc<=16
     ·have jD:=jP.out;simp only[decide_eq_true h1,decide_eq_true Us,decide_eq_true hp,Bool.and_true,Bool.and_false,Bool.true_and]at jD;have xW:=zH jD;have HP:=zH hp;clear jP jD hp h1 Us;go_wp2_with fail
      refine xm.out.mono ?_;rintro r w4 ⟨S,rfl,hS,hb4⟩;have hSI:decide ((S.size:Int)<=(16:Int))=true:=by have:=HP.out;simp;omega
      have HB2:=zH (HB.out.trans (hb4.mono HB.out.size));clear hS hb4 xm;go_wp2_with fail
      go_meet
      exact⟨_,_,_,_,rfl,rfl,rfl,rfl,xW,HB2⟩
     ·have jD:=jP.out;simp only[decide_eq_true h1,decide_eq_true Us,decide_eq_false hp,Bool.and_true,Bool.and_false,Bool.true_and]at jD;have xW:=zH jD;have HP:=zH hp;clear jP jD hp h1 Us;go_wp2_with fail
      refine xm.out.mono ?_;rintro r w4 ⟨S,rfl,hS,hb4⟩;have hSI:decide ((S.size:Int)<=(16:Int))=false:=by have:=HP.out;simp;omega
      have HB2:=zH (HB.out.trans (hb4.mono HB.out.size));clear hS hb4 xm;go_wp2_with fail
      go_meet
      exact⟨_,_,_,_,rfl,rfl,rfl,rfl,xW,HB2⟩
    ·have hI:¬(sc:Int)<=(14:Int):=by omega
     have jD:=jP.out;simp only[decide_eq_false Us,Bool.and_false,Bool.false_and]at jD;have xW:=zH jD;clear jP jD Us h1;go_wp2_with fail
     go_meet
     exact⟨_,_,_,_,rfl,rfl,rfl,rfl,xW,HB⟩
   ·have hI:¬(1:Int)<=(sc:Int):=by omega
    have jD:=jP.out;simp only[decide_eq_false h1,Bool.and_false,Bool.false_and]at jD;have xW:=zH jD;clear jP jD h1;go_wp2_with fail
    go_meet
    exact⟨_,_,_,_,rfl,rfl,rfl,rfl,xW,HB⟩
  ·as_aux_lemma=>
   have e6:((op:Int)==6)=false:=zB (by omega)
   have l15:(15:Int)<=(op:Int):=by omega
   have EP:¬(op:Int)<=(17:Int):=by omega
   have l1:(1:Int)<=(op:Int):=by omega
   have ES:¬(op:Int)<=(14:Int):=by omega
   have e20:((op:Int)==20)=false:=zB (by omega)
   have e21:((op:Int)==21)=false:=zB (by omega)
   have e22:((op:Int)==22)=true:=by rw[beq_iff_eq];omega
   have hsw:kK op n sc S1.toList S2.toList=some (0,S1.toList.isEmpty,S2.toList.isEmpty,(n==0||n==1)&&sc==0):=by
    unfold kK
    (repeat' split)<;>first|rfl|(exfalso;omega)
   rw[HX0.out,UN.out]at hsw;have jP:=zH hsw;clear hc hsw;have hsI:((sc:Int)==0)=(sc==0):=by rw[Bool.eq_iff_iff,beq_iff_eq,beq_iff_eq];omega
   have hn3:n=0\/n=1\/2<=n:=by omega
   rcases hn3 with hn3|hn3|hn3
   ·have n0:((n:Int)==0)=true:=by rw[beq_iff_eq];omega
    have jD:=jP.out;have hv:(n==0||n==1)=true:=by simp[hn3]
    rw[hv]at jD;simp only[Bool.true_and,Bool.false_and]at jD;have xW:=zH jD;clear jP jD hn3 hv;go_wp2_with fail
    go_meet
    exact⟨_,_,_,_,rfl,rfl,rfl,rfl,xW,HB⟩
   ·have n0:((n:Int)==0)=false:=zB (by omega)
    have n1:((n:Int)==1)=true:=by rw[beq_iff_eq];omega
    have jD:=jP.out;have hv:(n==0||n==1)=true:=by simp[hn3]
    rw[hv]at jD;simp only[Bool.true_and,Bool.false_and]at jD;have xW:=zH jD;clear jP jD hn3 hv;go_wp2_with fail
    go_meet
    exact⟨_,_,_,_,rfl,rfl,rfl,rfl,xW,HB⟩
   ·have n0:((n:Int)==0)=false:=zB (by omega)
    have n1:((n:Int)==1)=false:=zB (by omega)
    have jD:=jP.out;have hv:(n==0||n==1)=false:=by rw[Bool.or_eq_false_iff,beq_eq_false_iff_ne,beq_eq_false_iff_ne];omega
    rw[hv]at jD;simp only[Bool.true_and,Bool.false_and]at jD;have xW:=zH jD;clear jP jD hn3 hv;go_wp2_with fail
    go_meet
    exact⟨_,_,_,_,rfl,rfl,rfl,rfl,xW,HB⟩
  ·as_aux_lemma=>
   have e6:((op:Int)==6)=false:=zB (by omega)
   have l15:(15:Int)<=(op:Int):=by omega
   have EP:¬(op:Int)<=(17:Int):=by omega
   have l1:(1:Int)<=(op:Int):=by omega
   have ES:¬(op:Int)<=(14:Int):=by omega
   have e20:((op:Int)==20)=false:=zB (by omega)
   have e21:((op:Int)==21)=false:=zB (by omega)
   have e22:((op:Int)==22)=false:=zB (by omega)
   have e23:((op:Int)==23)=true:=by rw[beq_iff_eq];omega
   have hsw:kK op n sc S1.toList S2.toList=some (0,nameB S1.toList,S2.toList.isEmpty,(n==0&&sc==0)):=by
    unfold kK
    (repeat' split)<;>first|rfl|(exfalso;omega)
   rw[UN.out,HZ0.out]at hsw;have jP:=zH hsw;clear hc hsw;go_wp2_with fail
   refine(tJ.out S1 _).mono ?_;rintro r w4 ⟨rfl,hb4⟩;have HB2:=zH (HB.out.trans (hb4.mono HB.out.size));clear hb4;go_wp2_with fail
   go_meet
   exact⟨_,_,_,_,rfl,rfl,rfl,rfl,jP,HB2⟩
  ·as_aux_lemma=>
   have e6:((op:Int)==6)=false:=zB (by omega)
   have l15:(15:Int)<=(op:Int):=by omega
   have EP:¬(op:Int)<=(17:Int):=by omega
   have l1:(1:Int)<=(op:Int):=by omega
   have ES:¬(op:Int)<=(14:Int):=by omega
   have e20:((op:Int)==20)=false:=zB (by omega)
   have e21:((op:Int)==21)=false:=zB (by omega)
   have e22:((op:Int)==22)=false:=zB (by omega)
   have e23:((op:Int)==23)=false:=zB (by omega)
   have e25:((op:Int)==25)=true:=by rw[beq_iff_eq];omega
   have hsw:kK op n sc S1.toList S2.toList=some (0,nameB S1.toList,S2.toList.isEmpty,(n==0&&sc==0)):=by
    unfold kK
    (repeat' split)<;>first|rfl|(exfalso;omega)
   rw[UN.out,HZ0.out]at hsw;have jP:=zH hsw;clear hc hsw;go_wp2_with fail
   refine(tJ.out S1 _).mono ?_;rintro r w4 ⟨rfl,hb4⟩;have HB2:=zH (HB.out.trans (hb4.mono HB.out.size));clear hb4;go_wp2_with fail
   go_meet
   exact⟨_,_,_,_,rfl,rfl,rfl,rfl,jP,HB2⟩
  ·
   have e6:((op:Int)==6)=false:=zB (by omega)
   have l15:(15:Int)<=(op:Int):=by omega
   have EP:¬(op:Int)<=(17:Int):=by omega
   have l1:(1:Int)<=(op:Int):=by omega
   have ES:¬(op:Int)<=(14:Int):=by omega
   have e20:((op:Int)==20)=false:=zB (by omega)
   have e21:((op:Int)==21)=false:=zB (by omega)
   have e22:((op:Int)==22)=false:=zB (by omega)
   have e23:((op:Int)==23)=false:=zB (by omega)
   have e25:((op:Int)==25)=false:=zB (by omega)
   have e24:((op:Int)==24)=true:=by rw[beq_iff_eq];omega
   have hsw:kK op n sc S1.toList S2.toList=some (0,nameB S1.toList,nameB S2.toList||S2.toList==iH,(n==0&&sc==0)):=by
    unfold kK
    (repeat' split)<;>first|rfl|(exfalso;omega)
   rw[HZ0.out]at hsw;have jP:=zH hsw;clear hc hsw;go_upto_region 18 with fail
   have htmx:=HTM.out;obtain⟨tm,FC⟩:∃z,(S2.toList==[84,73,77,69])=z:=⟨_,rfl⟩
   obtain⟨W,hW⟩:∃W,wo=W:=⟨_,rfl⟩
   subst hW
   refine wx (fun k => false) [.is (.pointer (some ⟨bx, 4, none⟩)),
     .is (.string S1),
     .is (.bool (nameB S1.toList)),
     .is (.pointer (some ⟨bx,5,none⟩)),
     .is (.string S2),
     .is (.bool (nameB S2.toList)),
     .is (.bool (nameB S2.toList)),
     .is (bif (true&&((nameB S2.toList)==false))then .pointer (some ⟨bx,5,none⟩)else undef),
     .is (bif (true&&((nameB S2.toList)==false))then .string S2 else undef),
     .is (bif (true&&((nameB S2.toList)==false))then .bool tm else undef),
     .is (.bool ((nameB S2.toList)||tm)),
     .is (.bool (nameB S1.toList)),
     .is (.bool ((nameB S2.toList)||tm))] [2,5,7,8,9,10] (by kernel_rfl) (by kernel_rfl) (by kernel_rfl)
     (fun C=>.c (px C rfl (fun _ _=>rfl)) <|
     .c (px C rfl (fun _ h=>bW (Gf (bc h q4)))) <|
     .c (pz [1] [] (by kernel_rfl) fun qK qa wr hB qO qF hK=>?_) <|
     .c (px C rfl (fun _ _=>rfl)) <|
     .c (px C rfl (fun _ h=>bW (Gf (bc h q5)))) <|
     .c (pz [4] [] (by kernel_rfl) fun qK qa wr hB qO qF hK=>?_) <|
     .c (px C rfl (fun _ _=>rfl)) <|
     .c (po [] [1] 6 false rfl rfl rfl (by kernel_rfl) fun hc hP qK qa wr hB qO qF hK=>?_) <|
     .c (po [7] [] 6 false rfl rfl rfl (by kernel_rfl) fun hc hP qK qa wr hB qO qF hK=>?_) <|
     .c (po [8] [] 6 false rfl rfl rfl (by kernel_rfl) fun hc hP qK qa wr hB qO qF hK=>?_) <|
     .c (pz [6,9] [] (by kernel_rfl) fun qK qa wr hB qO qF hK=>?_) <|
     .c (px C rfl (fun _ _=>rfl)) <|
     .c (px C rfl (fun _ _=>rfl)) <| .nil) ?_
   ·have e127:=ay qF.1 rfl rfl;clear qO qF;go_simp
    go_at_call 77
    refine(tJ.out S1 wr).mono ?_;rintro r w9 ⟨rfl,dO⟩;exact hK _ _ dO rfl
   ·have e130:=ay qF.1 rfl rfl;clear qO qF;go_simp
    go_at_call 77
    refine(tJ.out S2 wr).mono ?_;rintro r w9 ⟨rfl,dO⟩;exact hK _ _ dO rfl
   ·have hp:true=true:=rfl;have e1:qa.tmps[1]? =some (.pointer (some ⟨bx,0,none⟩)):=qO.1.trans rfl;clear qO qF;go_simp;exact hK _ _ zR rfl
   ·have hp:true=true:=rfl;have e133:qa.tmps[133]? =some (.pointer (some ⟨bx,5,none⟩)):=fif qF.1 rfl hP rfl;clear qO qF;have hq5:=zE hB q5;go_simp;exact hK _ _ zR rfl
   ·have hp:true=true:=rfl;have e134:qa.tmps[134]? =some (.string S2):=fif qF.1 rfl hP rfl;clear qO qF;go_simp;refine hK _ _ zR ?_
    show(_:Value)=_
    first|rfl|rw[FC]
   ·have Sj:=ay qF.1 rfl rfl;obtain⟨Sm,Sr,r9⟩:=qF.2.1;have r9:Sm=(bif (true&&((nameB S2.toList)==false))then .bool tm else undef):=r9;clear qO qF;rcases(Bool.eq_false_or_eq_true ((nameB S2.toList))).symm with hcc|hcc
    ·rw[hcc]at Sj;have Sr:qa.tmps[135]? =some (.bool (tm)):=(show Sm=.bool (tm)from r9.trans (by(first|rw[hcc]|skip);first|rfl|(rw[hP];rfl)))▸Sr;go_simp;exact hK _ _ zR (by show(_:Value)=_;first|(rw[hcc];first|rfl|(simp;done))|(simp_all;done))
    ·rw[hcc]at Sj;go_simp;exact hK _ _ zR (by show(_:Value)=_;first|(rw[hcc];first|rfl|(simp;done))|(simp_all;done))
   intro qx wr hB hR hS;clear hR hS;simp only[bJ,List.take_succ_cons,List.take_zero,List.drop_succ_cons,List.drop_zero,List.toList_toArray,List.length_cons,List.length_nil,Act.put,List.setIfInBounds_toArray,List.set_cons_zero,List.set_cons_succ];refine zn ?_;have KH:=jP.out;rw[show(S2.toList==iH)=tm from FC]at KH;have Zb:=zH KH;have HB2:=zH (HB.out.trans (hB.mono HB.out.size));clear KH FC hB jP;go_wp2_with fail
   go_meet
   exact⟨_,_,_,_,rfl,rfl,rfl,rfl,Zb,HB2⟩
  ·
   have e6:((op:Int)==6)=false:=zB (by omega)
   have l15:(15:Int)<=(op:Int):=by omega
   have EP:¬(op:Int)<=(17:Int):=by omega
   have l1:(1:Int)<=(op:Int):=by omega
   have ES:¬(op:Int)<=(14:Int):=by omega
   have e20:((op:Int)==20)=false:=zB (by omega)
   have e21:((op:Int)==21)=false:=zB (by omega)
   have e22:((op:Int)==22)=false:=zB (by omega)
   have e23:((op:Int)==23)=false:=zB (by omega)
   have e25:((op:Int)==25)=false:=zB (by omega)
   have e24:((op:Int)==24)=false:=zB (by omega)
   have l26:(26:Int)<=(op:Int):=by omega
   have u31x:(op:Int)<=(31:Int):=by omega
   have hsw:kK op n sc S1.toList S2.toList=some (0,nameB S1.toList,nameB S2.toList||S2.toList==iH,(n==0&&sc==0)):=by
    unfold kK
    (repeat' split)<;>first|rfl|(exfalso;omega)
   rw[HZ0.out]at hsw;have jP:=zH hsw;clear hc hsw;go_upto_region 18 with fail
   have htmx:=HTM.out;obtain⟨tm,FC⟩:∃z,(S2.toList==[84,73,77,69])=z:=⟨_,rfl⟩
   obtain⟨W,hW⟩:∃W,wo=W:=⟨_,rfl⟩
   subst hW
   refine wx (fun k => false) [.is (.pointer (some ⟨bx, 4, none⟩)),
     .is (.string S1),
     .is (.bool (nameB S1.toList)),
     .is (.pointer (some ⟨bx,5,none⟩)),
     .is (.string S2),
     .is (.bool (nameB S2.toList)),
     .is (.bool (nameB S2.toList)),
     .is (bif (true&&((nameB S2.toList)==false))then .pointer (some ⟨bx,5,none⟩)else undef),
     .is (bif (true&&((nameB S2.toList)==false))then .string S2 else undef),
     .is (bif (true&&((nameB S2.toList)==false))then .bool tm else undef),
     .is (.bool ((nameB S2.toList)||tm)),
     .is (.bool (nameB S1.toList)),
     .is (.bool ((nameB S2.toList)||tm))] [2,5,7,8,9,10] (by kernel_rfl) (by kernel_rfl) (by kernel_rfl)
     (fun C=>.c (px C rfl (fun _ _=>rfl)) <|
     .c (px C rfl (fun _ h=>bW (Gf (bc h q4)))) <|
     .c (pz [1] [] (by kernel_rfl) fun qK qa wr hB qO qF hK=>?_) <|
     .c (px C rfl (fun _ _=>rfl)) <|
     .c (px C rfl (fun _ h=>bW (Gf (bc h q5)))) <|
     .c (pz [4] [] (by kernel_rfl) fun qK qa wr hB qO qF hK=>?_) <|
     .c (px C rfl (fun _ _=>rfl)) <|
     .c (po [] [1] 6 false rfl rfl rfl (by kernel_rfl) fun hc hP qK qa wr hB qO qF hK=>?_) <|
     .c (po [7] [] 6 false rfl rfl rfl (by kernel_rfl) fun hc hP qK qa wr hB qO qF hK=>?_) <|
     .c (po [8] [] 6 false rfl rfl rfl (by kernel_rfl) fun hc hP qK qa wr hB qO qF hK=>?_) <|
     .c (pz [6,9] [] (by kernel_rfl) fun qK qa wr hB qO qF hK=>?_) <|
     .c (px C rfl (fun _ _=>rfl)) <|
     .c (px C rfl (fun _ _=>rfl)) <| .nil) ?_
   ·have e127:=ay qF.1 rfl rfl;clear qO qF;go_simp
    go_at_call 77
    refine(tJ.out S1 wr).mono ?_;rintro r w9 ⟨rfl,dO⟩;exact hK _ _ dO rfl
   ·have e130:=ay qF.1 rfl rfl;clear qO qF;go_simp
    go_at_call 77
    refine(tJ.out S2 wr).mono ?_;rintro r w9 ⟨rfl,dO⟩;exact hK _ _ dO rfl
   ·have hp:true=true:=rfl;have e1:qa.tmps[1]? =some (.pointer (some ⟨bx,0,none⟩)):=qO.1.trans rfl;clear qO qF;go_simp;exact hK _ _ zR rfl
   ·have hp:true=true:=rfl;have e133:qa.tmps[133]? =some (.pointer (some ⟨bx,5,none⟩)):=fif qF.1 rfl hP rfl;clear qO qF;have hq5:=zE hB q5;go_simp;exact hK _ _ zR rfl
   ·have hp:true=true:=rfl;have e134:qa.tmps[134]? =some (.string S2):=fif qF.1 rfl hP rfl;clear qO qF;go_simp;refine hK _ _ zR ?_
    show(_:Value)=_
    first|rfl|rw[FC]
   ·have Sj:=ay qF.1 rfl rfl;obtain⟨Sm,Sr,r9⟩:=qF.2.1;have r9:Sm=(bif (true&&((nameB S2.toList)==false))then .bool tm else undef):=r9;clear qO qF;rcases(Bool.eq_false_or_eq_true ((nameB S2.toList))).symm with hcc|hcc
    ·rw[hcc]at Sj;have Sr:qa.tmps[135]? =some (.bool (tm)):=(show Sm=.bool (tm)from r9.trans (by(first|rw[hcc]|skip);first|rfl|(rw[hP];rfl)))▸Sr;go_simp;exact hK _ _ zR (by show(_:Value)=_;first|(rw[hcc];first|rfl|(simp;done))|(simp_all;done))
    ·rw[hcc]at Sj;go_simp;exact hK _ _ zR (by show(_:Value)=_;first|(rw[hcc];first|rfl|(simp;done))|(simp_all;done))
   intro qx wr hB hR hS;clear hR hS;simp only[bJ,List.take_succ_cons,List.take_zero,List.drop_succ_cons,List.drop_zero,List.toList_toArray,List.length_cons,List.length_nil,Act.put,List.setIfInBounds_toArray,List.set_cons_zero,List.set_cons_succ];refine zn ?_;have KH:=jP.out;rw[show(S2.toList==iH)=tm from FC]at KH;have Zb:=zH KH;have HB2:=zH (HB.out.trans (hB.mono HB.out.size));clear KH FC hB jP;go_wp2_with fail
   go_meet
   exact⟨_,_,_,_,rfl,rfl,rfl,rfl,Zb,HB2⟩
  ·as_aux_lemma=>
   have e6:((op:Int)==6)=false:=zB (by omega)
   have l15:¬(15:Int)<=(op:Int):=by omega
   have l1:¬(1:Int)<=(op:Int):=by omega
   have e20:((op:Int)==20)=false:=zB (by omega)
   have e21:((op:Int)==21)=false:=zB (by omega)
   have e22:((op:Int)==22)=false:=zB (by omega)
   have e23:((op:Int)==23)=false:=zB (by omega)
   have e25:((op:Int)==25)=false:=zB (by omega)
   have e24:((op:Int)==24)=false:=zB (by omega)
   have l26:¬(26:Int)<=(op:Int):=by omega
   have hsw:kK op n sc S1.toList S2.toList=none:=by unfold kK;(repeat' split)<;>first|rfl|(exfalso;omega)
   have jP:=zH hsw;have hR:=aG.out;rw[iL jP.out]at hR;have hR:RES=false:=by rw[<-hR];rfl
   subst hR
   have HF:Hid (Below w.heap.size w wo):=zH (by
    rw[eU]
    exact HB0.out.trans (HB.out.mono (by have:=HB0.out.size;omega)))
   clear hc hsw jP aG;go_wp2_with fail
   go_ret
   exact⟨rfl,by first|exact HF.out|(rw[<-eU];exact HF.out)⟩
  ·as_aux_lemma=>
   have e6:((op:Int)==6)=false:=zB (by omega)
   have l15:(15:Int)<=(op:Int):=by omega
   have EP:¬(op:Int)<=(17:Int):=by omega
   have l1:(1:Int)<=(op:Int):=by omega
   have ES:¬(op:Int)<=(14:Int):=by omega
   have e20:((op:Int)==20)=false:=zB (by omega)
   have e21:((op:Int)==21)=false:=zB (by omega)
   have e22:((op:Int)==22)=false:=zB (by omega)
   have e23:((op:Int)==23)=false:=zB (by omega)
   have e25:((op:Int)==25)=false:=zB (by omega)
   have e24:((op:Int)==24)=false:=zB (by omega)
   have l26:¬(26:Int)<=(op:Int):=by omega
   have hsw:kK op n sc S1.toList S2.toList=none:=by unfold kK;(repeat' split)<;>first|rfl|(exfalso;omega)
   have jP:=zH hsw;have hR:=aG.out;rw[iL jP.out]at hR;have hR:RES=false:=by rw[<-hR];rfl
   subst hR
   have HF:Hid (Below w.heap.size w wo):=zH (by
    rw[eU]
    exact HB0.out.trans (HB.out.mono (by have:=HB0.out.size;omega)))
   clear hc hsw jP aG;go_wp2_with fail
   go_ret
   exact⟨rfl,by first|exact HF.out|(rw[<-eU];exact HF.out)⟩
  ·as_aux_lemma=>
   have e6:((op:Int)==6)=false:=zB (by omega)
   have l15:(15:Int)<=(op:Int):=by omega
   have EP:¬(op:Int)<=(17:Int):=by omega
   have l1:(1:Int)<=(op:Int):=by omega
   have ES:¬(op:Int)<=(14:Int):=by omega
   have e20:((op:Int)==20)=false:=zB (by omega)
   have e21:((op:Int)==21)=false:=zB (by omega)
   have e22:((op:Int)==22)=false:=zB (by omega)
   have e23:((op:Int)==23)=false:=zB (by omega)
   have e25:((op:Int)==25)=false:=zB (by omega)
   have e24:((op:Int)==24)=false:=zB (by omega)
   have l26:(26:Int)<=(op:Int):=by omega
   have u31x:¬(op:Int)<=(31:Int):=by omega
   have hsw:kK op n sc S1.toList S2.toList=none:=by unfold kK;(repeat' split)<;>first|rfl|(exfalso;omega)
   have jP:=zH hsw;have hR:=aG.out;rw[iL jP.out]at hR;have hR:RES=false:=by rw[<-hR];rfl
   subst hR
   have HF:Hid (Below w.heap.size w wo):=zH (by
    rw[eU]
    exact HB0.out.trans (HB.out.mono (by have:=HB0.out.size;omega)))
   clear hc hsw jP aG;go_wp2_with fail
   go_ret
   exact⟨rfl,by first|exact HF.out|(rw[<-eU];exact HF.out)⟩
 case rest=>
 obtain⟨m,x,y,z,rfl,rfl,rfl,rfl,jP,HB2⟩:=hcut;clear q0 q2 q3 q4 q5 HB HTM tJ HN HX0 UN HZ0;have hres:=aG.out;rw[dX jP.out]at hres;have kV:=zH hres;clear aG hres jP;obtain⟨bad,hbad⟩:∃w,(!(((x&&y)&&z)&&k==m))=w:=⟨_,rfl⟩
 have HBAD:=zH hbad;clear hbad;have q1:=(HKB.out.old HB2.out).cell 1
 have hkm:((k:Int) !=(m:Int))= !(k==m):=by
  rw[Bool.eq_iff_iff,bne_iff_ne,Bool.not_eq_true',beq_eq_false_iff_ne];omega
 obtain⟨km,Zc⟩:∃z,(k==m)=z:=⟨_,rfl⟩
 rw[Zc]at hkm;have HKM:=zH Zc;clear Zc;go_upto_region 19 with fail
 go_cut[153] (fun v wx=>v=.bool bad/\Hid (Below w0.heap.size w0 wx))
 case first=>
  as_aux_lemma=>
  have hbb:=HBAD.out;rw[HKM.out]at hbb;clear HBAD HKM;cases x<;>cases y<;>cases z<;>cases km
  all_goals
   simp only[Bool.true_and,Bool.false_and,Bool.and_true,Bool.and_false,Bool.not_true,Bool.not_false]at hbb;subst hbb;go_wp2_with fail
   go_meet
   exact⟨rfl,HB2⟩
 case rest=>
 obtain⟨rfl,HB⟩:=hcut;clear HB2 hkm q1;cases bad
 case true=>
  as_aux_lemma=>
  have hb:=HBAD.out;have hR:=kV.out;rw[Bool.not_eq_true']at hb;rw[hb]at hR;have hR:RES=false:=by rw[<-hR];rfl
  subst hR
  have HF:Hid (Below w.heap.size w wc):=zH (by
   rw[eU]
   exact HB0.out.trans (HB.out.mono (by have:=HB0.out.size;omega)))
  clear HBAD kV hb;go_wp2_with fail
  go_ret
  exact⟨rfl,by first|exact HF.out|(rw[<-eU];exact HF.out)⟩
 case false=>
  have hb:=HBAD.out;rw[Bool.not_eq_false']at hb;have hR:=kV.out;rw[hb]at hR;have hR:rs.all id=RES:=by rw[<-hR];rfl
  have HR:=zH hR;have q1:=(HKB.out.old HB.out).cell 1;have HQ1:=zH (HKB.out);clear HBAD kV hb hR HKM;go_wp2_with fail
  clear q1;have HB1:=HB;clear HB
  go_loopw[157] (fun i wr=>∃j:Nat,j<=k/\i=.int .i64 j/\Hid ((rs.drop j).all id=RES)/\Hid (Below w0.heap.size w0 wr)) (fun i _=>k-(intOf i).toNat)
  case atStart=>exact⟨0,Nat.zero_le _,rfl,HR,HB1⟩
  case round=>
   clear HR HB1;obtain⟨j,hj,rfl,HRR,HB⟩:=hrel;obtain⟨wo,rfl⟩:∃wo:World,wo=wr:=⟨_,rfl⟩
   by_cases hlt:j<k
   ·have hjl:j<rs.length:=by rw[HK.out];exact hlt
    obtain⟨g,d0,d1,d2,d3,d4,d5,d6,rfl,hg,hc,hq⟩:=(HC.out j hjl).ex;have hrr:=HRR.out;rw[List.drop_eq_getElem_cons hjl,List.all_cons]at hrr
    have lF:Below w.heap.size w wo:=by
     rw[eU];exact HB0.out.trans (HB.out.mono (by have:=HB0.out.size;omega))
    have q1:=(HKB.out.old HB.out).cell 1;have hcc:∀(q:Nat) (u:Value),[d0,d1,d2,d3,d4,d5,d6][q]? =some u->wo.cell? ⟨g,j*7+q,none⟩=some u:=fun q u h=>(aT lF g _ hg).trans (hc q u h)
    have r0:wo.cell? ⟨g,j*7,none⟩=some d0:=hcc 0 _ rfl;have r1:wo.cell? ⟨g,j*7+1,none⟩=some d1:=hcc 1 _ rfl;have r2:wo.cell? ⟨g,j*7+2,none⟩=some d2:=hcc 2 _ rfl;have r3:wo.cell? ⟨g,j*7+3,none⟩=some d3:=hcc 3 _ rfl;have r4:wo.cell? ⟨g,j*7+4,none⟩=some d4:=hcc 4 _ rfl;have r5:wo.cell? ⟨g,j*7+5,none⟩=some d5:=hcc 5 _ rfl;have r6:wo.cell? ⟨g,j*7+6,none⟩=some d6:=hcc 6 _ rfl;have HQ:=zH (hq wo lF);have HR2:=zH hrr;have HBO:=zH lF;clear hc hq hcc HRR hrr lF;generalize rs[j]=bj at *;go_wp2_with fail
    refine HQ.out.mono ?_;rintro r w2 ⟨rfl,hb2⟩;have HB2:=zH (Below.trans HB.out (hb2.mono (Below.size HB.out)));have HF:=zH (HBO.out.trans (hb2.mono HBO.out.size));clear HQ hb2 r0 r1 r2 r3 r4 r5 r6 q1 HBO;cases bj
    case false=>
     as_aux_lemma=>
     have hR:RES=false:=by rw[<-HR2.out];rfl
     subst hR;clear HR2;go_wp2
     go_ret
     exact⟨rfl,by first|exact HF.out|(rw[<-eU];exact HF.out)⟩
    case true=>
     as_aux_lemma=>
     have HR3:Hid ((rs.drop (j+1)).all id=RES):=zH (by rw[<-HR2.out];rfl);clear HR2;go_wp2
     go_roundw
     case rel=>exact⟨j+1,by omega,by go_num,HR3,HB2⟩
     case measure=>simp[intOf];omega
   ·as_aux_lemma=>
    obtain rfl:j=k:=by omega
    have hrr:=HRR.out;rw[List.drop_eq_nil_of_le (by rw[HK.out];exact Nat.le_refl _)]at hrr;have hR:RES=true:=by rw[<-hrr];rfl
    subst hR
    have HF:Hid (Below w.heap.size w wo):=zH (by
     rw[eU]
     exact HB0.out.trans (HB.out.mono (by have:=HB0.out.size;omega)))
    have q1:=(HKB.out.old HB.out).cell 1;clear hrr HRR HB;go_wp2
    go_ret
    exact⟨rfl,by first|exact HF.out|(rw[<-eU];exact HF.out)⟩
end Go.Proofs.Ytbjnhllkdilpfaa
