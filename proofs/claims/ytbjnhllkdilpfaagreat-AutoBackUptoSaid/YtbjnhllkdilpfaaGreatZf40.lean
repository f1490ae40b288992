/- Part 40 of the proof. No conditions. -/
import Derived.Test.YtbjnhllkdilpfaaGreatZf21
set_option linter.unusedVariables false
set_option linter.unusedSimpArgs false
set_option maxRecDepth 100000
set_option maxHeartbeats 16000000
namespace Go.Proofs.YtbjnhllkdilpfaaGreat
open Go.RowKit _root_.Go.Proofs.Tryz
def lY (op n sc:Nat) (nm a:Str):Option (Nat×Bool×Bool×Bool):=
 if op=6\/(15<=op/\op<=17)then some (1,nm.isEmpty,a.isEmpty,(n==0&&sc==0))
 else if 1<=op/\op<=14 then some (2,nm.isEmpty,a.isEmpty,(n==0&&sc==0))
 else if op=20 then some (0,nm.isEmpty,a.isEmpty,sc==0)
 else if op=21 then some (0,nm.isEmpty,a.isEmpty,(decide (1<=sc)&&decide (sc<=14))&&decide (jE n sc<=16))
 else if op=22 then some (0,nm.isEmpty,a.isEmpty,(n==0||n==1)&&sc==0)
 else if op=23\/op=25 then some (0,nameB nm,a.isEmpty,(n==0&&sc==0))
 else if op=24\/(26<=op/\op<=31)then some (0,nameB nm,nameB a||a==iY,(n==0&&sc==0))
 else none
def lS (op n sc:Nat) (nm a:Str) (k:Nat):Bool:=
 match lY op n sc nm a with
 |none=>false
 |some (m,x,y,z)=>((x&&y)&&z)&&k==m
theorem jc {op n b k:Nat} {c a:Str} (h:lY op n b c a=none):lS op n b c a k=false:=by unfold lS;rw[h]
theorem eQ {op n c k m:Nat} {x y z:Bool} {b a:Str} (h:lY op n c b a=some (m,x,y,z)):lS op n c b a k=(((x&&y)&&z)&&k==m):=by unfold lS;rw[h]
def dX:az->Bool
 |.leaf op n sc nm a _=>lS op n sc nm a 0
 |.un op x _=>lS op 0 0 [] [] 1&&dX x
 |.bin op x y _=>lS op 0 0 [] [] 2&&(dX x&&dX y)
def gm:az->Prop
 |.leaf _ n _ _ _ _=>n<=9223372036854775807
 |.un _ x _=>gm x
 |.bin _ x y _=>gm x/\gm y
structure zEq (w:World) (A:Option Addr) (j:Nat) (m:Bool):Prop where
 ex:∃(g:Nat) (d0 d1 d2 d3 d4 d5 d6:Value),A=some ⟨g,0,none⟩/\g<w.heap.size/\(∀(q:Nat) (u:Value),[d0,d1,d2,d3,d4,d5,d6][q]? =some u->w.cell? ⟨g,j*7+q,none⟩=some u)/\
  ∀W:World,Below w w W->Calls prog 88 #[.agg #[d0,d1,d2,d3,d4,d5,d6]] W λr W'=>r=.returned (.bool m)/\Below W W W'
theorem right_step (op n b p:Nat) (l S2:ByteArray) (A:Option Addr) (k cc:Nat) (rs:List Bool) (hk:rs.length=k) (am:k<=2) (hn:n<=9223372036854775807) (w:World) (a1:∀j (hj:j<rs.length),zEq w A j rs[j]):
  Calls prog 88 #[.agg #[op,.slice A k cc,n,b,l,S2,p]] w λr w'=>r=.returned (.bool (lS op n b l.toList S2.toList k&&rs.all id))/\Below w w w':=by
 have HC:=zH a1;have uS:Hid (∀(S:ByteArray) (W:World),Calls prog 84 #[S] W λe w'=>e=.returned (.bool (nameB S.toList))/\Below W W w'):=zH λS W=>pM S W
 have HN:=zH hn;have HK:=zH hk;obtain⟨x0,d⟩:=zN l.toList.isEmpty
 obtain⟨y0,e⟩:=zN S2.toList.isEmpty
 obtain⟨z0,a⟩:=zN (n==0&&b==0)
 have U:=zH d;have Xk:=zH e;have Q:=zH a;clear a1 hn hk d e a;obtain⟨K,G⟩:=zN (lS op n b l.toList S2.toList k&&rs.all id)
 have a6:Hid True:=zH trivial;rw[G];have aH:=zH G;clear G
 go_enter func88,ntmps88
 have d:=Bk.new w 110 #[op,.slice A k cc,n,b,l,S2,p];have a:Below w w (w.alloc (.cells #[op,.slice A k cc,n,b,l,S2,p] 110)):=zR.alloc zL _;go_upto_region 2 with fail
 generalize w.alloc (.cells #[op,.slice A k cc,n,b,l,S2,p] 110)=w0 at *;have al:=d.lt;generalize fG:w.heap.size=bx at *;have P:=zH d;have D:=zH a;clear d a
 go_cut[4,5] (λs d wx=>s=.bool x0/\d=.bool y0/\Hid (Below w0 w0 wx))
 case first=>
  as_aux_lemma=>
  have q4:=P.cell 4;have q5:=P.cell 5;have m:=U.out;have h:=Xk.out;cases x0<;>cases y0
  all_goals
   first
   |have a:l.toList=[]:=by simpa using m
   |have a:¬l.toList=[]:=by simpa using m
   first
   |have e:S2.toList=[]:=by simpa using h
   |have e:¬S2.toList=[]:=by simpa using h
   go_quiet (fail)
   have f:=zH (zHf (zGp w0.heap.size w0) nq);go_wp2
   go_meet
   exact⟨rfl,rfl,f⟩
 case rest=>
 obtain⟨rfl,rfl,f⟩:=hcut;go_upto_region 3 with fail
 go_cut[6] (λe wx=>e=.bool z0/\Hid (Below w0 w0 wx))
 case first=>
  as_aux_lemma=>
  have kq:=P.old f.out;have q2:=kq.cell 2;have q3:=kq.cell 3;have a:=Q.out;clear kq
  by_cases a0:n=0
  ·have E:((n:Int)==0)=true:=by rw[zFt];omega
   have m:((b:Int)==0)=z0:=by
    rw[<-a,a0,zHe,zFt,zFn,zFt,zFt];omega
   clear a0 a;cases z0
   all_goals
    go_wp2_with fail
    go_meet
    exact⟨rfl,f⟩
  have E:((n:Int)==0)=false:=zB (by omega)
  have h:z0=false:=by rw[<-a];simp[a0]
  subst h;clear a0 a;go_wp2_with fail
  go_meet
  exact⟨rfl,f⟩
 case rest=>
 obtain⟨rfl,o⟩:=hcut;clear f;have f:=o;clear o;obtain⟨J,a⟩:∃J:World,J=wc:=⟨_,rfl⟩
 subst a;have kq:=P.old f.out;have q0:=kq.cell 0;have q2:=kq.cell 2;have q3:=kq.cell 3;have q4:=kq.cell 4;have q5:=kq.cell 5;clear kq
 go_upto_block 0 with fail
 go_cut[3,4,5,6] (λa s d e wx=>∃(m:Nat) (x y z:Bool),a=.int .i64 m/\s=.bool x/\d=.bool y/\e=.bool z/\Hid (lY op n b l.toList S2.toList=some (m,x,y,z))/\Hid (Below w0 w0 wx))
 case first=>
  have ak:(op=6)\/(15<=op/\op<=17)\/((1<=op/\op<=14)/\op≠6)\/(op=20)\/(op=21)\/(op=22)\/(op=23)\/(op=25)\/(op=24)\/(26<=op/\op<=31)\/(op=0)\/(op=18\/op=19)\/(32<=op):=by omega
  rcases ak with t|t|t|t|t|t|t|t|t|t|t|t|t
  ·as_aux_lemma=>
   have e6:((op:Int)==6)=true:=by rw[zFt];omega
   have a:lY op n b l.toList S2.toList=some (1,l.toList.isEmpty,S2.toList.isEmpty,(n==0&&b==0)):=by
    unfold lY
    (repeat' split)<;>first|rfl|(exfalso;omega)
   rw[U.out,Xk.out,Q.out]at a;have e:=zH a;clear t a;go_wp2_with fail
   go_meet
   exact⟨_,_,_,_,rfl,rfl,rfl,rfl,e,f⟩
  ·as_aux_lemma=>
   have e6:((op:Int)==6)=false:=zB (by omega)
   have H:(15:Int)<=(op:Int):=by omega
   have GV:(op:Int)<=(17:Int):=by omega
   have a:lY op n b l.toList S2.toList=some (1,l.toList.isEmpty,S2.toList.isEmpty,(n==0&&b==0)):=by
    unfold lY
    (repeat' split)<;>first|rfl|(exfalso;omega)
   rw[U.out,Xk.out,Q.out]at a;have e:=zH a;clear t a;go_wp2_with fail
   go_meet
   exact⟨_,_,_,_,rfl,rfl,rfl,rfl,e,f⟩
  ·as_aux_lemma=>
   have e6:((op:Int)==6)=false:=zB (by omega)
   have H:¬(15:Int)<=(op:Int):=by omega
   have l1:(1:Int)<=(op:Int):=by omega
   have GX:(op:Int)<=(14:Int):=by omega
   have a:lY op n b l.toList S2.toList=some (2,l.toList.isEmpty,S2.toList.isEmpty,(n==0&&b==0)):=by
    unfold lY
    (repeat' split)<;>first|rfl|(exfalso;omega)
   rw[U.out,Xk.out,Q.out]at a;have e:=zH a;clear t a;go_wp2_with fail
   go_meet
   exact⟨_,_,_,_,rfl,rfl,rfl,rfl,e,f⟩
  ·as_aux_lemma=>
   have e6:((op:Int)==6)=false:=zB (by omega)
   have H:(15:Int)<=(op:Int):=by omega
   have GV:¬(op:Int)<=(17:Int):=by omega
   have l1:(1:Int)<=(op:Int):=by omega
   have GX:¬(op:Int)<=(14:Int):=by omega
   have M:((op:Int)==20)=true:=by rw[zFt];omega
   have a:lY op n b l.toList S2.toList=some (0,l.toList.isEmpty,S2.toList.isEmpty,b==0):=by
    unfold lY
    (repeat' split)<;>first|rfl|(exfalso;omega)
   rw[U.out,Xk.out]at a;have e:=zH a;clear t a;have a0:(0:Int)<=(n:Int):=by omega
   have ag:((b:Int)==0)=(b==0):=by rw[zHe,zFt,zFt];omega
   go_wp2_with fail
   go_meet
   exact⟨_,_,_,_,rfl,rfl,rfl,rfl,e,f⟩
  ·as_aux_lemma=>
   have e6:((op:Int)==6)=false:=zB (by omega)
   have H:(15:Int)<=(op:Int):=by omega
   have GV:¬(op:Int)<=(17:Int):=by omega
   have l1:(1:Int)<=(op:Int):=by omega
   have GX:¬(op:Int)<=(14:Int):=by omega
   have M:((op:Int)==20)=false:=zB (by omega)
   have R:((op:Int)==21)=true:=by rw[zFt];omega
   have a:lY op n b l.toList S2.toList=some (0,l.toList.isEmpty,S2.toList.isEmpty,(decide (1<=b)&&decide (b<=14))&&decide (jE n b<=16)):=by
    unfold lY
    (repeat' split)<;>first|rfl|(exfalso;omega)
   rw[U.out,Xk.out]at a;have e:=zH a;clear t a;have a0:(0:Int)<=(n:Int):=by omega
   by_cases h1:1<=b
   ·have O:(1:Int)<=(b:Int):=by omega
    by_cases s:b<=14
    ·have N:(b:Int)<=(14:Int):=by omega
     have B:=zH (Fq n b HN.out s J)
     by_cases hp:jE n b<=16
     ·have d:=e.out;simp only[zGm h1,zGm s,zGm hp,Bool.and_true,zJ4,zJc]at d;have h:=zH d;have F:=zH hp;clear e d hp h1 s;go_wp2_with fail
      refine B.mono ?_;rintro r w4 ⟨S,rfl,hS,I⟩;have L:decide ((S.size:Int)<=(16:Int))=true:=by have:=F.out;simp;omega
      have o:=zH (f.trans (I.mono f.size));clear hS I B;go_wp2_with fail
      go_meet
      exact⟨_,_,_,_,rfl,rfl,rfl,rfl,h,o⟩
     have d:=e.out;simp only[zGm h1,zGm s,zGf hp,Bool.and_true,zJ4,zJc]at d;have h:=zH d;have F:=zH hp;clear e d hp h1 s;go_wp2_with fail
     refine B.mono ?_;rintro r w4 ⟨S,rfl,hS,I⟩;have L:decide ((S.size:Int)<=(16:Int))=false:=by have:=F.out;simp;omega
     have o:=zH (f.trans (I.mono f.size));clear hS I B;go_wp2_with fail
     go_meet
     exact⟨_,_,_,_,rfl,rfl,rfl,rfl,h,o⟩
    have F:¬(b:Int)<=(14:Int):=by omega
    have d:=e.out;simp only[zGf s,zJ4,zJh]at d;have h:=zH d;clear e d s h1;go_wp2_with fail
    go_meet
    exact⟨_,_,_,_,rfl,rfl,rfl,rfl,h,f⟩
   have F:¬(1:Int)<=(b:Int):=by omega
   have d:=e.out;simp only[zGf h1,zJ4,zJh]at d;have h:=zH d;clear e d h1;go_wp2_with fail
   go_meet
   exact⟨_,_,_,_,rfl,rfl,rfl,rfl,h,f⟩
  ·as_aux_lemma=>
   have e6:((op:Int)==6)=false:=zB (by omega)
   have H:(15:Int)<=(op:Int):=by omega
   have GV:¬(op:Int)<=(17:Int):=by omega
   have l1:(1:Int)<=(op:Int):=by omega
   have GX:¬(op:Int)<=(14:Int):=by omega
   have M:((op:Int)==20)=false:=zB (by omega)
   have R:((op:Int)==21)=false:=zB (by omega)
   have Y:((op:Int)==22)=true:=by rw[zFt];omega
   have a:lY op n b l.toList S2.toList=some (0,l.toList.isEmpty,S2.toList.isEmpty,(n==0||n==1)&&b==0):=by
    unfold lY
    (repeat' split)<;>first|rfl|(exfalso;omega)
   rw[U.out,Xk.out]at a;have e:=zH a;clear t a;have ag:((b:Int)==0)=(b==0):=by rw[zHe,zFt,zFt];omega
   have N:n=0\/n=1\/2<=n:=by omega
   rcases N with N|N|N
   ·have E:((n:Int)==0)=true:=by rw[zFt];omega
    have d:=e.out;have s:(n==0||n==1)=true:=by simp[N]
    rw[s]at d;simp only[zJc,zJh]at d;have h:=zH d;clear e d N s;go_wp2_with fail
    go_meet
    exact⟨_,_,_,_,rfl,rfl,rfl,rfl,h,f⟩
   ·have E:((n:Int)==0)=false:=zB (by omega)
    have B:((n:Int)==1)=true:=by rw[zFt];omega
    have d:=e.out;have s:(n==0||n==1)=true:=by simp[N]
    rw[s]at d;simp only[zJc,zJh]at d;have h:=zH d;clear e d N s;go_wp2_with fail
    go_meet
    exact⟨_,_,_,_,rfl,rfl,rfl,rfl,h,f⟩
   have E:((n:Int)==0)=false:=zB (by omega)
   have B:((n:Int)==1)=false:=zB (by omega)
   have d:=e.out;have s:(n==0||n==1)=false:=by rw[zKt,zFz,zFz];omega
   rw[s]at d;simp only[zJc,zJh]at d;have h:=zH d;clear e d N s;go_wp2_with fail
   go_meet
   exact⟨_,_,_,_,rfl,rfl,rfl,rfl,h,f⟩
  ·as_aux_lemma=>
   have e6:((op:Int)==6)=false:=zB (by omega)
   have H:(15:Int)<=(op:Int):=by omega
   have GV:¬(op:Int)<=(17:Int):=by omega
   have l1:(1:Int)<=(op:Int):=by omega
   have GX:¬(op:Int)<=(14:Int):=by omega
   have M:((op:Int)==20)=false:=zB (by omega)
   have R:((op:Int)==21)=false:=zB (by omega)
   have Y:((op:Int)==22)=false:=zB (by omega)
   have Z:((op:Int)==23)=true:=by rw[zFt];omega
   have a:lY op n b l.toList S2.toList=some (0,nameB l.toList,S2.toList.isEmpty,(n==0&&b==0)):=by
    unfold lY
    (repeat' split)<;>first|rfl|(exfalso;omega)
   rw[Xk.out,Q.out]at a;have e:=zH a;clear t a;go_wp2_with fail
   refine(uS.out l _).mono ?_;rintro r w4 ⟨rfl,I⟩;have o:=zH (f.trans (I.mono f.size));clear I;go_wp2_with fail
   go_meet
   exact⟨_,_,_,_,rfl,rfl,rfl,rfl,e,o⟩
  ·as_aux_lemma=>
   have e6:((op:Int)==6)=false:=zB (by omega)
   have H:(15:Int)<=(op:Int):=by omega
   have GV:¬(op:Int)<=(17:Int):=by omega
   have l1:(1:Int)<=(op:Int):=by omega
   have GX:¬(op:Int)<=(14:Int):=by omega
   have M:((op:Int)==20)=false:=zB (by omega)
   have R:((op:Int)==21)=false:=zB (by omega)
   have Y:((op:Int)==22)=false:=zB (by omega)
   have Z:((op:Int)==23)=false:=zB (by omega)
   have a2:((op:Int)==25)=true:=by rw[zFt];omega
   have a:lY op n b l.toList S2.toList=some (0,nameB l.toList,S2.toList.isEmpty,(n==0&&b==0)):=by
    unfold lY
    (repeat' split)<;>first|rfl|(exfalso;omega)
   rw[Xk.out,Q.out]at a;have e:=zH a;clear t a;go_wp2_with fail
   refine(uS.out l _).mono ?_;rintro r w4 ⟨rfl,I⟩;have o:=zH (f.trans (I.mono f.size));clear I;go_wp2_with fail
   go_meet
   exact⟨_,_,_,_,rfl,rfl,rfl,rfl,e,o⟩
  ·
   have e6:((op:Int)==6)=false:=zB (by omega)
   have H:(15:Int)<=(op:Int):=by omega
   have GV:¬(op:Int)<=(17:Int):=by omega
   have l1:(1:Int)<=(op:Int):=by omega
   have GX:¬(op:Int)<=(14:Int):=by omega
   have M:((op:Int)==20)=false:=zB (by omega)
   have R:((op:Int)==21)=false:=zB (by omega)
   have Y:((op:Int)==22)=false:=zB (by omega)
   have Z:((op:Int)==23)=false:=zB (by omega)
   have a2:((op:Int)==25)=false:=zB (by omega)
   have a3:((op:Int)==24)=true:=by rw[zFt];omega
   have a:lY op n b l.toList S2.toList=some (0,nameB l.toList,nameB S2.toList||S2.toList==iY,(n==0&&b==0)):=by
    unfold lY
    (repeat' split)<;>first|rfl|(exfalso;omega)
   rw[Q.out]at a;have e:=zH a;clear t a;go_upto_region 18 with fail
   have ad:=a6.out;obtain⟨X,Iu⟩:=zN (S2.toList==[84,73,77,69])
   obtain⟨W,hW⟩:=zN J
   subst hW
   refine wx (λk => false) [.is (.pointer (some ⟨bx, 4, none⟩)),
     .is (.string l),
     .is (.bool (nameB l.toList)),
     .is (.pointer (some ⟨bx,5,none⟩)),
     .is (.string S2),
     .is (.bool (nameB S2.toList)),
     .is (.bool (nameB S2.toList)),
     .is (bif (true&&((nameB S2.toList)==false))then .pointer (some ⟨bx,5,none⟩)else undef),
     .is (bif (true&&((nameB S2.toList)==false))then .string S2 else undef),
     .is (bif (true&&((nameB S2.toList)==false))then .bool X else undef),
     .is (.bool ((nameB S2.toList)||X)),
     .is (.bool (nameB l.toList)),
     .is (.bool ((nameB S2.toList)||X))] [2,5,7,8,9,10] (by kernel_rfl) (by kernel_rfl) (by kernel_rfl)
     (λC=>.c (px C rfl (λ_ _=>rfl)) <|
     .c (px C rfl (λ_ h=>bH (I7 (bc h q4)))) <|
     .c (pz [1] [] (by kernel_rfl) λqK O wr L F s E=>?_) <|
     .c (px C rfl (λ_ _=>rfl)) <|
     .c (px C rfl (λ_ h=>bH (I7 (bc h q5)))) <|
     .c (pz [4] [] (by kernel_rfl) λqK O wr L F s E=>?_) <|
     .c (px C rfl (λ_ _=>rfl)) <|
     .c (po [] [1] 6 false rfl rfl rfl (by kernel_rfl) λt hP qK O wr L F s E=>?_) <|
     .c (po [7] [] 6 false rfl rfl rfl (by kernel_rfl) λt hP qK O wr L F s E=>?_) <|
     .c (po [8] [] 6 false rfl rfl rfl (by kernel_rfl) λt hP qK O wr L F s E=>?_) <|
     .c (pz [6,9] [] (by kernel_rfl) λqK O wr L F s E=>?_) <|
     .c (px C rfl (λ_ _=>rfl)) <|
     .c (px C rfl (λ_ _=>rfl)) <| .nil) ?_
   ·have ab:=aA s.1 rfl rfl;clear F s;go_simp
    go_at_call 84
    refine(uS.out l wr).mono ?_;rintro r w9 ⟨rfl,dM⟩;exact E _ _ dM rfl
   ·have aa:=aA s.1 rfl rfl;clear F s;go_simp
    go_at_call 84
    refine(uS.out S2 wr).mono ?_;rintro r w9 ⟨rfl,dM⟩;exact E _ _ dM rfl
   ·have hp:true=true:=rfl;have e1:O.tmps[1]? =some (.pointer (some ⟨bx,0,none⟩)):=F.1.trans rfl;clear F s;go_simp;exact E _ _ zR rfl
   ·have hp:true=true:=rfl;have a8:O.tmps[133]? =some (.pointer (some ⟨bx,5,none⟩)):=fif s.1 rfl hP rfl;clear F s;have af:=zE L q5;go_simp;exact E _ _ zR rfl
   ·have hp:true=true:=rfl;have a9:O.tmps[134]? =some (.string S2):=fif s.1 rfl hP rfl;clear F s;go_simp;refine E _ _ zR ?_
    show(_:Value)=_
    first|rfl|rw[Iu]
   ·have U1:=aA s.1 rfl rfl;obtain⟨U3,U4,r9⟩:=s.2.1;have r9:U3=(bif (true&&((nameB S2.toList)==false))then .bool X else undef):=r9;clear F s;rcases(Bool.eq_false_or_eq_true ((nameB S2.toList))).symm with d|d
    ·rw[d]at U1;have U4:O.tmps[135]? =some (.bool (X)):=(show U3=.bool (X)from r9.trans (by(first|rw[d]|skip);first|rfl|(rw[hP];rfl)))▸U4;go_simp;exact E _ _ zR (by show(_:Value)=_;first|(rw[d];first|rfl|(simp;done))|(simp_all;done))
    rw[d]at U1;go_simp;exact E _ _ zR (by show(_:Value)=_;first|(rw[d];first|rfl|(simp;done))|(simp_all;done))
   intro qx wr L B hS;clear B hS;simp only[bJ,zF0,zGb,zF1,zFp,zFd,zFh,zF4,Act.put,zFf,zFw,zFx];refine zM ?_;have NF:=e.out;rw[show(S2.toList==iY)=X from Iu]at NF;have a4:=zH NF;have o:=zH (f.trans (L.mono f.size));clear NF Iu L e;go_wp2_with fail
   go_meet
   exact⟨_,_,_,_,rfl,rfl,rfl,rfl,a4,o⟩
  ·
   have e6:((op:Int)==6)=false:=zB (by omega)
   have H:(15:Int)<=(op:Int):=by omega
   have GV:¬(op:Int)<=(17:Int):=by omega
   have l1:(1:Int)<=(op:Int):=by omega
   have GX:¬(op:Int)<=(14:Int):=by omega
   have M:((op:Int)==20)=false:=zB (by omega)
   have R:((op:Int)==21)=false:=zB (by omega)
   have Y:((op:Int)==22)=false:=zB (by omega)
   have Z:((op:Int)==23)=false:=zB (by omega)
   have a2:((op:Int)==25)=false:=zB (by omega)
   have a3:((op:Int)==24)=false:=zB (by omega)
   have a5:(26:Int)<=(op:Int):=by omega
   have a7:(op:Int)<=(31:Int):=by omega
   have a:lY op n b l.toList S2.toList=some (0,nameB l.toList,nameB S2.toList||S2.toList==iY,(n==0&&b==0)):=by
    unfold lY
    (repeat' split)<;>first|rfl|(exfalso;omega)
   rw[Q.out]at a;have e:=zH a;clear t a;go_upto_region 18 with fail
   have ad:=a6.out;obtain⟨X,Iu⟩:=zN (S2.toList==[84,73,77,69])
   obtain⟨W,hW⟩:=zN J
   subst hW
   refine wx (λk => false) [.is (.pointer (some ⟨bx, 4, none⟩)),
     .is (.string l),
     .is (.bool (nameB l.toList)),
     .is (.pointer (some ⟨bx,5,none⟩)),
     .is (.string S2),
     .is (.bool (nameB S2.toList)),
     .is (.bool (nameB S2.toList)),
     .is (bif (true&&((nameB S2.toList)==false))then .pointer (some ⟨bx,5,none⟩)else undef),
     .is (bif (true&&((nameB S2.toList)==false))then .string S2 else undef),
     .is (bif (true&&((nameB S2.toList)==false))then .bool X else undef),
     .is (.bool ((nameB S2.toList)||X)),
     .is (.bool (nameB l.toList)),
     .is (.bool ((nameB S2.toList)||X))] [2,5,7,8,9,10] (by kernel_rfl) (by kernel_rfl) (by kernel_rfl)
     (λC=>.c (px C rfl (λ_ _=>rfl)) <|
     .c (px C rfl (λ_ h=>bH (I7 (bc h q4)))) <|
     .c (pz [1] [] (by kernel_rfl) λqK O wr L F s E=>?_) <|
     .c (px C rfl (λ_ _=>rfl)) <|
     .c (px C rfl (λ_ h=>bH (I7 (bc h q5)))) <|
     .c (pz [4] [] (by kernel_rfl) λqK O wr L F s E=>?_) <|
     .c (px C rfl (λ_ _=>rfl)) <|
     .c (po [] [1] 6 false rfl rfl rfl (by kernel_rfl) λt hP qK O wr L F s E=>?_) <|
     .c (po [7] [] 6 false rfl rfl rfl (by kernel_rfl) λt hP qK O wr L F s E=>?_) <|
     .c (po [8] [] 6 false rfl rfl rfl (by kernel_rfl) λt hP qK O wr L F s E=>?_) <|
     .c (pz [6,9] [] (by kernel_rfl) λqK O wr L F s E=>?_) <|
     .c (px C rfl (λ_ _=>rfl)) <|
     .c (px C rfl (λ_ _=>rfl)) <| .nil) ?_
   ·have ab:=aA s.1 rfl rfl;clear F s;go_simp
    go_at_call 84
    refine(uS.out l wr).mono ?_;rintro r w9 ⟨rfl,dM⟩;exact E _ _ dM rfl
   ·have aa:=aA s.1 rfl rfl;clear F s;go_simp
    go_at_call 84
    refine(uS.out S2 wr).mono ?_;rintro r w9 ⟨rfl,dM⟩;exact E _ _ dM rfl
   ·have hp:true=true:=rfl;have e1:O.tmps[1]? =some (.pointer (some ⟨bx,0,none⟩)):=F.1.trans rfl;clear F s;go_simp;exact E _ _ zR rfl
   ·have hp:true=true:=rfl;have a8:O.tmps[133]? =some (.pointer (some ⟨bx,5,none⟩)):=fif s.1 rfl hP rfl;clear F s;have af:=zE L q5;go_simp;exact E _ _ zR rfl
   ·have hp:true=true:=rfl;have a9:O.tmps[134]? =some (.string S2):=fif s.1 rfl hP rfl;clear F s;go_simp;refine E _ _ zR ?_
    show(_:Value)=_
    first|rfl|rw[Iu]
   ·have U1:=aA s.1 rfl rfl;obtain⟨U3,U4,r9⟩:=s.2.1;have r9:U3=(bif (true&&((nameB S2.toList)==false))then .bool X else undef):=r9;clear F s;rcases(Bool.eq_false_or_eq_true ((nameB S2.toList))).symm with d|d
    ·rw[d]at U1;have U4:O.tmps[135]? =some (.bool (X)):=(show U3=.bool (X)from r9.trans (by(first|rw[d]|skip);first|rfl|(rw[hP];rfl)))▸U4;go_simp;exact E _ _ zR (by show(_:Value)=_;first|(rw[d];first|rfl|(simp;done))|(simp_all;done))
    rw[d]at U1;go_simp;exact E _ _ zR (by show(_:Value)=_;first|(rw[d];first|rfl|(simp;done))|(simp_all;done))
   intro qx wr L B hS;clear B hS;simp only[bJ,zF0,zGb,zF1,zFp,zFd,zFh,zF4,Act.put,zFf,zFw,zFx];refine zM ?_;have NF:=e.out;rw[show(S2.toList==iY)=X from Iu]at NF;have a4:=zH NF;have o:=zH (f.trans (L.mono f.size));clear NF Iu L e;go_wp2_with fail
   go_meet
   exact⟨_,_,_,_,rfl,rfl,rfl,rfl,a4,o⟩
  ·as_aux_lemma=>
   have e6:((op:Int)==6)=false:=zB (by omega)
   have H:¬(15:Int)<=(op:Int):=by omega
   have l1:¬(1:Int)<=(op:Int):=by omega
   have M:((op:Int)==20)=false:=zB (by omega)
   have R:((op:Int)==21)=false:=zB (by omega)
   have Y:((op:Int)==22)=false:=zB (by omega)
   have Z:((op:Int)==23)=false:=zB (by omega)
   have a2:((op:Int)==25)=false:=zB (by omega)
   have a3:((op:Int)==24)=false:=zB (by omega)
   have a5:¬(26:Int)<=(op:Int):=by omega
   have a:lY op n b l.toList S2.toList=none:=by unfold lY;(repeat' split)<;>first|rfl|(exfalso;omega)
   have e:=zH a;have B:=aH.out;rw[jc e.out]at B;have B:K=false:=by rw[<-B];rfl
   subst B
   have s:Hid (Below w w J):=zH (by
    rw[fG]
    exact D.trans (f.mono (by have:=D.size;omega)))
   clear t a e aH;go_wp2_with fail
   go_ret
   exact⟨rfl,by first|exact s.out|(rw[<-fG];exact s.out)⟩
  ·as_aux_lemma=>
   have e6:((op:Int)==6)=false:=zB (by omega)
   have H:(15:Int)<=(op:Int):=by omega
   have GV:¬(op:Int)<=(17:Int):=by omega
   have l1:(1:Int)<=(op:Int):=by omega
   have GX:¬(op:Int)<=(14:Int):=by omega
   have M:((op:Int)==20)=false:=zB (by omega)
   have R:((op:Int)==21)=false:=zB (by omega)
   have Y:((op:Int)==22)=false:=zB (by omega)
   have Z:((op:Int)==23)=false:=zB (by omega)
   have a2:((op:Int)==25)=false:=zB (by omega)
   have a3:((op:Int)==24)=false:=zB (by omega)
   have a5:¬(26:Int)<=(op:Int):=by omega
   have a:lY op n b l.toList S2.toList=none:=by unfold lY;(repeat' split)<;>first|rfl|(exfalso;omega)
   have e:=zH a;have B:=aH.out;rw[jc e.out]at B;have B:K=false:=by rw[<-B];rfl
   subst B
   have s:Hid (Below w w J):=zH (by
    rw[fG]
    exact D.trans (f.mono (by have:=D.size;omega)))
   clear t a e aH;go_wp2_with fail
   go_ret
   exact⟨rfl,by first|exact s.out|(rw[<-fG];exact s.out)⟩
  as_aux_lemma=>
  have e6:((op:Int)==6)=false:=zB (by omega)
  have H:(15:Int)<=(op:Int):=by omega
  have GV:¬(op:Int)<=(17:Int):=by omega
  have l1:(1:Int)<=(op:Int):=by omega
  have GX:¬(op:Int)<=(14:Int):=by omega
  have M:((op:Int)==20)=false:=zB (by omega)
  have R:((op:Int)==21)=false:=zB (by omega)
  have Y:((op:Int)==22)=false:=zB (by omega)
  have Z:((op:Int)==23)=false:=zB (by omega)
  have a2:((op:Int)==25)=false:=zB (by omega)
  have a3:((op:Int)==24)=false:=zB (by omega)
  have a5:(26:Int)<=(op:Int):=by omega
  have a7:¬(op:Int)<=(31:Int):=by omega
  have a:lY op n b l.toList S2.toList=none:=by unfold lY;(repeat' split)<;>first|rfl|(exfalso;omega)
  have e:=zH a;have B:=aH.out;rw[jc e.out]at B;have B:K=false:=by rw[<-B];rfl
  subst B
  have s:Hid (Below w w J):=zH (by
   rw[fG]
   exact D.trans (f.mono (by have:=D.size;omega)))
  clear t a e aH;go_wp2_with fail
  go_ret
  exact⟨rfl,by first|exact s.out|(rw[<-fG];exact s.out)⟩
 case rest=>
 obtain⟨m,x,y,z,rfl,rfl,rfl,rfl,e,o⟩:=hcut;clear q0 q2 q3 q4 q5 f a6 uS HN U Xk Q;have G:=aH.out;rw[eQ e.out]at G;have Q:=zH G;clear aH G e;obtain⟨N,E⟩:=zN (!(((x&&y)&&z)&&k==m))
 have a:=zH E;clear E;have L:=(P.old o.out).cell 1
 have F:((k:Int) !=(m:Int))= !(k==m):=by
  rw[zHe,zG1,zHx,zFz];omega
 obtain⟨km,E⟩:=zN (k==m)
 rw[E]at F;have H:=zH E;clear E;go_upto_region 19 with fail
 go_cut[153] (λv wx=>v=.bool N/\Hid (Below w0 w0 wx))
 case first=>
  as_aux_lemma=>
  have E:=a.out;rw[H.out]at E;clear a H;cases x<;>cases y<;>cases z<;>cases km
  all_goals
   simp only[zJc,zJh,Bool.and_true,zJ4,Bool.not_true,Bool.not_false]at E;subst E;go_wp2_with fail
   go_meet
   exact⟨rfl,o⟩
 case rest=>
 obtain⟨rfl,f⟩:=hcut;clear o F L;cases N
 case true=>
  as_aux_lemma=>
  have hb:=a.out;have B:=Q.out;rw[zHx]at hb;rw[hb]at B;have B:K=false:=by rw[<-B];rfl
  subst B
  have s:Hid (Below w w wc):=zH (by
   rw[fG]
   exact D.trans (f.mono (by have:=D.size;omega)))
  clear a Q hb;go_wp2_with fail
  go_ret
  exact⟨rfl,by first|exact s.out|(rw[<-fG];exact s.out)⟩
 case false=>
  have hb:=a.out;rw[Bool.not_eq_false']at hb;have B:=Q.out;rw[hb]at B;have B:rs.all id=K:=by rw[<-B];rfl
  have Z:=zH B;have L:=(P.old f.out).cell 1;have a0:=zH (P.out);clear a Q hb B H;go_wp2_with fail
  clear L;have M:=f;clear f
  go_loopw[157] (λi wr=>∃j:Nat,j<=k/\i=.int .i64 j/\Hid ((rs.drop j).all id=K)/\Hid (Below w0 w0 wr)) (λi _=>k-(intOf i).toNat)
  case atStart=>exact⟨0,zFj _,rfl,Z,M⟩
  case round=>
   clear Z M;obtain⟨j,hj,rfl,F,f⟩:=hrel;obtain⟨J,rfl⟩:∃J:World,J=wr:=⟨_,rfl⟩
   by_cases U:j<k
   ·have O:j<rs.length:=by rw[HK.out];exact U
    obtain⟨g,d0,Y,X,d3,d4,d5,d6,rfl,hg,t,hq⟩:=(HC.out j O).ex;have E:=F.out;rw[zFk O,List.all_cons]at E
    have I:Below w w J:=by
     rw[fG];exact D.trans (f.mono (by have:=D.size;omega))
    have L:=(P.old f.out).cell 1;have d:∀(q:Nat) (u:Value),[d0,Y,X,d3,d4,d5,d6][q]? =some u->J.cell? ⟨g,j*7+q,none⟩=some u:=λq u h=>(bK I g _ hg).trans (t q u h)
    have r0:J.cell? ⟨g,j*7,none⟩=some d0:=d 0 _ rfl;have r1:J.cell? ⟨g,j*7+1,none⟩=some Y:=d 1 _ rfl;have r2:J.cell? ⟨g,j*7+2,none⟩=some X:=d 2 _ rfl;have r3:J.cell? ⟨g,j*7+3,none⟩=some d3:=d 3 _ rfl;have r4:J.cell? ⟨g,j*7+4,none⟩=some d4:=d 4 _ rfl;have r5:J.cell? ⟨g,j*7+5,none⟩=some d5:=d 5 _ rfl;have r6:J.cell? ⟨g,j*7+6,none⟩=some d6:=d 6 _ rfl;have HQ:=zH (hq J I);have h:=zH E;have R:=zH I;clear t hq d F E I;generalize rs[j]=bj at *;go_wp2_with fail
    refine HQ.mono ?_;rintro r w2 ⟨rfl,I⟩;have o:=zH (zKg f.out (I.mono (zKa f.out)));have s:=zH (R.trans (I.mono R.size));clear HQ I r0 r1 r2 r3 r4 r5 r6 L R;cases bj
    case false=>
     as_aux_lemma=>
     have B:K=false:=by rw[<-h.out];rfl
     subst B;clear h;go_wp2
     go_ret
     exact⟨rfl,by first|exact s.out|(rw[<-fG];exact s.out)⟩
    case true=>
     as_aux_lemma=>
     have I:Hid ((rs.drop (j+1)).all id=K):=zH (by rw[<-h.out];rfl);clear h;go_wp2
     go_roundw
     case rel=>exact⟨j+1,by omega,by go_num,I,o⟩
     case measure=>simp[intOf];omega
   as_aux_lemma=>
   obtain rfl:j=k:=by omega
   have E:=F.out;rw[zFq (by rw[HK.out];exact zFv _)]at E;have B:K=true:=by rw[<-E];rfl
   subst B
   have s:Hid (Below w w J):=zH (by
    rw[fG]
    exact D.trans (f.mono (by have:=D.size;omega)))
   have L:=(P.old f.out).cell 1;clear E F f;go_wp2
   go_ret
   exact⟨rfl,by first|exact s.out|(rw[<-fG];exact s.out)⟩
theorem zEs:(prog.info? 52).map (λi=>(i.zero,i.size,i.bytes))=some (some (.agg #["","",(),(),.string ⟨#[]⟩,()]),6,88):=by kernel_rfl
theorem nZ (w:World):(sizeOf 52).run prog w=.ok 6 w:=by
 obtain⟨i,b,c,a,d⟩:=zG4 zEs;simp[sizeOf,typeInfo,b,a]
theorem yZ {L:List aC} {w:Str} {s:PS} (h:s.err≠0):aQ L w s=s:=by unfold aQ;rw[zF3 h]
theorem JZ {L:List aC} {w:Str} {s:PS} (h:s.err≠0\/fD L s w=false):(aQ L w s).err≠0:=by
 by_cases a:s.err≠0
 ·rw[yZ a];exact a
 unfold aQ;rw[zF2 a,zF2 (by rw[h.resolve_left a];decide)];exact kW (by decide)
theorem Ad (L:List aC) (s:PS):(dY L 4 s).2.err≠0:=by
 rw[qJ]
 have a:(aQ L oU (if s.err=0/\fD L s oU=true/\(4:Nat)=4 then bf L 2 s else s)).err≠0:=by
  by_cases b:s.err=0/\fD L s oU=true/\(4:Nat)=4
  ·rw[zF3 b];exact JZ (.inl (kW (by decide)))
  rw[zF2 b];refine JZ ?_
  by_cases c:s.err=0
  ·right
   exact zH6.2 λh=>b ⟨c,h,rfl⟩
  exact .inl c
 generalize aQ L oU (if s.err=0/\fD L s oU=true/\(4:Nat)=4 then bf L 2 s else s)=b at *;rw[yZ a,uz,zF3 a,yZ a];exact a
theorem qP (L:List aC) (k:Nat) (b:List (List bn)) (s:PS):ji L (k+1) b s=if s.err≠0\/fD L s [124]=false then(b,s)else ji L k (b++[(dY L b.length (aO s)).1]) (dY L b.length (aO s)).2:=rfl
theorem Ae {L:List aC} (a:dS L):∀(k:Nat) (b:List (List bn)) (s:PS),iy L s->bF L s (ji L k b s).2
 |0,b,s,h=>bF.refl h
 |k+1,b,s,h=>by
  rw[qP]
  split
  ·exact bF.refl h
  rename_i d
  simp only[not_or,zK9]at d;have g:=bF.next a h (bM d.2);have c:=g.trans (bF.branch a g.ok b.length);exact c.trans (Ae a k _ _ c.ok)
theorem bF.zB1 {L:List aC} {s:PS} (a:dS L) (h:iy L s):bF L s (ig L s).2/\aX 0 (ig L s).1<=1+2*L.length:=by
 unfold ig
 split
 ·exact⟨bF.refl h,zFj _⟩
 rename_i b
 simp only[not_or,zK9]at b;have g:=bF.next a h (bM b.2);have c:=Jj a (s.i+1) g.ok.lt;have f:=g.ok.opn;have e:=g.ok.lt;generalize mV L (s.i+1)=r at *;obtain⟨x,d,k,m⟩:=r;simp only at *
 split
 ·exact⟨⟨⟨e,f⟩,zJ9 _,rfl⟩,zFj _⟩
 rename_i a
 have j:=c.2.2 (by omega);have l:=h.opn;refine⟨⟨⟨j.2,by show s.opn<=d;omega⟩,by show s.i<=d;omega,rfl⟩,?_⟩;have:=vZ x 0;simp only[Nat.lt_irrefl,zKk]at this;exact zFi this c.1
theorem bF.tail {L:List aC} {s:PS} (a:dS L) (h:iy L s):bF L s (mW L s).2:=by
 rw[xN];have f:=bF.need a jh h;have j:=f.trans (CB a oV 0 0 _ f.ok);generalize gB L 0 oV (0,aQ L jh s)=r at *;have k:=bF.tl4 a r j;have b:=bF.tl6 (bF.tl5 k)
 have i:(tu L (nT L (Jn L r))).err=0->(bC L (tu L (nT L (Jn L r)))).kind≠0:=λg=>by
  have:=(Jo g).1;omega
 generalize tu L (nT L (Jn L r))=m at *;unfold tailE
 split
 ·exact b
 rename_i g
 have c:=b.trans (bF.next a b.ok (i (by omega)))
 split
 ·rename_i l
  have e:=c.trans (bF.next a c.ok (bM l));have d:=e.trans (bF.need a Zj e.ok);exact d.trans (bF.Pg a d.ok)
 exact c
def y8 (bs:List (List bn)) (wh:List az) (q:Nat×Nat×Str×Nat) (s:PS):di×Nat×Nat:=
 if s.err≠0 then(yK,s.pos,s.err)
 else if 200<iJ ⟨bs,wh,q.1,q.2.1,q.2.2.1,q.2.2.2⟩then(yK,0,2)
 else(⟨bs,wh,q.1,q.2.1,q.2.2.1,q.2.2.2⟩,0,0)
def zB2 (L:List aC) (s:PS):PS:=if s.err=0/\(bC L s).kind≠0 then bf L 13 s else s
def xY (L:List aC):List (List bn)×PS:=ji L (L.length+1) [(dY L 0 (aQ L l7 ⟨0,0,0,0⟩)).1] (dY L 0 (aQ L l7 ⟨0,0,0,0⟩)).2
theorem FC (L:List aC):BI L=y8 (xY L).1 (ig L (xY L).2).1 (mW L (ig L (xY L).2).2).1 (zB2 L (mW L (ig L (xY L).2).2).2):=by kernel_rfl
structure Eo (b gr:Nat) (L:List aC) (LA:Option Addr) (Lc:Nat) (w:World) (x:PS) (bv wv:Value) (q:di) (W:World):Prop where
 st:dH b 90 (q.cells bv wv) L LA Lc x W
 kr:Bk W gr 52 #["","",(),(),.string ⟨#[]⟩,()]
 hb:Below w w W
 br:lK (b+1) W bv q.branches
 wh:zS (b+1) W wv q.cond
theorem zS.old {B:Nat} {w w':World} {v:Value} {b:List az} (h:zS B w v b) (hb:Below w w w'):zS B w' v b:=by
 obtain⟨a,d,c⟩:=h;exact⟨a,aT d hb,c.keep λg f e=>⟨f,hb.block g e⟩⟩
theorem zS.grown {b B:Nat} {w w':World} {v:Value} {e:List az} (h:zS B w v e) (d:w.grownBy w' (some b)) (hb:b<B):zS B w' v e:=by
 obtain⟨c,i,f⟩:=h;exact⟨c,ik i d hb,f.keep λg j a=>⟨j,d.block g a (aG (by omega))⟩⟩
theorem zS.nil (B:Nat) (w:World):zS B w (.slice none 0 0) []:=⟨[],zGs _ _ _ _,trivial⟩
theorem lK.nil (B:Nat) (w:World):lK B w (.slice none 0 0) []:=⟨[],zGs _ _ _ _,trivial⟩
section
variable {b gr:Nat} {L:List aC} {LA:Option Addr} {Lc:Nat} {w W W':World} {x y:PS} {bv wv:Value} {q:di}
theorem Eo.old (h:Eo b gr L LA Lc w x bv wv q W) (hb:Below W W W'):Eo b gr L LA Lc w x bv wv q W':=
 ⟨h.st.old hb,h.kr.old hb,h.hb.trans (hb.mono h.hb.size),h.br.old hb,h.wh.old hb⟩
theorem Eo.grow (h:Eo b gr L LA Lc w x bv wv q W) (e:gr<b) (d:w.heap.size<=b) (c:dH b 90 (q.cells bv wv) L LA Lc y W') (a:W.grownBy W' (some b)):Eo b gr L LA Lc w y bv wv q W':=
 ⟨c,h.kr.grown a (aG (by omega)),h.hb.trans ((sW a (zG5 h.st.bk.lt)).mono d),h.br.grown a (by omega),h.wh.grown a (by omega)⟩
theorem Eo.next (h:Eo b gr L LA Lc w x bv wv q W) (a:gr<b) (d:w.heap.size<=b):Eo b gr L LA Lc w (aO x) bv wv q (W.setCell ⟨b,1,none⟩ (.int .i64 ((x.i:Int)+1))):=
 have c:=step_next b _ _ L LA Lc x W h.st
 h.grow a d c.st c.grown
end
def G6 (s:Str) (w:World) (e:Ending) (w':World):Prop:=
 ∃(B:Nat) (cs:List Value),e=.returned (.tuple #[.agg cs.toArray,.int .i64 ((jK s).2.1:Nat),.int .i64 ((jK s).2.2:Nat)])/\w.heap.size<=B/\QV B w' (jK s).1 cs/\Below w w w'
theorem parse_any (s:ByteArray) (w:World):Calls prog 15 #[s] w (G6 s.toList w):=by
 have j:Hid (∀W:World,Calls prog 34 #[s] W (MG (jW s.toList) W)):=zH λW=>TQ s W
 obtain⟨af,a⟩:=zN (jK s.toList)
 have d:=Ur s.toList;have e:jK s.toList=if(jW s.toList).2.2≠0 then(yK,(jW s.toList).2.1,(jW s.toList).2.2)else BI (jW s.toList).1:=rfl
 unfold G6;rw[a]at e⊢;unfold MG at j;generalize jW s.toList=f at *;obtain⟨L,ap,er⟩:=f;simp only at j e d;have l:=zH e;have vV:=zH d;clear a e d
 go_enter func15,ntmps15
 have m:=Bk.new w 52 #["","",(),(),.string ⟨#[]⟩,()];have d:Below w w (w.alloc (.cells #["","",(),(),.string ⟨#[]⟩,()] 52)):=zR.alloc zL _;go_upto_region 1 with fail
 generalize w.alloc (.cells #["","",(),(),.string ⟨#[]⟩,()] 52)=W0 at *;go_wp2_with fail
 refine(j.out _).mono ?_;rintro r Z ⟨LA,Lc,rfl,h,a⟩;have q:=zH h;have f:=zH (d.trans (a.mono d.size));have p:=zH (m.old a);have e:=(m.old a).lt;clear j h d a m
 by_cases d:er=0
 case neg=>
  have jA:((er:Int) !=0)=true:=by rw[zG1];omega
  have a:=l.out;rw[zF3 d]at a;subst a;clear l vV d;go_wp2_with (first|(refine ae nZ rfl _ _ rfl rfl [.slice none 0 0,.slice none 0 0,.int .i64 0,.int .i64 0,.string ⟨#[]⟩,.int .i64 0] rfl p.out rfl rfl rfl ?_;intro w9 F))
  obtain⟨u0,u1,u2,u3,u4,u5⟩:=zc6 F.bk;have E:=F.below _ _ f.out zL;refine zFg (v:=.tuple #[.agg #["","",(),(),.string ⟨#[]⟩,()],.int .i64 (ap:Nat),.int .i64 (er:Nat)]) (by simp[results,results15,go_sem,u0,u1,u2,u3,u4,u5]) rfl ?_;exact⟨w.heap.size,_,rfl,zFv _,⟨_,_,rfl,lK.nil _ _,zS.nil _ _⟩,E⟩
 case pos=>
 have jA:((er:Int) !=0)=false:=by rw[zG0];omega
 have a:=l.out;rw[zF2 (by omega),FC]at a;obtain⟨H,hL⟩:=vV.out d;have o:=zH a;clear l vV a d;go_upto_region 5 with fail
 have h:Eo Z.heap.size w.heap.size L LA Lc w ⟨0,0,0,0⟩ (.slice none 0 0) (.slice none 0 0) ⟨[],[],0,0,[],0⟩ (Z.alloc (.cells #[.slice LA L.length Lc,(),(),(),(),"","",(),(),.string ⟨#[]⟩,()] 90)):=
  have d:Below Z Z (Z.alloc (.cells #[.slice LA L.length Lc,(),(),(),(),"","",(),(),.string ⟨#[]⟩,()] 90)):=zR.alloc zL _
  ⟨⟨Bk.new Z _ _,q.below d⟩,p.old d,f.trans (d.mono (by omega)),lK.nil _ _,zS.nil _ _⟩
 have j:=zH h;have P:=e;have B:w.heap.size<=Z.heap.size:=zG5 e;clear h q f p e;generalize Z.alloc (.cells #[.slice LA L.length Lc,(),(),(),(),"","",(),(),.string ⟨#[]⟩,()] 90)=W5 at *;generalize Z.heap.size=b at *;obtain⟨gr,a3⟩:=zN w.heap.size
 have I:=zH a3;rw[a3]at j P B;have aa:0<L.length:=by obtain⟨M,e,rfl,_⟩:=H;simp
 have a0:iy L ⟨0,0,0,0⟩:=⟨aa,zFv _⟩
 have a9:Hid (∀(x:PS) (W:World) (S:ByteArray) (v:Str) (f:List Value),S.toList=v->iy L x->dH b 90 f L LA Lc x W->Calls prog 37 #[.pointer (some ⟨b,0,none⟩),S] W λr w'=>r=.returned (.bool (fD L x v))/\Below W.heap.size W w'):=zH λx W S v f hv ho h=>by
  have:=mP b _ f L LA Lc x W S h ho.lt hL
  rwa [hv]at this
 have mJ:Hid (∀(x:PS) (W:World) (S:ByteArray) (v:Str) (f:List Value),S.toList=v->iy L x->dH b 90 f L LA Lc x W->Calls prog 35 #[.pointer (some ⟨b,0,none⟩),S] W λr w'=>r=.returned (.tuple #[])/\Steps b 90 f L LA Lc (aQ L v x) W w'):=zH λx W S v f hv ho h=>by
  have:=nS b _ f L LA Lc x W S h ho.lt hL
  rwa [hv]at this
 have Ee:Hid (∀(x:PS) (W:World) (bv:Value) (d:List (List bn)),iy L x->d.length<=4->Eo b gr L LA Lc w x bv (.slice none 0 0) ⟨d,[],0,0,[],0⟩ W->Calls prog 36 #[.pointer (some ⟨b,0,none⟩)] W λr w'=>r=.returned (.tuple #[])/\∃l,Eo b gr L LA Lc w (dY L d.length x).2 l (.slice none 0 0) ⟨d++[(dY L d.length x).1],[],0,0,[],0⟩ w'):=zH λx W bv d ho hn h=>by
  refine(MR b (b+1) L LA Lc x W bv _ d h.st h.br H ho hL hn (zJ8 b) h.st.bk.lt).mono ?_;rintro r w' ⟨rfl,hb,l,O,h2⟩;exact⟨rfl,l,O,h.kr.below hb P,h.hb.trans (hb.mono (by rw[I.out];exact B)),h2,zS.nil _ _⟩
 have a7:(⟨#[80,65,84,84,69,82,78]⟩:ByteArray).toList=l7:=by rw[zFm];rfl
 have a8:(⟨#[124]⟩:ByteArray).toList=[124]:=by rw[zFm]
 have MV:Hid (∀x,iy L x->x.i<=4001):=zH λx h=>by have:=h.lt;omega
 have m:=bF.need H l7 a0;have u:=m.trans (bF.branch H m.ok 0);obtain⟨R,l⟩:=zN (xY L)
 have a:=o.out;clear o;rw[l]at a;unfold xY at l;have t:=zH l;have o:=zH a;clear a l;go_wp2_with fail
 refine(mJ.out ⟨0,0,0,0⟩ _ _ _ _ a7 a0 j.st).mono ?_;rintro r w6 ⟨rfl,y⟩;have q:=zH (j.grow P (by rw[I.out];exact B) y.st y.grown);generalize aQ L l7 ⟨0,0,0,0⟩=s1 at *;have a6:=m.ok;clear y j m;go_wp2_with fail
 refine(Ee.out s1 w6 _ [] a6 (by simp) q.out).mono ?_;rintro r w7 ⟨rfl,p,l⟩;have Pm:Hid (Eo b gr L LA Lc w (dY L 0 s1).2 p (.slice none 0 0) ⟨[(dY L 0 s1).1],[],0,0,[],0⟩ w7):=zH l;clear l q;generalize dY L 0 s1=l at *;have m:=u.ok;obtain⟨l1,s2⟩:=l;simp only at Pm m t;have Bz:=t;clear u t
 go_upto_block 0 with fail
 go_cut[] (λwx=>∃bv,Hid (Eo b gr L LA Lc w R.2 bv (.slice none 0 0) ⟨R.1,[],0,0,[],0⟩ wx))
 case first=>
  clear o;go_wp2_with fail
  go_loopg [] (L.length+1) (λgk wr=>∃(bv:Value) (d:List (List bn)) (x:PS),Hid (ji L gk d x=R)/\L.length-x.i<gk/\Hid (x.err=0->d.length<=4)/\Hid (iy L x)/\Hid (Eo b gr L LA Lc w x bv (.slice none 0 0) ⟨d,[],0,0,[],0⟩ wr))
  case atStart=>exact⟨p,[l1],s2,Bz,by omega,zH (λ_=>by simp),zH m,Pm⟩
  case round=>
   clear Pm Bz;obtain⟨bv,d,x,l,a5,a4,vV,D⟩:=hrel;obtain⟨wo,rfl⟩:∃wo:World,wo=wr:=⟨_,rfl⟩
   obtain⟨k,rfl⟩:∃k,gk=k+1:=⟨gk-1,by omega⟩
   have t:=l.out;rw[qP]at t;have lI:=zH t;clear l t;obtain⟨go,G⟩:=zN (decide (x.err=0)&&fD L x [124])
   have Y:=zH G;clear G;go_upto_region 7 with fail
   go_cut[41] (λv wx=>v=.bool go/\Hid (Eo b gr L LA Lc w x bv (.slice none 0 0) ⟨d,[],0,0,[],0⟩ wx))
   case first=>
    have d3:=D.st.c3
    by_cases t:x.err=0
    case neg=>
     have jA:((x.err:Int)==0)=false:=zB (by omega)
     have l:go=false:=by rw[<-Y.out];simp[t]
     subst l;clear t;go_wp2_with fail
     go_meet
     exact⟨rfl,D⟩
    case pos=>
     have jA:((x.err:Int)==0)=true:=by rw[zFt];omega
     have l:fD L x [124]=go:=by rw[<-Y.out];simp[t]
     have A:=zH l;clear t l;go_wp2_with fail
     refine(a9.out x wo _ _ _ a8 vV.out D.st).mono ?_;rintro r w8 ⟨rfl,u⟩;rw[A.out];have J:=zH (D.old u);clear u D d3;go_wp2_with fail
     go_meet
     exact⟨rfl,J⟩
   case rest=>
   obtain⟨rfl,J⟩:=hcut;clear D;cases go
   case false=>
    have a:=lI.out
    rw[zF3 (by
     have:=Y.out
     by_cases t:x.err=0
     ·right;simpa[t]using this
     exact .inl t)]at a
    subst a;clear lI;go_wp2_with fail
    go_meet
    exact⟨bv,J⟩
   case true=>
    have Q:x.err=0/\fD L x [124]=true:=by simpa using Y.out
    have a:=lI.out;rw[zF2 (by simp[Q.1,Q.2])]at a;have HR:=zH a;have U:=bF.next H vV.out (bM Q.2);have a2:=a4.out Q.1;have gb:=U.trans (bF.branch H U.ok d.length);have u:=U.ok;have ak:=MV.out x vV.out;have ag:=vV.lt;have ad:x.i+1<=(dY L d.length (aO x)).2.i:=(bF.branch H U.ok d.length).le;have A:=zH gb.ok
    have HF:Hid ((dY L d.length (aO x)).2.err=0->d.length+1<=4):=zH λh=>by
     rcases zHu d.length 4 with h4|h4
     ·exact h4
     rw[show d.length=4 by omega]at h;exact absurd h (Ad L _)
    have e1:=J.st.c1;have f1:=J.st.fr 1;have X:=zH (J.next P (by rw[I.out];exact B));clear a lI U gb J Q Y;go_upto_region 9 with fail
    clear e1 f1;generalize wc.setCell ⟨b,1,none⟩ (.int .i64 ((x.i:Int)+1))=W9 at *;go_wp2_with fail
    refine(Ee.out (aO x) W9 bv d u a2 X.out).mono ?_;rintro r ab ⟨rfl,a1,U⟩;have Uo:=zH U;clear U X;go_wp2
    go_roundg k
    case measure=>omega
    case rel=>exact⟨a1,_,_,HR,by omega,zH (λh=>by simpa using HF.out h),A,Uo⟩
 case rest=>
 obtain⟨bv,D⟩:=hcut;have G:iy L R.2:=by rw[<-Bz.out];exact(Ae H _ _ _ m).ok
 clear Pm Bz Ee p m;obtain⟨d,s3⟩:=R;simp only at D G o;have u:=bF.zB1 H G
 have p:Calls prog 38 #[.pointer (some ⟨b,0,none⟩)] wc λr w'=>r=.returned (.tuple #[])/\∃wv,Eo b gr L LA Lc w (ig L s3).2 bv wv ⟨d,(ig L s3).1,0,0,[],0⟩ w':=by
  refine(QN b (b+1) L LA Lc s3 wc bv _ D.st H G hL (zJ8 b) D.st.bk.lt).mono ?_;rintro r w' ⟨rfl,Q,wv,O,h2⟩;exact⟨rfl,wv,O,D.kr.grown Q (aG (by omega)),D.hb.trans ((sW Q (zG5 D.st.bk.lt)).mono (by rw[I.out];exact B)),D.br.grown Q (by omega),h2⟩
 have m:=zH p;generalize ig L s3=A at *;obtain⟨es,s4⟩:=A;simp only at m u o;have Jp:=u.1.ok;have a4:=u.2;clear p u;go_wp2_with fail
 refine m.mono ?_;rintro r w4 ⟨rfl,wv,h4⟩;have u:=zH h4;clear h4 m D;have Y:=bF.tail H Jp
 have A:Calls prog 39 #[.pointer (some ⟨b,0,none⟩)] w4 λr w'=>r=.returned (.tuple #[])/\Eo b gr L LA Lc w (mW L s4).2 bv wv ⟨d,es,(mW L s4).1.1,(mW L s4).1.2.1,(mW L s4).1.2.2.1,(mW L s4).1.2.2.2⟩ w':=by
  refine(Un b bv wv L LA Lc s4 w4 u.st H Jp hL).mono ?_;rintro r w' ⟨rfl,O⟩;exact⟨rfl,O.st,u.kr.grown O.gw (aG (by omega)),u.hb.trans ((sW O.gw (zG5 u.st.bk.lt)).mono (by rw[I.out];exact B)),u.br.grown O.gw (by omega),u.wh.grown O.gw (by omega)⟩
 have LX:=zH A;generalize mW L s4=rt at *;obtain⟨⟨R,win,m,U⟩,p⟩:=rt;simp only at LX Y o;have CJ:=Y.ok;clear A Y;go_wp2_with fail
 refine LX.mono ?_;rintro r w5 ⟨rfl,A⟩;have Y:=zH A;clear A LX u;go_upto_region 12 with fail
 obtain⟨A,a1⟩:=zN (decide (p.err=0)&& !decide ((bC L p).kind=0))
 have u:=zH a1;clear a1
 go_cut[78] (λv wx=>v=.bool A/\Hid (Eo b gr L LA Lc w p bv wv ⟨d,es,R,win,m,U⟩ wx))
 case first=>
  obtain⟨tb,tq,hA,a5,hc⟩:=Y.st.rd.elem (n:=5) xA (by omega) CJ.lt;have a1:=CJ.lt;have r0:w5.cell? ⟨tb,tq+p.i*5,none⟩=some (.int .i64 L[p.i].kind):=hc 0 _ rfl;rw[<-uo CJ.lt]at r0;have c0:=Y.st.c0;have c1:=Y.st.c1;have c3:=Y.st.c3;rw[hA]at c0;have a2:=CJ.lt;clear hA hc
  by_cases t:p.err=0
  case neg=>
   have jA:((p.err:Int)==0)=false:=zB (by omega)
   have l:A=false:=by rw[<-u.out];simp[t]
   subst l;clear t
   go_quiet (fail)
   have Jq:=zH (Y.old (zHf zR nq));go_wp2
   go_meet
   exact⟨rfl,Jq⟩
  case pos=>
   have jA:((p.err:Int)==0)=true:=by rw[zFt];omega
   by_cases hk:(bC L p).kind=0
   case pos=>
    have TW:(((bC L p).kind:Int) !=0)=false:=by rw[zG0];omega
    have l:A=false:=by rw[<-u.out];simp[hk]
    subst l;generalize(bC L p).kind=K at *;clear t hk
    go_quiet (fail)
    have Jq:=zH (Y.old (zHf zR nq));go_wp2
    go_meet
    exact⟨rfl,Jq⟩
   case neg=>
    have TW:(((bC L p).kind:Int) !=0)=true:=by rw[zG1];omega
    have l:A=true:=by rw[<-u.out];simp[hk,t]
    subst l;generalize(bC L p).kind=K at *;clear t hk
    go_quiet (fail)
    have Jq:=zH (Y.old (zHf zR nq));go_wp2
    go_meet
    exact⟨rfl,Jq⟩
 case rest=>
 obtain⟨rfl,j⟩:=hcut;clear Y;obtain⟨l,y⟩:=zN (zB2 L p)
 have Y:l=if A=true then bf L 13 p else p:=by
  rw[<-y,<-u.out];unfold zB2;simp
 have a:=o.out;clear o;rw[y]at a;have o:=zH a;have a1:=zH Y;clear a y Y u;go_upto_if 78 with fail
 go_cut[] (λwx=>Hid (Eo b gr L LA Lc w l bv wv ⟨d,es,R,win,m,U⟩ wx))
 case first=>
  cases A
  case false=>
   have u:l=p:=a1.out;subst u;go_wp2_with fail
   go_meet
   exact j
  case true=>
   have HX:Hid (bf L 13 p=l):=zH a1.symm;have Y:=zH (mr b _ _ L LA Lc p wc 13 j.st CJ.lt hL);go_wp2_with fail
   refine Y.mono ?_;rintro r w8 ⟨rfl,u⟩;have J:Hid (Eo b gr L LA Lc w l bv wv ⟨d,es,R,win,m,U⟩ w8):=zH (by rw[<-HX.out];exact j.grow P (by rw[I.out];exact B) u.st u.grown);clear u j Y;go_wp2_with fail
   go_meet
   exact J
 case rest=>
 have q:=hcut;clear hcut j a1 A;have d3:=q.st.c3
 by_cases t:l.err=0
 case neg=>
  have jA:((l.err:Int) !=0)=true:=by rw[zG1];omega
  have a:=o.out;unfold y8 at a;rw[zF3 t]at a;subst a;clear t o;go_upto_region 15 with fail
  clear d3 jA;have u:=q.st;have Y:=q.kr;have c4:=u.c4;have c3:=u.c3;have HB:=zH q.hb;clear q;obtain⟨W,hW⟩:=zN wc
  rw[hW]at u Y c4 c3 HB⊢;clear hW
  refine wr 11 (some gr) [.is (.agg #["", .slice none 0 0, .int .i64 0, .int .i64 0, .string ⟨#[]⟩, .int .i64 0]),
    .is (.pointer (some ⟨b,0,none⟩)),
    .is (.pointer (some ⟨b,0,none⟩)),
    .is (.pointer (some ⟨b,0,none⟩)),
    .is (.pointer (some ⟨b,4,none⟩)),
    .is (.int .i64 (l.pos:Nat)),
    .is (.pointer (some ⟨b,0,none⟩)),
    .is (.pointer (some ⟨b,0,none⟩)),
    .is (.pointer (some ⟨b,0,none⟩)),
    .is (.pointer (some ⟨b,3,none⟩)),
    .is (.int .i64 (l.err:Nat)),
    .st (λv W=>Bk W gr 52 #["","",(),(),.string ⟨#[]⟩,()]) (λv w w2 hb h=>h.old hb),
    .is (.int .i64 (l.pos:Nat)),
    .is (.int .i64 (l.err:Nat))] [0,11] (by kernel_rfl) (by kernel_rfl) (by kernel_rfl)
    (λC=>.c (ay.z (rG _) [] [] (by kernel_rfl) λqK qa wr hB J qF hK=>?_) <|
    .c (ay.x (rG _) C rfl (λ_ _=>rfl)) <|
    .c (ay.x (rG _) C rfl (λ_ _=>rfl)) <|
    .c (ay.x (rG _) C rfl (λ_ _=>rfl)) <|
    .c (ay.x (rG _) C rfl (λ_ _=>rfl)) <|
    .c (ay.x (rG _) C rfl (λwr A=>by
    have c4:wr.cell? ⟨b,4,none⟩=some (.int .i64 (l.pos:Nat)):=(u.bk.grown A (aG (by omega))).cell 4
    exact bH (lD (by assumption)))) <|
    .c (ay.x (rG _) C rfl (λ_ _=>rfl)) <|
    .c (ay.x (rG _) C rfl (λ_ _=>rfl)) <|
    .c (ay.x (rG _) C rfl (λ_ _=>rfl)) <|
    .c (ay.x (rG _) C rfl (λ_ _=>rfl)) <|
    .c (ay.x (rG _) C rfl (λwr A=>by
    have c3:wr.cell? ⟨b,3,none⟩=some (.int .i64 (l.err:Nat)):=(u.bk.grown A (aG (by omega))).cell 3
    exact bH (lD (by assumption)))) <|
    .c (ay.g [0] [2] (by kernel_rfl) λqK qa wr hB J qF hK=>?_) <|
    .c (ay.x (rG _) C rfl (λ_ _=>rfl)) <|
    .c (ay.x (rG _) C rfl (λ_ _=>rfl)) <| .nil) ?_
  ·clear J qF;go_simp;exact hK _ _ zR rfl
  ·have e2:qa.tmps[2]? =some (.pointer (some ⟨gr,0,none⟩)):=J.1.trans rfl;have a1:=aA qF.1 rfl rfl;clear J qF;exact Bl nZ _ _ rfl (sQ (by assumption)) [.slice none 0 0,.slice none 0 0,.int .i64 0,.int .i64 0,.string ⟨#[]⟩,.int .i64 0] (sQ (by assumption)) (Y.old hB) rfl rfl rfl (λw9 F=>hK _ _ ((below_grown hB _).trans F.grown) (zK5 F.size.symm) F.bk)
  intro qx wr A a;have J:(λv W=>Bk W gr 52 #["","",(),(),.string ⟨#[]⟩,()]) (qx 11) wr:=a 11 rfl rfl;clear a;simp only[bJ,zF0,zGb,zF1,zFp,zFd,zFh,zF4,Act.put,zFf,zFw,zFx];generalize qx 11=a2 at J⊢;refine zM ?_;have a1:=Y.lt;clear Y;go_wp2
  obtain⟨u0,u1,u2,u3,u4,u5⟩:=zc6 J;refine zFg (v:=.tuple #[.agg #["","",(),(),.string ⟨#[]⟩,()],.int .i64 (l.pos:Nat),.int .i64 (l.err:Nat)]) (by simp[results,results15,go_sem,u0,u1,u2,u3,u4,u5]) rfl ?_;exact⟨gr,_,rfl,zFv _,⟨_,_,rfl,lK.nil _ _,zS.nil _ _⟩,readB (by rw[<-I.out];exact HB.out) A a1⟩
 case pos=>
  have jA:((l.err:Int) !=0)=false:=by rw[zG0];omega
  have a:=o.out;unfold y8 at a;rw[zF2 (by omega)]at a;have mF:=zH a;clear t o a;obtain⟨N,hN⟩:=zN (iJ ⟨d,es,R,win,m,U⟩)
  have a5:N<=1000000:=by
   rw[<-hN];have:iJ ⟨d,es,R,win,m,U⟩=aX 0 es:=rfl;omega
  obtain⟨Y,J,a2⟩:=q.wh;obtain⟨A,c,rfl,-⟩:=aK J
  have a1:∀W,Below wc wc W->Calls prog 41 #[.agg #[bv,.slice A Y.length c,R,win,.string (bytes m),U]] W λr w'=>r=.returned (.int .i64 (N:Nat))/\Below W.heap.size W w':=λW hW=>by
   rw[<-hN];exact CO (b+1) W ⟨d,es,R,win,m,U⟩ bv A c Y (aT J hW) (a2.keep λg u Q=>⟨u,hW.block g Q⟩) (by rw[hN];exact a5)
  have MM:=zH a1;have u:=q.st.bk;have q5:wc.cell? ⟨b,5,none⟩=some bv:=(u.cell 5).trans (by simp[dF,di.cells,ja]);have q6:wc.cell? ⟨b,6,none⟩=some (.slice A Y.length c):=(u.cell 6).trans (by simp[dF,di.cells,ja]);have q7:wc.cell? ⟨b,7,none⟩=some (.int .i64 R):=(u.cell 7).trans (by simp[dF,di.cells,ja]);have q8:wc.cell? ⟨b,8,none⟩=some (.int .i64 win):=(u.cell 8).trans (by simp[dF,di.cells,ja]);have q9:wc.cell? ⟨b,9,none⟩=some (.string (bytes m)):=(u.cell 9).trans (by simp[dF,di.cells,ja]);have Q:wc.cell? ⟨b,10,none⟩=some (.int .i64 U):=(u.cell 10).trans (by simp[dF,di.cells,ja]);have a:=mF.out;clear mF;rw[hN]at a;have o:=zH a;clear a1 J a2 hN u a a4 mJ;generalize Y.length=n at *;go_wp2_with fail
  refine(MM.out wc zR).mono ?_;rintro r w9 ⟨rfl,E⟩;have X:=zH (q.old E);replace q5:=(bK E b 5 q.st.bk.lt).trans q5;replace q6:=(bK E b 6 q.st.bk.lt).trans q6;replace q7:=(bK E b 7 q.st.bk.lt).trans q7;replace q8:=(bK E b 8 q.st.bk.lt).trans q8;replace q9:=(bK E b 9 q.st.bk.lt).trans q9;replace Q:=(bK E b 10 q.st.bk.lt).trans Q;clear E q MM d3;have a1:=zH X.kr
  by_cases u:200<N
  ·
   have ab:(200:Int)<(N:Int):=by omega
   have a:=o.out;rw[zF3 u]at a;subst a;clear u o q5 q6 q7 q8 q9 Q;go_wp2_with (first|(refine ae nZ rfl _ _ rfl rfl [.slice none 0 0,.slice none 0 0,.int .i64 0,.int .i64 0,.string ⟨#[]⟩,.int .i64 0] rfl a1.out rfl rfl rfl ?_;intro Yw F))
   obtain⟨u0,u1,u2,u3,u4,u5⟩:=zc6 F.bk;have E:=F.below _ _ X.hb (by rw[I.out];exact zFv _);refine zFg (v:=.tuple #[.agg #["","",(),(),.string ⟨#[]⟩,()],(),.int .i64 2]) (by simp[results,results15,go_sem,u0,u1,u2,u3,u4,u5]) rfl ?_;exact⟨gr,_,rfl,zFv _,⟨_,_,rfl,lK.nil _ _,zS.nil _ _⟩,by rw[<-I.out];exact E⟩
  
  have ab:¬(200:Int)<(N:Int):=by omega
  have a:=o.out;rw[zF2 u]at a;subst a;clear u o
  obtain⟨J,a2,ad⟩:∃A c,bv=.slice A d.length c:=by
   obtain⟨vs,O,_⟩:=X.br;obtain⟨A,c,h,_⟩:=aK O;exact⟨A,c,h⟩
  subst ad;go_wp2_with (first|(refine ae nZ rfl _ _ rfl rfl [.slice J d.length a2,.slice A n c,.int .i64 R,.int .i64 win,.string (bytes m),.int .i64 U] rfl a1.out rfl rfl rfl ?_;intro Yw F))
  obtain⟨u0,u1,u2,u3,u4,u5⟩:=zc6 F.bk;have E:=F.below _ _ X.hb (by rw[I.out];exact zFv _);refine zFg (v:=.tuple #[.agg #[.slice J d.length a2,.slice A n c,R,win,.string (bytes m),U],(),()]) (by simp[results,results15,go_sem,u0,u1,u2,u3,u4,u5]) rfl ?_;exact⟨b+1,_,rfl,by omega,⟨_,_,rfl,X.br.grown F.grown (by omega),X.wh.grown F.grown (by omega)⟩,by rw[<-I.out];exact E⟩
end Go.Proofs.YtbjnhllkdilpfaaGreat
