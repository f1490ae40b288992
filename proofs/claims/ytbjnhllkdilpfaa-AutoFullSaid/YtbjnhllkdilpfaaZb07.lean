/- Part 7 of the proof. No conditions. -/
import Derived.Test.YtbjnhllkdilpfaaZb06
namespace Go.Proofs.Ytbjnhllkdilpfaa
open Go.RowKit
theorem QP (a b:Nat):((a:Int) !=(b:Int))=(a !=b):=by
 by_cases h:a=b
 ·subst h;simp
 ·have h2:(a:Int)≠b:=by omega
  rw[bne_iff_ne.2 h,bne_iff_ne.2 h2]
theorem Di (a b:Nat):((a:Int)==(b:Int))=(a==b):=by
 by_cases h:a=b
 ·subst h;simp
 ·have h2:(a:Int)≠b:=by omega
  rw[beq_eq_false_iff_ne.2 h,beq_eq_false_iff_ne.2 h2]
theorem QQ {c b:Bool} (h:¬c=b):c= !b:=by
 revert h
 cases c<;>cases b<;>decide
section
variable {P:Program} {Q:Exit->Act->World->Prop} {ops:Array Oper} {n:Nat} {Fr:Nat->Bool} {a0:Act} {W:World} {R:Nat->Spec} {k:Nat} {o:Oper}
theorem aj.opt {rest : List Oper} (ho : ops[k]? = some o) (l ds : List Nat) (hfr : Fr k = false) (g : Nat) (b p c : Bool) (hg : o.guard = some (g, b)) (hR : R g = .is (bif p then .bool c else undef)) (hd : ((ops[g]?).bind (·.dst)).isSome = true) (hw : (decide (g < n) && waits ops k g) = true)
  (hl:(l.all fun j=>decide (j<n)&&waits ops k j)=true) (hds:ds.all (outer ops)=true)
  (h:p=true->c=b->∀(K:Act->World->Prop) (a:Act) (w:World),Below W.heap.size W w->dN ops a0 a ds->Facts ops (fun k v w=>(R k).holds v w) a w l->(∀v w',Below w.heap.size w w'->(R k).holds v w'->K (a.put o.dst v) w')->o.wp P a w K Q)
  (hu:(p&&(c==b))=false->∀w,(R k).holds undef w)
  (hr:aj P Q ops n Fr a0 W R (k+1) rest):aj P Q ops n Fr a0 W R k (o::rest):=by
 cases p with
 |false=>exact aj.gone ho hfr g b hg hR hd hw (hu rfl) hr
 |true=>
  by_cases hc:c=b
  ·subst hc;exact aj.yes ho l ds hfr g c hg hR hd hw hl hds (h rfl rfl) hr
  ·have e:c= !b:=QQ hc;subst e;exact aj.no ho hfr g b hg hR hd hw (hu (by cases b<;>rfl)) hr
theorem aj.optX {rest : List Oper} {X : Value} (ho : ops[k]? = some o) (l ds : List Nat) (hfr : Fr k = false) (g : Nat) (b : Bool) {p c : Bool} (hg : o.guard = some (g, b)) (hR : R g = .is (bif p then .bool c else undef)) (hRk : R k = .is (bif (p && (c == b)) then X else undef)) (hd : ((ops[g]?).bind (·.dst)).isSome = true) (hw : (decide (g < n) && waits ops k g) = true)
  (hl:(l.all fun j=>decide (j<n)&&waits ops k j)=true) (hds:ds.all (outer ops)=true)
  (h:p=true->c=b->(p&&(c==b))=true->∀(K:Act->World->Prop) (a:Act) (w:World),Below W.heap.size W w->dN ops a0 a ds->Facts ops (fun k v w=>(R k).holds v w) a w l->(∀v w',Below w.heap.size w w'->v=X->K (a.put o.dst v) w')->o.wp P a w K Q)
  (hr:aj P Q ops n Fr a0 W R (k+1) rest):aj P Q ops n Fr a0 W R k (o::rest):=by
 refine aj.opt ho l ds hfr g b p c hg hR hd hw hl hds (fun hp hc K a w hB qO qF hK=>?_) (fun hu w=>?_) hr
 ·have hP:(p&&(c==b))=true:=by rw[hp,hc];cases b<;>rfl
  refine h hp hc hP K a w hB qO qF fun v w' hb hv=>hK v w' hb ?_
  rw[hRk,hP];exact hv
 ·rw[hRk,hu];rfl
theorem aj.J6 {rest : List Oper} {X : Value} (ho : ops[k]? = some o) (l ds : List Nat) (hfr : Fr k = false) (g : Nat) (b : Bool) {c : Bool} (hg : o.guard = some (g, b)) (hR : R g = .is (.bool c)) (hRk : R k = .is (bif (true && (c == b)) then X else undef)) (hd : ((ops[g]?).bind (·.dst)).isSome = true) (hw : (decide (g < n) && waits ops k g) = true)
  (hl:(l.all fun j=>decide (j<n)&&waits ops k j)=true) (hds:ds.all (outer ops)=true)
  (h:true=true->c=b->(true&&(c==b))=true->∀(K:Act->World->Prop) (a:Act) (w:World),Below W.heap.size W w->dN ops a0 a ds->Facts ops (fun k v w=>(R k).holds v w) a w l->(∀v w',Below w.heap.size w w'->v=X->K (a.put o.dst v) w')->o.wp P a w K Q)
  (hr:aj P Q ops n Fr a0 W R (k+1) rest):aj P Q ops n Fr a0 W R k (o::rest):=
 aj.optX (p:=true) ho l ds hfr g b hg hR hRk hd hw hl hds h hr
end
theorem aH {ops:Array Oper} {a:Act} {w:World} {j d:Nat} {S:Spec} {X:Value} (h:∃v,aT ops a j v/\S.holds v w) (hS:S=.is X) (hd:(ops[j]?).bind (·.dst)=some d):a.tmps[d]? =some X:=by
 obtain⟨v,h1,h2⟩:=h;subst hS;have h2:v=X:=h2;subst h2;unfold aT at h1;rw[hd]at h1;exact h1
theorem fif {ops:Array Oper} {a:Act} {w:World} {j d:Nat} {S:Spec} {X:Value} {p:Bool} (h:∃v,aT ops a j v/\S.holds v w) (hS:S=.is (bif p then X else undef)) (hp:p=true) (hd:(ops[j]?).bind (·.dst)=some d):a.tmps[d]? =some X:=by
 subst hp;exact aH h hS hd
def Np (ops:Array Oper) (n d:Nat):Bool:=(List.range n).all fun k=>(ops[k]?).bind (·.dst) !=some d
theorem yX {ops:Array Oper} {n:Nat} {a0 a:Act} (h:∀d:Tmp,(∀k:Nat,k<n->(ops[k]?).bind (·.dst)≠some d)->a.tmps[d]? =a0.tmps[d]?):∀(l:List Nat),l.all (Np ops n)=true->dN ops a0 a l
 |[],_=>trivial
 |d::l,hl=>by
  simp only[List.all_cons,Bool.and_eq_true]at hl;refine⟨h d (fun k hk=>?_),yX h l hl.2⟩;have:=List.all_eq_true.1 hl.1 k (List.mem_range.2 hk)
  simpa using this
section
variable {P:Program} {Q:Exit->Act->World->Prop} {ops:Array Oper} {n:Nat} {Fr:Nat->Bool} {a0:Act} {W:World} {R:Nat->Spec} {k:Nat} {o:Oper}
theorem aj.TM {rest : List Oper} (ho : ops[k]? = some o) (l ds : List Nat) (hfr : Fr k = false) (hg : o.guard = none) (hl : (l.all fun j => decide (j < n) && waits ops k j) = true) (hds : ds.all (Np ops n) = true)
  (h:∀(K:Act->World->Prop) (a:Act) (w:World),Below W.heap.size W w->dN ops a0 a ds->Facts ops (fun k v w=>(R k).holds v w) a w l->(∀v w',Below w.heap.size w w'->(R k).holds v w'->K (a.put o.dst v) w')->o.wp P a w K Q)
  (hr:aj P Q ops n Fr a0 W R (k+1) rest):aj P Q ops n Fr a0 W R k (o::rest):=by
 refine⟨fun K L a w hi hA hK=>?_,hr⟩;rw[if_pos (by unfold Region.wanted;rw[hg])];exact h K a w hi.s (yX hi.old ds hds) (lH hi ho hA hl) (fun v w' h1 h2=>hK v w' h1 h2 (fun h=>by rw[hfr]at h;cases h))
end
end Go.Proofs.Ytbjnhllkdilpfaa
namespace Go.Proofs.Ytbjnhllkdilpfaa
open Go.RowKit
set_option maxRecDepth 10000
def vX (a:Nat):Bool:=decide (9218868437227405312<a%9223372036854775808)
def bH (a:Nat):Nat:=if vX a=true then 9221120237041090560 else a
theorem BV (a:Nat) (h:a<18446744073709551616):bH a<18446744073709551616:=by unfold bH;split<;>omega
theorem BX (a:Nat) (h:vX a=true):bH a=9221120237041090560:=if_pos h
theorem BZ (a:Nat) (h:vX a=false):bH a=a:=if_neg (by rw[h];simp)
theorem zC (a:Nat) (h:a<18446744073709551616):bits .and .u64 (a:Int) 2047=((a%2048:Nat):Int):=by
 have:=u64_and_nat a 2047 h (by omega);rw[show((2047:Nat):Int)=2047 from rfl]at this;rw[this,nat_mask11]
theorem Ol (a:Nat) (h:a<18446744073709551616):bits .and .u64 (a:Int) 4503599627370495=((a%4503599627370496:Nat):Int):=by
 have:=u64_and_nat a 4503599627370495 h (by omega);rw[show((4503599627370495:Nat):Int)=4503599627370495 from rfl]at this;rw[this,show 4503599627370495=2^52-1 from by decide,Nat.and_two_pow_sub_one_eq_mod]
theorem Rl (a:Nat):vX a=(decide (a/4503599627370496%2048=2047)&&decide (a%4503599627370496≠0)):=by
 unfold vX;rw[Bool.eq_iff_iff];simp only[decide_eq_true_eq,Bool.and_eq_true];omega
theorem Cb (a : Nat) (h : a < 18446744073709551616) (w : World) :
  Calls Try.prog 106 #[.int .u64 a] w fun e w'=>e=.returned (.bool (vX a))/\w=w':=by
 have e1:bits .and .u64 ((a:Int)/4503599627370496) 2047=((a/4503599627370496%2048:Nat):Int):=by
  rw[<-zC _ (by omega)];rfl
 have e2:=Ol a h;have e3:=Rl a
 by_cases h1:a/4503599627370496%2048=2047
 ·by_cases h2:a%4503599627370496=0
  ·have hn:vX a=false:=by rw[e3];simp[h2]
   have g1:(bits .and .u64 ((a:Int)/4503599627370496) 2047==2047)=true:=by rw[e1,h1];rfl
   have g2:(bits .and .u64 (a:Int) 4503599627370495 !=0)=false:=by rw[e2,h2];rfl
   rw[hn];clear e1 e2 e3 h1 h2 hn
   go_enter Try.func106,Try.ntmps106
   go_wp2
   all_goals go_ret
   all_goals exact⟨rfl,rfl⟩
  ·have hn:vX a=true:=by rw[e3];simp[h1,h2]
   have g1:(bits .and .u64 ((a:Int)/4503599627370496) 2047==2047)=true:=by rw[e1,h1];rfl
   have g2:(bits .and .u64 (a:Int) 4503599627370495 !=0)=true:=by rw[e2,bne_iff_ne];omega
   rw[hn];clear e1 e2 e3 h1 h2 hn
   go_enter Try.func106,Try.ntmps106
   go_wp2
   all_goals go_ret
   all_goals exact⟨rfl,rfl⟩
 ·have hn:vX a=false:=by rw[e3];simp[h1]
  have g1:(bits .and .u64 ((a:Int)/4503599627370496) 2047==2047)=false:=by rw[e1,beq_eq_false_iff_ne];omega
  rw[hn];clear e1 e2 e3 h1 hn
  go_enter Try.func106,Try.ntmps106
  go_wp2
  all_goals go_ret
  all_goals exact⟨rfl,rfl⟩
theorem sS (a : Nat) (h : a < 18446744073709551616) (w : World) :
  Calls Try.prog 102 #[.int .u64 a] w fun e w'=>e=.returned (.int .u64 (bH a:Nat))/\w=w':=by
 cases hn:vX a
 ·rw[BZ a hn]
  go_enter Try.func102,Try.ntmps102
  go_wp2_with (go_at_call 106;refine(Cb a h _).mono ?_;rintro e w' ⟨rfl,rfl⟩)
  go_ret
  exact⟨rfl,rfl⟩
 ·rw[BX a hn]
  go_enter Try.func102,Try.ntmps102
  go_wp2_with (go_at_call 106;refine(Cb a h _).mono ?_;rintro e w' ⟨rfl,rfl⟩)
  go_ret
  exact⟨rfl,rfl⟩
structure V where
 k:Int
 b:Nat
def V.v (x:V):Value:=.agg #[.int .i64 x.k,.int .u64 x.b]
def V.cells (x:V):List Value:=[.int .i64 x.k,.int .u64 x.b]
end Go.Proofs.Ytbjnhllkdilpfaa
namespace Go.Proofs.Ytbjnhllkdilpfaa
open Go.RowKit
set_option linter.unusedSimpArgs false
set_option maxHeartbeats 16000000
set_option maxRecDepth 100000
def Zu (op k:Int):Int:=
 if op=6/\(k=1\/k=4)then k else if(op=15/\k=2)\/(op=17/\k=4)then 2 else if op=16/\k=1 then 4 else 0
def Zv (op k:Int):Int:=
 if(1<=op/\op<=4/\(k=1\/k=4))\/(op=5/\k=1)then k
 else if((op=7\/op=8)/\1<=k/\k<=4)\/(9<=op/\op<=12/\(k=1\/k=4))\/((op=13\/op=14)/\k=2)then 2 else 0
def FB (op:Int):List Int->Int
 |[k]=>Zu op k
 |[a,b]=>if a=b then Zv op a else 0
 |_=>0
def aI (l:List Int):List Value:=l.map fun k=>.int .i64 k
theorem FC (op : Int) (l : List Int) (A : Option Addr) (c : Nat) (w : World) (hl : l.length ≤ 140737488351232) (h : Rd w w.heap.size A (aI l)) :
  Calls Try.prog 87 #[.int .i64 op,.slice A l.length c] w fun e w'=>e=.returned (.int .i64 (FB op l))/\Below w.heap.size w w':=by
 match l,h with
 |[],h=>
  go_enter Try.func87,Try.ntmps87
  go_wp2
  go_region
  go_wp2
  go_ret
  exact⟨rfl,Below.drew zR⟩
 |[k],h=>
  obtain⟨b,o,rfl,_,hc⟩:=h.at_ (j:=0) (by simp[aI]);have hc0:w.cell? ⟨b,o,none⟩=some (.int .i64 k):=hc 0 _ rfl;clear h hc
  go_enter Try.func87,Try.ntmps87
  go_wp2
  all_goals go_ret
  all_goals(refine⟨?_,Below.refl _ _⟩;apply fC;(try simp only[FB,Bool.and_eq_true,Bool.or_eq_true,beq_iff_eq,decide_eq_true_eq,Bool.not_eq_true,Bool.and_eq_false_iff,Bool.or_eq_false_iff,beq_eq_false_iff_ne,decide_eq_false_iff_not]at *);unfold Zu;repeat' split)
  all_goals(try omega)
 |[k,k2],h=>
  obtain⟨b,o,rfl,_,hc⟩:=h.at_ (j:=0) (by simp[aI]);have hc0:w.cell? ⟨b,o,none⟩=some (.int .i64 k):=hc 0 _ rfl;have hc1:w.cell? ⟨b,o+1,none⟩=some (.int .i64 k2):=hc 1 _ rfl;clear h hc
  by_cases e:k=k2
  ·subst e
   go_enter Try.func87,Try.ntmps87
   go_wp2
   go_region
   go_wp2
   all_goals go_ret
   all_goals(refine⟨?_,Below.drew zR⟩;apply fC;(try simp only[FB,Bool.and_eq_true,Bool.or_eq_true,beq_iff_eq,decide_eq_true_eq,Bool.not_eq_true,Bool.and_eq_false_iff,Bool.or_eq_false_iff,beq_eq_false_iff_ne,decide_eq_false_iff_not,if_true]at *);unfold Zv;repeat' split)
   all_goals(try omega)
  ·go_enter Try.func87,Try.ntmps87
   go_wp2
   go_region
   go_wp2
   go_ret
   exact⟨by simp[FB,e],Below.drew zR⟩
 |k::k2::k3::r,h=>
  clear h;have hn:((k::k2::k3::r).length:Int)≠1:=by simp;omega
  have hn2:(((k::k2::k3::r).length:Int) !=2)=true:=by rw[bne_iff_ne];simp;omega
  generalize hm:(k::k2::k3::r).length=n at *
  go_enter Try.func87,Try.ntmps87
  go_wp2
  go_region
  go_wp2
  go_ret
  exact⟨rfl,Below.drew zR⟩
end Go.Proofs.Ytbjnhllkdilpfaa
namespace Go.Proofs.Ytbjnhllkdilpfaa
open Go.RowKit
set_option maxRecDepth 10000
theorem bitsOf (b:Nat) (w:World):(callFunc 103 #[.float .f64 b]).run Try.prog w=.ok (.value (.int .u64 b)) w:=by kernel_rfl
theorem ofBits (b:Nat) (w:World):(callFunc 105 #[.int .u64 b]).run Try.prog w=.ok (.value (.float .f64 b)) w:=by kernel_rfl
def FD (op:BinOp) (x y:Nat):Nat:=match floatBits op .f64 x y with|some r=>bH r|none=>9221120237041090560
theorem Ou (op:BinOp) (x y:Nat):FD op x y<18446744073709551616:=by
 unfold FD;cases h:floatBits op .f64 x y with
 |none=>exact(by decide:(9221120237041090560:Nat)<18446744073709551616)
 |some r=>have:=floatBits_wf h;simp[Lit.wf]at this;exact BV _ this
theorem Ov (t:Nat):vX ((t%2)*2^63+0x7ff0000000000000+1+(t/2)%(2^52-1))=true/\(t%2)*2^63+0x7ff0000000000000+1+(t/2)%(2^52-1)<18446744073709551616:=by
 have hc:t/2%(2^52-1)<2^52-1:=Nat.mod_lt _ (by decide);have hd:t%2<2:=Nat.mod_lt _ (by decide);generalize t/2%(2^52-1)=c at *;generalize t%2=d at *;unfold vX;have:d=0\/d=1:=by omega
 rcases this with rfl|rfl
 ·constructor
  ·exact decide_eq_true (by omega)
  ·omega
 ·constructor
  ·exact decide_eq_true (by omega)
  ·omega
theorem qM (op : BinOp) (ho : op = .add ∨ op = .sub ∨ op = .mul ∨ op = .quo) (t : TypeId) (x y : Nat) (w : World) :
  ∃r w',(binOp op t (.float .f64 x) (.float .f64 y)).run Try.prog w=.ok (.float .f64 r) w'/\Below w.heap.size w w'/\bH r=FD op x y/\r<18446744073709551616:=by
 cases h:floatBits op .f64 x y with
 |some r=>
  refine⟨r,w,run_float_arith w op t .f64 x y r h,Below.refl _ _,?_,?_⟩
  ·unfold FD;rw[h]
  ·have:=floatBits_wf h;simpa[Lit.wf]using this
 |none=>
  have ht:=Ov (w.tape w.drawn (.nanBits .f64 x y));refine⟨_,w.drew,?_,Below.drew zR,?_,ht.2⟩
  ·unfold floatBits at h;rcases ho with rfl|rfl|rfl|rfl<;>simp only at h<;>simp[binOp,Op.floatArith,h,Question.forced,Question.cut]
  ·unfold FD;rw[h];exact BX _ ht.1
def ofInt (n:Int):Nat:=bH (floatOfInt .f64 n)
end Go.Proofs.Ytbjnhllkdilpfaa
namespace Go.Proofs.Ytbjnhllkdilpfaa
open Go.RowKit
set_option linter.unusedSimpArgs false
set_option maxRecDepth 10000
def I64 (n:Int):Prop:= -9223372036854775808<=n/\n<9223372036854775808
end Go.Proofs.Ytbjnhllkdilpfaa
namespace Go.Proofs.Ytbjnhllkdilpfaa
open Go.RowKit
set_option linter.unusedSimpArgs false
set_option linter.unusedVariables false
set_option maxRecDepth 10000
def un (n:Int):Nat:=(n%18446744073709551616).toNat
end Go.Proofs.Ytbjnhllkdilpfaa
namespace Go.Proofs.Ytbjnhllkdilpfaa
open Go.RowKit
set_option linter.unusedSimpArgs false
set_option linter.unusedVariables false
set_option maxRecDepth 20000
end Go.Proofs.Ytbjnhllkdilpfaa
namespace Go.Proofs.Ytbjnhllkdilpfaa
open Go.RowKit
set_option linter.unusedSimpArgs false
set_option linter.unusedVariables false
set_option maxRecDepth 10000
end Go.Proofs.Ytbjnhllkdilpfaa
namespace Go.Proofs.Ytbjnhllkdilpfaa
open Go.RowKit
set_option maxRecDepth 10000
end Go.Proofs.Ytbjnhllkdilpfaa
namespace Go.Proofs.Ytbjnhllkdilpfaa
open Go.RowKit
set_option linter.unusedVariables false
set_option maxRecDepth 10000
theorem Ox (n:Int):ofInt n<18446744073709551616:=BV _ (by have:=floatOfInt_wf .f64 n;simpa[Lit.wf]using this)
@[go_sem] theorem VO (k b:Int) (w:World):(Instr.field 74 (.agg #[.int .i64 k,.int .u64 b]) 0).run Try.prog w=.ok (.int .i64 k) w:=by kernel_rfl
@[go_sem] theorem VP (k b:Int) (w:World):(Instr.field 74 (.agg #[.int .i64 k,.int .u64 b]) 1).run Try.prog w=.ok (.int .u64 b) w:=by kernel_rfl
@[go_sem] theorem VQ (k b:Int) (w:World):(Instr.field 162 (.agg #[.int .i64 k,.int .u64 b]) 0).run Try.prog w=.ok (.int .i64 k) w:=by kernel_rfl
@[go_sem] theorem VR (k b:Int) (w:World):(Instr.field 162 (.agg #[.int .i64 k,.int .u64 b]) 1).run Try.prog w=.ok (.int .u64 b) w:=by kernel_rfl
end Go.Proofs.Ytbjnhllkdilpfaa
namespace Go.Proofs.Ytbjnhllkdilpfaa
open Go.RowKit
set_option linter.unusedSimpArgs false
set_option linter.unusedVariables false
set_option maxRecDepth 10000
end Go.Proofs.Ytbjnhllkdilpfaa
namespace Go.Proofs.Ytbjnhllkdilpfaa
open Go.RowKit
set_option linter.unusedVariables false
set_option maxRecDepth 10000
def sg (neg:Bool) (n:Nat):Int:=if neg=true then -(n:Int)else n
end Go.Proofs.Ytbjnhllkdilpfaa
namespace Go.Proofs.Ytbjnhllkdilpfaa
open Go.RowKit
set_option linter.unusedSimpArgs false
set_option linter.unusedVariables false
inductive ax
 |mk (op kind:Int) (A:Option Addr) (c:Nat) (args:List ax) (vk:Int) (vb:Nat) (pos attr:Int)
def ax.cells:ax->List Value
 |.mk op kind A c args vk vb pos a=>[.int .i64 op,.int .i64 kind,.slice A args.length c,.int .i64 vk,.int .u64 vb,.int .i64 pos,.int .i64 a]
def ax.val (n:ax):Value:=.agg n.cells.toArray
theorem ax.len (n:ax):n.cells.length=7:=by cases n;rfl
def yB:Nat->ax->World->Nat->Prop
 |0,_,_,_=>False
 |d+1,.mk op kind A c args vk vb pos a,w,B=>Rd w B A (args.flatMap ax.cells)/\args.length<=1048576/\vb<18446744073709551616/\∀x∈args,yB d x w B
theorem yB.below {w w':World} {B:Nat} (hb:Below B w w'):∀{d:Nat} {n:ax},yB d n w B->yB d n w' B
 |0,_,h=>h
 |d+1,.mk ..,h=>⟨h.1.below hb,h.2.1,h.2.2.1,fun x hx=>yB.below hb (h.2.2.2 x hx)⟩
theorem yB.more {w:World} {B B':Nat} (hB:B<=B'):∀{d:Nat} {n:ax},yB d n w B->yB d n w B'
 |0,_,h=>h
 |d+1,.mk ..,h=>⟨h.1.more hB,h.2.1,h.2.2.1,fun x hx=>yB.more hB (h.2.2.2 x hx)⟩
theorem yB.old {w w':World} {d:Nat} {n:ax} (h:yB d n w w.heap.size) (hb:Below w.heap.size w w'):yB d n w' w'.heap.size:=(h.below hb).more hb.size
theorem yB.up {w:World} {B:Nat}:∀{d:Nat} {n:ax},yB d n w B->yB (d+1) n w B
 |0,_,h=>h.elim
 |d+1,.mk ..,h=>⟨h.1,h.2.1,h.2.2.1,fun x hx=>(h.2.2.2 x hx).up⟩
end Go.Proofs.Ytbjnhllkdilpfaa
namespace Go.Proofs.Ytbjnhllkdilpfaa
open Go.RowKit
set_option linter.unusedVariables false
section
variable {P:Program} {ops:Array Oper} {Q:Exit->Act->World->Prop}
def O3 (ops:Array Oper) (n:Nat):Bool:=(List.range ops.size).all fun k=>decide (k<n)||(List.range n).all fun j=>waits ops k j
theorem O4 {n k j : Nat} {o : Oper} (h : O3 ops n = true) (ho : ops[k]? = some o) (hn : n ≤ k) (hj : j < n) {L : Nat → Bool} (hL : ∀ (k : Nat) (o : Oper), ops[k]? = some o → L k = true → ∀ e ∈ o.after, Region.binds .any e = true → L e.on = true)
  (hA:∀e∈o.after,Region.binds .any e=true->L e.on=true):L j=true:=by
 have hk:k<ops.size:=(Array.getElem?_eq_some_iff.1 ho).1;have h1:=List.all_eq_true.1 h k (List.mem_range.2 hk);simp only[Bool.or_eq_true,decide_eq_true_eq]at h1;have h2:=h1.resolve_left (by omega);exact dH ho (List.all_eq_true.1 h2 j (List.mem_range.2 hj)) hL hA
def doneN (z n:Nat):Array Bool:=((List.range z).map fun k=>decide (k<n)).toArray
theorem Sv {listed:Array Bool} {z n:Nat} (hz:listed.size=z) (h1:∀k,k<n->listed.getD k false=true) (h2:∀j,n<=j->listed.getD j false=false):listed=doneN z n:=by
 apply Array.ext_getElem?
 intro i
 by_cases hi:i<z
 ·have e:listed[i]? =some (listed.getD i false):=by rw[Array.getD_eq_getD_getElem?,Array.getElem?_eq_getElem (by omega)];rfl
  rw[e];unfold doneN;rw[List.getElem?_toArray,List.getElem?_map,List.getElem?_range hi]
  by_cases hn:i<n
  ·rw[h1 i hn];simp[hn]
  ·rw[h2 i (by omega)];simp[hn]
 ·rw[Array.getElem?_eq_none (by omega),Array.getElem?_eq_none (by simp[doneN];omega)]
theorem IQ {n : Nat} {Fr : Nat → Bool} {a0 : Act} {S : World → Prop} {R : Nat → Value → World → Prop} {T : World → World → Prop} (hn : n ≤ ops.size) (hf : fK ops a0.tmps.size = true) (gK : O3 ops n = true)
  (hST:∀w w',S w->T w w'->S w') (QO:∀k v w w',S w->T w w'->R k v w->R k v w') (YC:∀w w',T w w'->w.heap.size<=w'.heap.size)
  (hall:uh P Q ops n Fr a0 S R T 0 (ops.toList.take n))
  (hend:∀(fuel:Nat) (listed:Array Bool) a w,ops.size-n<=fuel->listed.size=ops.size->(∀k,k<n->listed.getD k false=true)->(∀j,n<=j->listed.getD j false=false)->RInv ops n Fr a0 S R (fun k=>listed.getD k false) a w->wpAny P .any ops Q fuel listed a w):
  ∀(fuel:Nat) (listed:Array Bool) (a:Act) (w:World),listed.size=ops.size->listed.toList.count false<=fuel->(∀j,n<=j->listed.getD j false=false)->RInv ops n Fr a0 S R (fun k=>listed.getD k false) a w->wpAny P .any ops Q fuel listed a w:=by
 have enough:∀(listed:Array Bool) (m:Nat),listed.size=ops.size->(∀j,m<=j->listed.getD j false=false)->m<=ops.size->ops.size-m<=listed.toList.count false:=by
  intro listed m hz h hm
  have h1:(listed.toList.drop m).count false=ops.size-m:=by
   rw[List.count_eq_length.2]
   ·simp[hz]
   ·intro b hb;obtain⟨i,hi,rfl⟩:=List.mem_iff_getElem.1 hb;have:=h (m+i) (by omega);rw[List.length_drop,Array.length_toList]at hi;rw[Array.getD_eq_getD_getElem?,Array.getElem?_eq_getElem (by omega)]at this;simp only[List.getElem_drop,Array.getElem_toList]
    simpa using this.symm
  have h2:=List.Sublist.count_le false (List.drop_sublist m listed.toList);omega
 intro fuel
 induction fuel with
 |zero=>
  intro listed a w hz hc hl hi;have hlen:=enough listed n hz hl hn
  have fD:∀k,k<n->listed.getD k false=true:=by
   intro k hk;have hlt:k<listed.size:=by omega
   rw[Array.getD_eq_getD_getElem?,Array.getElem?_eq_getElem hlt];have:false∉listed.toList:=List.count_eq_zero.1 (by omega);cases hx:listed[k]with
   |true=>rfl
   |false=>exact absurd (by rw[<-hx];simp) this
  exact hend 0 listed a w (by omega) hz fD hl hi
 |succ fuel ih=>
  intro listed a w hz hc hl hi
  by_cases fD:∀k,k<n->listed.getD k false=true
  ·exact hend (fuel+1) listed a w (by have:=enough listed n hz hl hn;omega) hz fD hl hi
  refine⟨fun hr=>?_,fun i hmem=>?_⟩
  ·exfalso;refine fD ?_;intro k
   induction k using Nat.strongRecOn with
   |ind k ihk=>
    intro hk;cases hlk:listed.getD k false with
    |true=>rfl
    |false=>
     exfalso;have hks:k<ops.size:=by omega
     have hmem:k∈Region.ready .any ops listed:=by
      rw[mem_ready];refine⟨?_,ops[k],Array.getElem?_eq_getElem hks,?_⟩
      ·rw[Array.getD_eq_getD_getElem?,Array.getElem?_eq_getElem (by omega:k<listed.size)]at hlk⊢;exact hlk
      ·intro e he hb;have hlt:=pM hf (Array.getElem?_eq_getElem hks) he hb;exact ihk e.on hlt (by omega)
     rw[hr]at hmem;cases hmem
  obtain⟨hlt0,o,ho,iO⟩:=mem_ready.1 hmem;obtain⟨hlt,hg⟩:=gV hlt0
  have hin:i<n:=by
   rcases Nat.lt_or_ge i n with h|h
   ·exact h
   ·exfalso;exact fD fun k hk=>O4 gK ho h hk (L:=fun k=>listed.getD k false) hi.closed iO
  have hs:=hall.get (i:=i) (o:=o) (by rw[List.getElem?_take_of_lt hin];simpa using ho);rw[Nat.zero_add]at hs
  have next:∀v w',T w w'->R i v w'->(Fr i=true->o.dst.isSome=true/\∃g,bZ v=some g/\w.heap.size<=g/\g<w'.heap.size)->wpAny P .any ops Q fuel (listed.setIfInBounds i true) (a.put o.dst v) w':=by
   intro v w' hT hR hF;refine ih _ _ _ (by simpa using hz) ?_ ?_ ?_
   ·have:(listed.toList.set i true).count false=listed.toList.count false-1:=by
     rw[List.count_set (by simpa using hlt)]
     have:listed[i]=false:=by
      rw[Array.getElem?_eq_getElem hlt]at hg
      simpa using hg
     simp[this]
    simp only[Array.toList_setIfInBounds];omega
   ·intro j hj;rw[getD_set_ne false (by omega)];exact hl j hj
   ·exact hi.next hf hST QO YC hin ho iO (fun k hk hx=>by
     have hx:(listed.setIfInBounds i true).getD k false=true:=hx
     rwa [getD_set_ne false hk]at hx) (fun k hx=>getD_set_true hx) hT hR hF
  have:=hs (wpAny P .any ops Q fuel (listed.setIfInBounds i true)) _ a w hi iO next;unfold wpOp;rw[ho];simp only
  split
  ·rename_i hw
   rw[if_pos hw]at this;exact .inl this
  ·rename_i hw
   rw[if_neg hw]at this;exact this
theorem qm {id : Nat} {a0 : Act} {W : World} (n m : Nat) (ld : Array Bool) (Fr : Nat → Bool) (hm : P.follows .mixedOrders = true) (R : Nat → Spec) (hf : (fK ops a0.tmps.size && O3 ops n && decide (n ≤ ops.size)) = true)
  (hmz:ops.size=n+m) (hld:doneN ops.size n=ld)
  (hall:uh P Q ops n Fr a0 (fun w=>Below W.heap.size W w) (fun k v w=>(R k).holds v w) (fun w w'=>Below w.heap.size w w') 0 (ops.toList.take n))
  (hend:∀(f:Nat) (vals:List Value) (w:World),vals.length=n->Below W.heap.size W w->(∀k v,vals[k]? =some v->(R k).holds v w)->
   (∀j k u v,j≠k->Fr j=true->Fr k=true->vals[j]? =some u->vals[k]? =some v->bZ u≠bZ v)->wpAny P .any ops Q (f+m) ld (aN (ops.toList.take n) vals a0) w):
  (Code.region id ops true).wp P Q a0 W:=by
 simp only[Bool.and_eq_true,decide_eq_true_eq]at hf;obtain⟨⟨hf,gK⟩,hn⟩:=hf;refine wp_region_any hm ?_;refine IQ (n:=n) (Fr:=Fr) (S:=fun w=>Below W.heap.size W w) (R:=fun k v w=>(R k).holds v w) (T:=fun w w'=>Below w.heap.size w w') hn hf gK (fun w w' h1 h2=>h1.trans (h2.mono h1.size)) (fun k v w w' _ h2 h3=>(R k).keep h2 h3) (fun w w' h=>h.size) hall ?_ _ _ _ _ (by simp) (by simp) (by intro j _;simp[Array.getD]) ?_
 ·intro fuel listed a w hfu hzl hL hl2 hi;obtain⟨vals,hl,hv⟩:=qC (ops:=ops) (a:=a) (w:=w) (R:=fun k v w=>(R k).holds v w) n fun k hk=>hi.got k hk (hL k hk)
  have hto:∀k:Nat,((ops.toList.take n)[k]?).bind (·.dst)=if k<n then(ops[k]?).bind (·.dst)else none:=by
   intro k
   by_cases hk:k<n
   ·rw[if_pos hk,List.getElem?_take_of_lt hk,Array.getElem?_toList]
   ·rw[if_neg hk,List.getElem?_eq_none (by simp;omega)];rfl
  have:a=aN (ops.toList.take n) vals a0:=by
   obtain⟨tm,df⟩:=a
   have h1:tm=(aN (ops.toList.take n) vals a0).tmps:=by
    apply Array.ext_getElem?
    intro d
    by_cases hd:∃k:Nat,k<n/\(ops[k]?).bind (·.dst)=some d
    ·obtain⟨k,hkn,hk⟩:=hd;have hg:vals[k]? =some vals[k]:=List.getElem?_eq_getElem (by omega);have h2:=(hv k _ hg).1;unfold aT at h2;rw[hk]at h2;simp only at h2;rw[h2]
     symm
     refine kY _ _ _ k (by rw[hto,if_pos hkn];exact hk) hg (fun j hj=>?_) (vM hf (i:=k) hk);rw[hto]
     split
     ·exact nY hf (i:=k) (j:=j) hj (d:=d) hk
     ·simp
    ·have hd:∀k:Nat,k<n->(ops[k]?).bind (·.dst)≠some d:=fun k hkn hk=>hd ⟨k,hkn,hk⟩
     rw[gG _ _ _ (fun k=>by
      rw[hto]
      split
      ·rename_i h;exact hd k h
      ·simp)]
     exact hi.old d hd
   have h2:df=(aN (ops.toList.take n) vals a0).defers:=by rw[gW];exact hi.defers
   rw[h1,h2]
  rw[this];obtain⟨f,rfl⟩:∃f,fuel=f+m:=⟨fuel-m,by omega⟩
  rw[Sv hzl hL hl2,hld];refine hend f vals w hl hi.s (fun k v h=>(hv k v h).2) fun j k u v hjk Ee pg hu hv2=>?_
  have hjn:j<n:=by have:=(List.getElem?_eq_some_iff.1 hu).1;omega
  have hkn:k<n:=by have:=(List.getElem?_eq_some_iff.1 hv2).1;omega
  exact hi.apart j k hjn hkn hjk (hL j hjn) (hL k hkn) Ee pg u v (hv j u hu).1 (hv k v hv2).1
 ·refine⟨?_,rfl,rfl,fun _ _=>rfl,?_,?_,?_,?_⟩
  ·exact Below.drew zR
  ·intro k _ hk;simp[Array.getD]at hk
  ·intro k o _ hk;simp[Array.getD]at hk
  ·intro k _ hk;simp[Array.getD]at hk
  ·intro j k _ _ _ hk;simp[Array.getD]at hk
end
end Go.Proofs.Ytbjnhllkdilpfaa
