/- Part 6 of the proof. No conditions. -/
import Derived.Test.YtbjnhllkdilpfaaZc04
import Derived.Test.YtbjnhllkdilpfaaZc05
namespace Go.Proofs.Ytbjnhllkdilpfaa
open Go.RowKit
set_option maxRecDepth 10000
theorem bitsOf (b:Nat) (w:World):(callFunc 103 #[.float .f64 b]).run Try.prog w=.ok (.value (.int .u64 b)) w:=by kernel_rfl
theorem ofBits (b:Nat) (w:World):(callFunc 105 #[.int .u64 b]).run Try.prog w=.ok (.value (.float .f64 b)) w:=by kernel_rfl
def FI (op:BinOp) (x y:Nat):Nat:=match floatBits op .f64 x y with|some r=>bu r|none=>9221120237041090560
theorem PG (op:BinOp) (x y:Nat):FI op x y<18446744073709551616:=by
 unfold FI;cases h:floatBits op .f64 x y with
 |none=>exact(by decide:(9221120237041090560:Nat)<18446744073709551616)
 |some r=>have:=floatBits_wf h;simp[Lit.wf]at this;exact CY _ this
theorem PH (t:Nat):xA ((t%2)*2^63+0x7ff0000000000000+1+(t/2)%(2^52-1))=true/\(t%2)*2^63+0x7ff0000000000000+1+(t/2)%(2^52-1)<18446744073709551616:=by
 have hc:t/2%(2^52-1)<2^52-1:=Nat.mod_lt _ (by decide);have hd:t%2<2:=Nat.mod_lt _ (by decide);generalize t/2%(2^52-1)=c at *;generalize t%2=d at *;unfold xA;have:d=0\/d=1:=by omega
 rcases this with rfl|rfl
 ·constructor
  ·exact decide_eq_true (by omega)
  ·omega
 ·constructor
  ·exact decide_eq_true (by omega)
  ·omega
theorem rJ (op : BinOp) (ho : op = .add ∨ op = .sub ∨ op = .mul ∨ op = .quo) (t : TypeId) (x y : Nat) (w : World) :
  ∃r w',(binOp op t (.float .f64 x) (.float .f64 y)).run Try.prog w=.ok (.float .f64 r) w'/\Below w.heap.size w w'/\bu r=FI op x y/\r<18446744073709551616:=by
 cases h:floatBits op .f64 x y with
 |some r=>
  refine⟨r,w,run_float_arith w op t .f64 x y r h,Below.refl _ _,?_,?_⟩
  ·unfold FI;rw[h]
  ·have:=floatBits_wf h;simpa[Lit.wf]using this
 |none=>
  have ht:=PH (w.tape w.drawn (.nanBits .f64 x y));refine⟨_,w.drew,?_,Below.drew zR,?_,ht.2⟩
  ·unfold floatBits at h;rcases ho with rfl|rfl|rfl|rfl<;>simp only at h<;>simp[binOp,Op.floatArith,h,Question.forced,Question.cut]
  ·unfold FI;rw[h];exact CZ _ ht.1
def ofInt (n:Int):Nat:=bu (floatOfInt .f64 n)
end Go.Proofs.Ytbjnhllkdilpfaa
namespace Go.Proofs.Ytbjnhllkdilpfaa
open Go.RowKit
set_option linter.unusedSimpArgs false
set_option maxRecDepth 10000
def I64 (n:Int):Prop:= -9223372036854775808<=n/\n<9223372036854775808
end Go.Proofs.Ytbjnhllkdilpfaa
namespace Go.Proofs.Ytbjnhllkdilpfaa
open Go.RowKit
set_option maxRecDepth 100000
set_option maxHeartbeats 16000000
set_option linter.unusedVariables false
set_option linter.unusedSimpArgs false
def oneK (op k:Int):Int:=
 if op=6/\(k=1\/k=4)then k else if(op=15/\k=2)\/(op=17/\k=4)then 2 else if op=16/\k=1 then 4 else 0
def twoK (op k:Int):Int:=
 if(1<=op/\op<=4/\(k=1\/k=4))\/(op=5/\k=1)then k
 else if((op=7\/op=8)/\1<=k/\k<=4)\/(9<=op/\op<=12/\(k=1\/k=4))\/((op=13\/op=14)/\k=2)then 2 else 0
def FK (op:Int):List Int->Int
 |[k]=>oneK op k
 |[a,b]=>if a=b then twoK op a else 0
 |_=>0
def aU (l:List Int):List Value:=l.map fun k=>.int .i64 k
theorem FM (op : Int) (l : List Int) (A : Option Addr) (c : Nat) (w : World) (hl : l.length ≤ 140737488351232) (h : Rd w w.heap.size A (aU l)) :
  Calls Try.prog 87 #[.int .i64 op,.slice A l.length c] w fun e w'=>e=.returned (.int .i64 (FK op l))/\Below w.heap.size w w':=by
 match l,h with
 |[],h=>
  go_enter Try.func87,Try.ntmps87
  go_wp2
  go_region
  go_wp2
  go_ret
  exact⟨rfl,Below.drew zR⟩
 |[k],h=>
  obtain⟨b,o,rfl,_,hc⟩:=h.at_ (j:=0) (by simp[aU]);have hc0:w.cell? ⟨b,o,none⟩=some (.int .i64 k):=hc 0 _ rfl;clear h hc
  go_enter Try.func87,Try.ntmps87
  go_wp2
  all_goals go_ret
  all_goals(refine⟨?_,Below.refl _ _⟩;apply fF;(try simp only[FK,Bool.and_eq_true,Bool.or_eq_true,beq_iff_eq,decide_eq_true_eq,Bool.not_eq_true,Bool.and_eq_false_iff,Bool.or_eq_false_iff,beq_eq_false_iff_ne,decide_eq_false_iff_not]at *);unfold oneK;repeat' split)
  all_goals(try omega)
 |[k,k2],h=>
  obtain⟨b,o,rfl,_,hc⟩:=h.at_ (j:=0) (by simp[aU]);have hc0:w.cell? ⟨b,o,none⟩=some (.int .i64 k):=hc 0 _ rfl;have hc1:w.cell? ⟨b,o+1,none⟩=some (.int .i64 k2):=hc 1 _ rfl;clear h hc
  by_cases e:k=k2
  ·subst e
   go_enter Try.func87,Try.ntmps87
   go_wp2
   go_region
   go_wp2
   all_goals go_ret
   all_goals(refine⟨?_,Below.drew zR⟩;apply fF;(try simp only[FK,Bool.and_eq_true,Bool.or_eq_true,beq_iff_eq,decide_eq_true_eq,Bool.not_eq_true,Bool.and_eq_false_iff,Bool.or_eq_false_iff,beq_eq_false_iff_ne,decide_eq_false_iff_not,if_true]at *);unfold twoK;repeat' split)
   all_goals(try omega)
  ·go_enter Try.func87,Try.ntmps87
   go_wp2
   go_region
   go_wp2
   go_ret
   exact⟨by simp[FK,e],Below.drew zR⟩
 |k::k2::k3::r,h=>
  clear h;have hn:((k::k2::k3::r).length:Int)≠1:=by simp;omega
  have hn2:(((k::k2::k3::r).length:Int) !=2)=true:=by rw[bne_iff_ne];simp;omega
  generalize hm:(k::k2::k3::r).length=n at *
  go_enter Try.func87,Try.ntmps87
  go_wp2
  go_region
  go_wp2
  go_ret
  exact⟨rfl,Below.drew zR⟩
end Go.Proofs.Ytbjnhllkdilpfaa
namespace Go.Proofs.Ytbjnhllkdilpfaa
open Go.RowKit
set_option linter.unusedSimpArgs false
set_option linter.unusedVariables false
set_option maxRecDepth 10000
def un (n:Int):Nat:=(n%18446744073709551616).toNat
end Go.Proofs.Ytbjnhllkdilpfaa
namespace Go.Proofs.Ytbjnhllkdilpfaa
open Go.RowKit
set_option maxRecDepth 100000
set_option maxHeartbeats 16000000
set_option linter.unusedVariables false
set_option linter.unusedSimpArgs false
inductive au
 |mk (op kind:Int) (A:Option Addr) (c:Nat) (args:List au) (vk:Int) (vb:Nat) (pos attr:Int)
def au.cells:au->List Value
 |.mk op kind A c args vk vb pos a=>[.int .i64 op,.int .i64 kind,.slice A args.length c,.int .i64 vk,.int .u64 vb,.int .i64 pos,.int .i64 a]
def au.val (n:au):Value:=.agg n.cells.toArray
theorem au.len (n:au):n.cells.length=7:=by cases n;rfl
def xg:Nat->au->World->Nat->Prop
 |0,_,_,_=>False
 |d+1,.mk op kind A c args vk vb pos a,w,B=>Rd w B A (args.flatMap au.cells)/\args.length<=1048576/\vb<18446744073709551616/\∀x∈args,xg d x w B
theorem xg.below {w w':World} {B:Nat} (hb:Below B w w'):∀{d:Nat} {n:au},xg d n w B->xg d n w' B
 |0,_,h=>h
 |d+1,.mk ..,h=>⟨h.1.below hb,h.2.1,h.2.2.1,fun x hx=>xg.below hb (h.2.2.2 x hx)⟩
theorem xg.more {w:World} {B B':Nat} (hB:B<=B'):∀{d:Nat} {n:au},xg d n w B->xg d n w B'
 |0,_,h=>h
 |d+1,.mk ..,h=>⟨h.1.more hB,h.2.1,h.2.2.1,fun x hx=>xg.more hB (h.2.2.2 x hx)⟩
theorem xg.old {w w':World} {d:Nat} {n:au} (h:xg d n w w.heap.size) (hb:Below w.heap.size w w'):xg d n w' w'.heap.size:=(h.below hb).more hb.size
theorem xg.up {w:World} {B:Nat}:∀{d:Nat} {n:au},xg d n w B->xg (d+1) n w B
 |0,_,h=>h.elim
 |d+1,.mk ..,h=>⟨h.1,h.2.1,h.2.2.1,fun x hx=>(h.2.2.2 x hx).up⟩
theorem bel2 (w:World) (x1 x2:Obj):Below w.heap.size w ((w.alloc x1).alloc x2):=(zR.alloc zL _).alloc (by simp) _
theorem FN (c0 c1 c2 c3 c4 c5 c6:Value) (w:World):(Instr.buildSlice 29 1 #[(0,.agg #[c0,c1,c2,c3,c4,c5,c6])]).run Try.prog w=.ok (.slice (some ⟨w.heap.size,0,none⟩) 1 1) (w.alloc (.cells #[c0,c1,c2,c3,c4,c5,c6] 76)):=by kernel_rfl
theorem aK {a:Act} {d:Nat} {v:Value} (h:a.tmps[d]? =some v):a.eval (.tmp d)=v:=by simp[Act.eval,h]
theorem lT {w : World} {o : Oper} {a : Act} {K : Act → World → Prop} {Q : Exit → Act → World → Prop} {c0 c1 c2 c3 c4 c5 c6 : Value} (x : Operand) (ho : o.op = .buildSlice 29 1 #[(0, x)]) (hx : a.eval x = .agg #[c0, c1, c2, c3, c4, c5, c6])
  (h:K (a.put o.dst (.slice (some ⟨w.heap.size,0,none⟩) 1 1)) (w.alloc (.cells #[c0,c1,c2,c3,c4,c5,c6] 76))):o.wp Try.prog a w K Q:=by
 unfold Oper.wp execOp;simp only[ho,List.map_toArray,List.map_cons,List.map_nil,hx,Sem.run_bind,FN,Result.andThen_ok,Sem.run_pure];exact h
theorem qp {w : World} {ops : Array Oper} {rest : List Oper} {o : Oper} {a : Act} {Q : Exit → Act → World → Prop} {c0 c1 c2 c3 c4 c5 c6 : Value} (hgd : o.guard = none) (x : Operand) (ho : o.op = .buildSlice 29 1 #[(0, x)]) (hx : a.eval x = .agg #[c0, c1, c2, c3, c4, c5, c6])
  (h:wpList Try.prog ops Q rest (a.put o.dst (.slice (some ⟨w.heap.size,0,none⟩) 1 1)) (w.alloc (.cells #[c0,c1,c2,c3,c4,c5,c6] 76))):wpList Try.prog ops Q (o::rest) a w:=
 wpList_plain hgd fun _ hK=>lT x ho hx (hK _ _ h)
def I8 (w:World) (S:Nat->Prop) (A:Option Addr) (cs:List Value):Prop:=
 cs=[]\/∃b o,A=some ⟨b,o,none⟩/\S b/\b<w.heap.size/\∀(j:Nat) (u:Value),cs[j]? =some u->w.cell? ⟨b,o+j,none⟩=some u
def okS (S:Nat->Prop):Nat->au->World->Prop
 |0,_,_=>False
 |d+1,.mk op kind A c args vk vb pos a,w=>I8 w S A (args.flatMap au.cells)/\args.length<=1048576/\vb<18446744073709551616/\∀x∈args,okS S d x w
theorem I8.rd {w:World} {S:Nat->Prop} {A:Option Addr} {cs:List Value} (h:I8 w S A cs):Rd w w.heap.size A cs:=by
 rcases h with h|⟨b,o,h1,_,h2,h3⟩
 ·exact .inl h
 ·exact .inr ⟨b,o,h1,h2,h3⟩
theorem okS.n {w:World} {S:Nat->Prop}:∀{d:Nat} {n:au},okS S d n w->xg d n w w.heap.size
 |0,_,h=>h
 |d+1,.mk ..,h=>⟨h.1.rd,h.2.1,h.2.2.1,fun x hx=>(h.2.2.2 x hx).n⟩
theorem I8.keep {w w':World} {S S':Nat->Prop} {A:Option Addr} {cs:List Value} (h:I8 w S A cs) (hk:∀b,S b->b<w.heap.size->S' b/\b<w'.heap.size/\w'.heap[b]? =w.heap[b]?):I8 w' S' A cs:=by
 rcases h with h|⟨b,o,h1,h0,h2,h3⟩
 ·exact .inl h
 ·obtain⟨k1,k2,k3⟩:=hk b h0 h2;exact .inr ⟨b,o,h1,k1,k2,fun j u hu=>by rw[<-h3 j u hu];simp[World.cell?,k3]⟩
theorem okS.keep {w w':World} {S S':Nat->Prop} (hk:∀b,S b->b<w.heap.size->S' b/\b<w'.heap.size/\w'.heap[b]? =w.heap[b]?):∀{d:Nat} {n:au},okS S d n w->okS S' d n w'
 |0,_,h=>h
 |d+1,.mk ..,h=>⟨h.1.keep hk,h.2.1,h.2.2.1,fun x hx=>okS.keep hk (h.2.2.2 x hx)⟩
theorem rM {w:World} {base e size n:Nat} {A:Option Addr} {c:Nat} {xs:List Value} (h:w.ownsRow base e size (.slice A n c) n xs):I8 w (fun b=>base<=b) A xs:=by
 have hr:=dG h;rcases h.2 with⟨h0,hn⟩|⟨g,cap,cur,hv,hb,hh,_⟩
 ·subst hn;exact .inl (List.eq_nil_of_length_eq_zero (by simpa using h.1))
 ·have hA:A=some ⟨g,0,none⟩:=by injection hv
  subst hA;rcases hr with hr|⟨b,o,h1,h2,h3⟩
  ·exact .inl hr
  ·have:g=b:=by injection h1 with h1;injection h1
   subst this;exact .inr ⟨_,_,h1,hb,h2,h3⟩
def Jo:Nat->au->au->Prop
 |0,_,_=>False
 |d+1,.mk op kind _ _ args vk vb pos a,.mk op' kind' _ _ args' vk' vb' pos' a'=>op=op'/\kind=kind'/\vk=vk'/\vb=vb'/\pos=pos'/\a=a'/\args.length=args'.length/\∀(i:Nat) (x y:au),args[i]? =some x->args'[i]? =some y->Jo d x y
theorem FO:(Try.prog.info? 76).map (fun i=>(i.zero,i.size,i.bytes))=some (some (.agg #[.int .i64 0,.int .i64 0,.slice none 0 0,.int .i64 0,.int .u64 0,.int .i64 0,.int .i64 0]),7,72):=by kernel_rfl
def uz (d:Nat) (l:List au) (w:World) (e:Ending) (w':World):Prop:=
 ∃(A':Option Addr) (c':Nat) (l':List au),e=.returned (.slice A' l.length c')/\l'.length=l.length/\(∀(i:Nat) (x y:au),l[i]? =some x->l'[i]? =some y->Jo d x y)/\
  w'.ownsRow w.heap.size 76 7 (.slice A' l.length c') l.length (l'.flatMap au.cells)/\(∀y∈l',okS (fun b=>w.heap.size<=b/\some b≠(Value.slice A' l.length c').ownBlock) d y w')/\Below w.heap.size w w'
theorem Df (d : Nat) (ih : ∀ d', d' + 1 = d → ∀ (l : List au) (A : Option Addr) (c : Nat) (w : World), (∀ x ∈ l, xg d' x w w.heap.size) → Rd w w.heap.size A (l.flatMap au.cells) → l.length ≤ 1048576 → Calls Try.prog 23 #[.slice A l.length c] w (uz d' l w))
  (l:List au) (A:Option Addr) (c:Nat) (w:World) (hall:∀x∈l,xg d x w w.heap.size) (hr:Rd w w.heap.size A (l.flatMap au.cells)) (hl:l.length<=1048576):Calls Try.prog 23 #[.slice A l.length c] w (uz d l w):=by
 obtain⟨iN,hN,hN0,hN1,U0⟩:=info_parts FO;have HA:=zH hall;have vg:=zH hr;have HI:=zH ih;clear hall hr ih
 go_enter Try.func23,Try.ntmps23
 go_wp2_with fail
 go_loopw [3, 8] (fun vs i wr => ∃ (k : Nat) (Av : Option Addr) (cv : Nat) (l' : List au), k ≤ l.length ∧ i = .int .i64 k ∧ vs = .slice Av k cv ∧ Below w.heap.size w wr ∧ l'.length = k ∧ Hid (∀ (i : Nat) (x y : au), l[i]? = some x → l'[i]? = some y → Jo d x y) ∧
   wr.ownsRow w.heap.size 76 7 vs k (l'.flatMap au.cells)/\Hid (∀y∈l',okS (fun b=>w.heap.size<=b/\some b≠vs.ownBlock) d y wr)) (fun _ i _=>l.length-(intOf i).toNat)
 case atStart=>exact⟨0,none,0,[],Nat.zero_le _,rfl,rfl,Below.refl _ _,rfl,zH (by intro i x y _ h;simp at h),World.ownsRow_nil _ _ _ _,zH (by simp)⟩
 case round=>
  obtain⟨k,Av,cv,l',hk,rfl,rfl,hbel,hl',PI,hown,PK⟩:=hrel
  by_cases hlt:k<l.length
  ·as_aux_lemma=>
   obtain⟨b,o,rfl,hb,hc⟩:=(vg.out.below hbel).elem (f:=au.cells) (n:=7) au.len (by omega) hlt;have hx:=HA.out l[k] (by simp);have hlk:l[k]? =some l[k]:=List.getElem?_eq_getElem hlt;generalize l[k]=x at *;obtain⟨op,kind,A2,c2,args,vk,vb,pos,a⟩:=x;have hc0:wr.cell? ⟨b,o+k*7,none⟩=some (.int .i64 op):=hc 0 _ rfl;have hc1:wr.cell? ⟨b,o+k*7+1,none⟩=some (.int .i64 kind):=hc 1 _ rfl;have hc2:wr.cell? ⟨b,o+k*7+2,none⟩=some (.slice A2 args.length c2):=hc 2 _ rfl;have hc3:wr.cell? ⟨b,o+k*7+3,none⟩=some (.int .i64 vk):=hc 3 _ rfl;have hc4:wr.cell? ⟨b,o+k*7+4,none⟩=some (.int .u64 vb):=hc 4 _ rfl;have hc5:wr.cell? ⟨b,o+k*7+5,none⟩=some (.int .i64 pos):=hc 5 _ rfl;have hc6:wr.cell? ⟨b,o+k*7+6,none⟩=some (.int .i64 a):=hc 6 _ rfl;clear hc
   obtain⟨d',rfl⟩:∃d',d=d'+1:=by
    cases d with
    |zero=>exact hx.elim
    |succ d'=>exact⟨d',rfl⟩
   have FP:Below w.heap.size w (wr.alloc (.cells #[.int .i64 op,.int .i64 kind,.slice A2 args.length c2,.int .i64 vk,.int .u64 vb,.int .i64 pos,.int .i64 a] 76)):=hbel.alloc hbel.size _;have hx2:=xg.old hx FP;have hrec:=HI.out d' rfl args A2 c2 (wr.alloc (.cells #[.int .i64 op,.int .i64 kind,.slice A2 args.length c2,.int .i64 vk,.int .u64 vb,.int .i64 pos,.int .i64 a] 76)) hx2.2.2.2 hx2.1 hx2.2.1;have hvb:=hx.2.2.1;have hal:=hx.2.1;have jS:=zH hrec;have WY:=zH hlk;have hz:=hbel.size;clear hrec hx hx2 hlk HI;go_wp2_with fail
   refine jS.out.mono ?_;rintro e w1 ⟨A3,c3,l3,rfl,hl3,FQ,hown3,pY,hb1⟩;have hsz:(wr.alloc (.cells #[.int .i64 op,.int .i64 kind,.slice A2 args.length c2,.int .i64 vk,.int .u64 vb,.int .i64 pos,.int .i64 a] 76)).heap.size=wr.heap.size+1:=by simp
   rw[hsz]at hown3 pY hb1;have kx:Bk w1 wr.heap.size 76 #[.int .i64 op,.int .i64 kind,.slice A2 args.length c2,.int .i64 vk,.int .u64 vb,.int .i64 pos,.int .i64 a]:=(Bk.new wr 76 #[.int .i64 op,.int .i64 kind,.slice A2 args.length c2,.int .i64 vk,.int .u64 vb,.int .i64 pos,.int .i64 a]).below hb1 (by omega);have FT:=hown.alloc (.cells #[.int .i64 op,.int .i64 kind,.slice A2 args.length c2,.int .i64 vk,.int .u64 vb,.int .i64 pos,.int .i64 a] 76);have hown1:w1.ownsRow w.heap.size 76 7 (.slice Av k cv) k (l'.flatMap au.cells):=own_below FT hb1 (fun q hq=>by have:=(hown.lt q hq).2;omega);have FU:Below w.heap.size w w1:=FP.trans (hb1.mono (by omega));have hz1:=kx.lt;clear jS hc0 hc1 hc2 hc3 hc4 hc5 hc6;obtain⟨x0,x1,x2,x3,x4,x5,x6⟩:=zc7 kx;have f2:=kx.frozen 2;have ky:Bk (w1.setCell ⟨wr.heap.size,2,none⟩ (.slice A3 args.length c3)) wr.heap.size 76 #[.int .i64 op,.int .i64 kind,.slice A3 args.length c3,.int .i64 vk,.int .u64 vb,.int .i64 pos,.int .i64 a]:=kx.put 2 _;obtain⟨y0,y1,y2,y3,y4,y5,y6⟩:=zc7 ky;simp at x0 x1 x2 x3 x4 x5 x6 y0 y1 y2 y3 y4 y5 y6;have hne:some wr.heap.size≠(Value.slice Av k cv).ownBlock:=fun e=>by have:=(hown.lt _ e.symm).2;omega
   have hown2:(w1.setCell ⟨wr.heap.size,2,none⟩ (.slice A3 args.length c3)).ownsRow w.heap.size 76 7 (.slice Av k cv) k (l'.flatMap au.cells):=ownsRow_setCell_other hown1 (fun e=>hne e.symm) _;have pK:Below w.heap.size w (w1.setCell ⟨wr.heap.size,2,none⟩ (.slice A3 args.length c3)):=FU.setCell hz _
   go_wp2_with (first
    |(refine qp (by rfl) (.tmp 20) (by rfl) (by rfl) ?_)
    |(at_builtin;refine aH rfl _ _ 29 rfl w.heap.size 76 iN _ 7 72 Try.underlying29 hN hN0 hN1 U0 rfl (by decide) (.slice Av k cv) k _ rfl (hown2.alloc _) ((w1.setCell ⟨wr.heap.size,2,none⟩ (.slice A3 args.length c3)).heap.size+1) (some ⟨(w1.setCell ⟨wr.heap.size,2,none⟩ (.slice A3 args.length c3)).heap.size,0,none⟩) 1 1 (au.mk op kind A3 c3 l3 vk vb pos a).cells rfl ?c1 rfl ?c2 ?c3 ?c4 ?c5 ?_))
   case c1=>
    show Rd _ _ _ [Value.int .i64 op,.int .i64 kind,.slice A3 l3.length c3,.int .i64 vk,.int .u64 vb,.int .i64 pos,.int .i64 a]
    rw[hl3];exact Rd.lit rfl _ _
   case c2=>intro u hu;simp[au.cells]at hu;rcases hu with rfl|rfl|rfl|rfl|rfl|rfl|rfl<;>rfl
   case c3=>unfold maxLen;omega
   case c4=>omega
   case c5=>simp;omega
   intro A9 c9 w9 bI hg zS;have hs2:((w1.setCell ⟨wr.heap.size,2,none⟩ (.slice A3 args.length c3)).alloc (.cells #[.int .i64 op,.int .i64 kind,.slice A3 args.length c3,.int .i64 vk,.int .u64 vb,.int .i64 pos,.int .i64 a] 76)).heap.size=w1.heap.size+1:=by simp
   have hkeep:∀b:Nat,b<w1.heap.size->b≠wr.heap.size->some b≠(Value.slice Av k cv).ownBlock->b<w9.heap.size/\w9.heap[b]? =w1.heap[b]? :=by
    intro b h1 h2 h3;refine⟨by have:=hg.size;omega,?_⟩;rw[hg.block b (by omega) h3,Below.heap_alloc _ _ b (by simpa using h1),Below.heap_setCell w1 _ _ b h2]
   have hnew:∀b:Nat,b<w1.heap.size->some b≠(Value.slice Av k cv).ownBlock->some b≠(Value.slice A9 (k+1) c9).ownBlock:=by
    intro b h1 h2;rcases zS with h|h
    ·rw[h];exact h2
    ·rw[h];intro he;injection he with he;omega
   have hhi:∀b:Nat,wr.heap.size+1<=b->some b≠(Value.slice Av k cv).ownBlock:=fun b h1 e=>by have:=(hown.lt _ e.symm).2;omega
   have PL:okS (fun b=>w.heap.size<=b/\some b≠(Value.slice A9 (k+1) c9).ownBlock) (d'+1) (.mk op kind A3 c3 l3 vk vb pos a) w9:=by
    refine⟨(rM hown3).keep fun b h1 h2=>?_,by omega,hvb,fun y hy=>okS.keep (fun b h1 h2=>?_) (pY y hy)⟩
    ·obtain⟨k1,k2⟩:=hkeep b h2 (by omega) (hhi b h1);exact⟨⟨by omega,hnew b h2 (hhi b h1)⟩,k1,k2⟩
    ·obtain⟨k1,k2⟩:=hkeep b h2 (by omega) (hhi b h1.1);exact⟨⟨by omega,hnew b h2 (hhi b h1.1)⟩,k1,k2⟩
   have FV:∀y∈l'++[au.mk op kind A3 c3 l3 vk vb pos a],okS (fun b=>w.heap.size<=b/\some b≠(Value.slice A9 (k+1) c9).ownBlock) (d'+1) y w9:=by
    intro y hy;rcases List.mem_append.1 hy with hy|hy
    ·refine okS.keep (fun b h1 h2=>?_) (PK.out y hy);obtain⟨k1,k2⟩:=hkeep b (by omega) (by omega) h1.2;exact⟨⟨h1.1,hnew b (by omega) h1.2⟩,k1,by rw[k2,hb1.block b (by omega),Below.heap_alloc _ _ b h2]⟩
    ·simp only[List.mem_cons,List.not_mem_nil,or_false]at hy;subst hy;exact PL
   have FW:∀(i:Nat) (x y:au),l[i]? =some x->(l'++[au.mk op kind A3 c3 l3 vk vb pos a])[i]? =some y->Jo (d'+1) x y:=by
    intro i x y hx hy
    by_cases hi:i<l'.length
    ·rw[List.getElem?_append_left hi]at hy;exact PI.out i x y hx hy
    ·rw[List.getElem?_append_right (by omega)]at hy
     by_cases hi0:i-l'.length=0
     ·rw[hi0]at hy;have hik:i=k:=by omega
      rw[hik,WY.out]at hx;injection hx with hx
      simp only[List.getElem?_cons_zero,Option.some.injEq]at hy;subst hx;subst hy;exact⟨rfl,rfl,rfl,rfl,rfl,rfl,hl3.symm,FQ⟩
     ·rw[List.getElem?_eq_none (by simp;omega)]at hy;cases hy
   have PM:Below w.heap.size w w9:=dY (pK.alloc (by simp;omega) _) (hown2.alloc _) zL hg (by simp;omega)
   have Jp:w9.ownsRow w.heap.size 76 7 (.slice A9 (k+1) c9) (k+1) ((l'++[au.mk op kind A3 c3 l3 vk vb pos a]).flatMap au.cells):=by
    rw[List.flatMap_append]
    simpa using bI
   have HS:=zH FW;have HO:=zH FV;have qw:(l'++[au.mk op kind A3 c3 l3 vk vb pos a]).length=k+1:=by simp;omega
   clear FW FV PL hhi hnew hkeep zS hg bI hown2 hown1 FT hown pY FQ hown3 x0 x1 x2 x3 x4 x5 x6 y0 y1 y2 y3 y4 y5 y6 f2 kx ky pK FU hb1 hsz hs2;generalize(l'++[au.mk op kind A3 c3 l3 vk vb pos a])=l9 at *;go_wp2
   go_roundw
   case rel=>exact⟨k+1,A9,c9,l9,by omega,by go_num,rfl,PM,qw,HS,Jp,HO⟩
   case measure=>simp[intOf];omega
  ·as_aux_lemma=>
   obtain rfl:k=l.length:=by omega
   go_wp2_with fail
   go_ret
   exact⟨Av,cv,l',rfl,hl',PI.out,hown,PK.out,hbel⟩
theorem twin_any:∀(d:Nat) (l:List au) (A:Option Addr) (c:Nat) (w:World),(∀x∈l,xg d x w w.heap.size)->Rd w w.heap.size A (l.flatMap au.cells)->l.length<=1048576->Calls Try.prog 23 #[.slice A l.length c] w (uz d l w)
 |0=>Df 0 (fun d' h=>by omega)
 |d+1=>Df (d+1) (fun d' h=>by obtain rfl:d'=d:=(by omega);exact twin_any d')
inductive T
 |mk (op kind:Int) (args:List T) (vk:Int) (vb:Nat) (pos attr:Int)
def bz:Nat->au->T
 |0,_=>.mk 0 0 [] 0 0 0 0
 |d+1,.mk op kind A c args vk vb pos a=>.mk op kind (args.map (bz d)) vk vb pos a
theorem FX {w:World} {B:Nat}:∀{d:Nat} {n:au},xg d n w B->bz (d+1) n=bz d n
 |0,_,h=>h.elim
 |d+1,.mk op kind A c args vk vb pos a,h=>by
  show T.mk op kind (args.map (bz (d+1))) vk vb pos a=T.mk op kind (args.map (bz d)) vk vb pos a
  rw[List.map_congr_left fun x hx=>FX (h.2.2.2 x hx)]
def eu (S:Nat->Prop) (d:Nat) (t:T) (cs:List Value) (w:World):Prop:=∃n:au,cs=n.cells/\bz d n=t/\okS S d n w
theorem okS.up {w:World} {S:Nat->Prop}:∀{d:Nat} {n:au},okS S d n w->okS S (d+1) n w
 |0,_,h=>h.elim
 |d+1,.mk ..,h=>⟨h.1,h.2.1,h.2.2.1,fun x hx=>(h.2.2.2 x hx).up⟩
theorem eu.up {S:Nat->Prop} {d:Nat} {t:T} {cs:List Value} {w:World}:eu S d t cs w->eu S (d+1) t cs w:=fun⟨n,h1,h2,h3⟩=>⟨n,h1,(FX h3.n).trans h2,h3.up⟩
theorem eu.keep {S S':Nat->Prop} {d:Nat} {t:T} {cs:List Value} {w w':World} (hk:∀b,S b->b<w.heap.size->S' b/\b<w'.heap.size/\w'.heap[b]? =w.heap[b]?):eu S d t cs w->eu S' d t cs w':=fun⟨n,h1,h2,h3⟩=>⟨n,h1,h2,h3.keep hk⟩
theorem eu.old {S:Nat->Prop} {d:Nat} {t:T} {cs:List Value} {w w':World} (h:eu S d t cs w) (hb:Below w.heap.size w w'):eu S d t cs w':=h.keep fun b hS hlt=>⟨hS,Nat.lt_of_lt_of_le hlt hb.size,hb.block b hlt⟩
theorem eu.seven {S:Nat->Prop} {d:Nat} {t:T} {cs:List Value} {w:World} (h:eu S d t cs w):∃c0 c1 c2 c3 c4 c5 c6,cs=[c0,c1,c2,c3,c4,c5,c6]/\∀u∈cs,u.oneCell'=true:=by
 obtain⟨⟨op,kind,A,c,args,vk,vb,pos,a⟩,rfl,_,_⟩:=h;exact⟨_,_,_,_,_,_,_,rfl,by intro u hu;simp[au.cells]at hu;rcases hu with rfl|rfl|rfl|rfl|rfl|rfl|rfl<;>rfl⟩
theorem eu.leaf (S:Nat->Prop) (w:World) (op kind vk:Int) (vb:Nat) (pos a:Int) (h:vb<18446744073709551616) (d:Nat):eu S (d+1) (.mk op kind [] vk vb pos a) [.int .i64 op,.int .i64 kind,.slice none 0 0,.int .i64 vk,.int .u64 vb,.int .i64 pos,.int .i64 a] w:=
 ⟨.mk op kind none 0 [] vk vb pos a,rfl,rfl,.inl rfl,Nat.zero_le _,h,fun x hx=>absurd hx (by simp)⟩
theorem Ei {w w2:World} {B B2:Nat}:∀{d:Nat} {x y:au},xg d x w B->xg d y w2 B2->Jo d x y->bz d x=bz d y
 |0,_,_,h,_,_=>h.elim
 |d+1,.mk op kind A c args vk vb pos a,.mk op' kind' A' c' args' vk' vb' pos' a',h,h',hs=>by
  obtain⟨h1,h2,h3,h4,h5,h6,h7,h8⟩:=hs
  show T.mk _ _ _ _ _ _ _=T.mk _ _ _ _ _ _ _
  have:args.map (bz d)=args'.map (bz d):=by
   apply List.ext_getElem (by simpa using h7)
   intro i h9 h10;simp only[List.length_map]at h9 h10;rw[List.getElem_map,List.getElem_map];exact Ei (h.2.2.2 _ (List.getElem_mem h9)) (h'.2.2.2 _ (List.getElem_mem h10)) (h8 i _ _ (List.getElem?_eq_getElem h9) (List.getElem?_eq_getElem h10))
  rw[this,h1,h2,h3,h4,h5,h6]
structure Ce where
 type:Int
 gs:List T
structure PZ where
 branch:Int
 cs:List T
 bars:List Ce
structure lh where
 parent:Int
 type:Int
 many:Bool
 window:Int
 bars:List Ce
 lv:List T
 gs:List T
 ends:List PZ
structure yx where
 aP:Int
 keys:List Int
 states:List lh
theorem zX (d : Nat) (ih : ∀ d', d' + 1 = d → ∀ (l : List au) (A : Option Addr) (c : Nat) (w : World), (∀ x ∈ l, xg d' x w w.heap.size) → Rd w w.heap.size A (l.flatMap au.cells) → l.length ≤ 1048576 → Calls Try.prog 18 #[.slice A l.length c] w (uz d' l w))
  (l:List au) (A:Option Addr) (c:Nat) (w:World) (hall:∀x∈l,xg d x w w.heap.size) (hr:Rd w w.heap.size A (l.flatMap au.cells)) (hl:l.length<=1048576):Calls Try.prog 18 #[.slice A l.length c] w (uz d l w):=by
 obtain⟨iN,hN,hN0,hN1,U0⟩:=info_parts FO;have HA:=zH hall;have vg:=zH hr;have HI:=zH ih;clear hall hr ih
 go_enter Try.func18,Try.ntmps18
 go_wp2_with fail
 go_loopw [3, 8] (fun vs i wr => ∃ (k : Nat) (Av : Option Addr) (cv : Nat) (l' : List au), k ≤ l.length ∧ i = .int .i64 k ∧ vs = .slice Av k cv ∧ Below w.heap.size w wr ∧ l'.length = k ∧ Hid (∀ (i : Nat) (x y : au), l[i]? = some x → l'[i]? = some y → Jo d x y) ∧
   wr.ownsRow w.heap.size 76 7 vs k (l'.flatMap au.cells)/\Hid (∀y∈l',okS (fun b=>w.heap.size<=b/\some b≠vs.ownBlock) d y wr)) (fun _ i _=>l.length-(intOf i).toNat)
 case atStart=>exact⟨0,none,0,[],Nat.zero_le _,rfl,rfl,Below.refl _ _,rfl,zH (by intro i x y _ h;simp at h),World.ownsRow_nil _ _ _ _,zH (by simp)⟩
 case round=>
  obtain⟨k,Av,cv,l',hk,rfl,rfl,hbel,hl',PI,hown,PK⟩:=hrel
  by_cases hlt:k<l.length
  ·as_aux_lemma=>
   obtain⟨b,o,rfl,hb,hc⟩:=(vg.out.below hbel).elem (f:=au.cells) (n:=7) au.len (by omega) hlt;have hx:=HA.out l[k] (by simp);have hlk:l[k]? =some l[k]:=List.getElem?_eq_getElem hlt;generalize l[k]=x at *;obtain⟨op,kind,A2,c2,args,vk,vb,pos,a⟩:=x;have hc0:wr.cell? ⟨b,o+k*7,none⟩=some (.int .i64 op):=hc 0 _ rfl;have hc1:wr.cell? ⟨b,o+k*7+1,none⟩=some (.int .i64 kind):=hc 1 _ rfl;have hc2:wr.cell? ⟨b,o+k*7+2,none⟩=some (.slice A2 args.length c2):=hc 2 _ rfl;have hc3:wr.cell? ⟨b,o+k*7+3,none⟩=some (.int .i64 vk):=hc 3 _ rfl;have hc4:wr.cell? ⟨b,o+k*7+4,none⟩=some (.int .u64 vb):=hc 4 _ rfl;have hc5:wr.cell? ⟨b,o+k*7+5,none⟩=some (.int .i64 pos):=hc 5 _ rfl;have hc6:wr.cell? ⟨b,o+k*7+6,none⟩=some (.int .i64 a):=hc 6 _ rfl;clear hc
   obtain⟨d',rfl⟩:∃d',d=d'+1:=by
    cases d with
    |zero=>exact hx.elim
    |succ d'=>exact⟨d',rfl⟩
   have FP:Below w.heap.size w (wr.alloc (.cells #[.int .i64 op,.int .i64 kind,.slice A2 args.length c2,.int .i64 vk,.int .u64 vb,.int .i64 pos,.int .i64 a] 76)):=hbel.alloc hbel.size _;have hx2:=xg.old hx FP;have hrec:=HI.out d' rfl args A2 c2 (wr.alloc (.cells #[.int .i64 op,.int .i64 kind,.slice A2 args.length c2,.int .i64 vk,.int .u64 vb,.int .i64 pos,.int .i64 a] 76)) hx2.2.2.2 hx2.1 hx2.2.1;have hvb:=hx.2.2.1;have hal:=hx.2.1;have jS:=zH hrec;have WY:=zH hlk;have hz:=hbel.size;clear hrec hx hx2 hlk HI;go_wp2_with fail
   refine jS.out.mono ?_;rintro e w1 ⟨A3,c3,l3,rfl,hl3,FQ,hown3,pY,hb1⟩;have hsz:(wr.alloc (.cells #[.int .i64 op,.int .i64 kind,.slice A2 args.length c2,.int .i64 vk,.int .u64 vb,.int .i64 pos,.int .i64 a] 76)).heap.size=wr.heap.size+1:=by simp
   rw[hsz]at hown3 pY hb1;have kx:Bk w1 wr.heap.size 76 #[.int .i64 op,.int .i64 kind,.slice A2 args.length c2,.int .i64 vk,.int .u64 vb,.int .i64 pos,.int .i64 a]:=(Bk.new wr 76 #[.int .i64 op,.int .i64 kind,.slice A2 args.length c2,.int .i64 vk,.int .u64 vb,.int .i64 pos,.int .i64 a]).below hb1 (by omega);have FT:=hown.alloc (.cells #[.int .i64 op,.int .i64 kind,.slice A2 args.length c2,.int .i64 vk,.int .u64 vb,.int .i64 pos,.int .i64 a] 76);have hown1:w1.ownsRow w.heap.size 76 7 (.slice Av k cv) k (l'.flatMap au.cells):=own_below FT hb1 (fun q hq=>by have:=(hown.lt q hq).2;omega);have FU:Below w.heap.size w w1:=FP.trans (hb1.mono (by omega));have hz1:=kx.lt;clear jS hc0 hc1 hc2 hc3 hc4 hc5 hc6;obtain⟨x0,x1,x2,x3,x4,x5,x6⟩:=zc7 kx;have f2:=kx.frozen 2;have ky:Bk (w1.setCell ⟨wr.heap.size,2,none⟩ (.slice A3 args.length c3)) wr.heap.size 76 #[.int .i64 op,.int .i64 kind,.slice A3 args.length c3,.int .i64 vk,.int .u64 vb,.int .i64 pos,.int .i64 a]:=kx.put 2 _;obtain⟨y0,y1,y2,y3,y4,y5,y6⟩:=zc7 ky;simp at x0 x1 x2 x3 x4 x5 x6 y0 y1 y2 y3 y4 y5 y6;have hne:some wr.heap.size≠(Value.slice Av k cv).ownBlock:=fun e=>by have:=(hown.lt _ e.symm).2;omega
   have hown2:(w1.setCell ⟨wr.heap.size,2,none⟩ (.slice A3 args.length c3)).ownsRow w.heap.size 76 7 (.slice Av k cv) k (l'.flatMap au.cells):=ownsRow_setCell_other hown1 (fun e=>hne e.symm) _;have pK:Below w.heap.size w (w1.setCell ⟨wr.heap.size,2,none⟩ (.slice A3 args.length c3)):=FU.setCell hz _
   go_wp2_with (first
    |(refine qp (by rfl) (.tmp 17) (by rfl) (by rfl) ?_)
    |(at_builtin;refine aH rfl _ _ 29 rfl w.heap.size 76 iN _ 7 72 Try.underlying29 hN hN0 hN1 U0 rfl (by decide) (.slice Av k cv) k _ rfl (hown2.alloc _) ((w1.setCell ⟨wr.heap.size,2,none⟩ (.slice A3 args.length c3)).heap.size+1) (some ⟨(w1.setCell ⟨wr.heap.size,2,none⟩ (.slice A3 args.length c3)).heap.size,0,none⟩) 1 1 (au.mk op kind A3 c3 l3 vk vb pos a).cells rfl ?c1 rfl ?c2 ?c3 ?c4 ?c5 ?_))
   case c1=>
    show Rd _ _ _ [Value.int .i64 op,.int .i64 kind,.slice A3 l3.length c3,.int .i64 vk,.int .u64 vb,.int .i64 pos,.int .i64 a]
    rw[hl3];exact Rd.lit rfl _ _
   case c2=>intro u hu;simp[au.cells]at hu;rcases hu with rfl|rfl|rfl|rfl|rfl|rfl|rfl<;>rfl
   case c3=>unfold maxLen;omega
   case c4=>omega
   case c5=>simp;omega
   intro A9 c9 w9 bI hg zS;have hs2:((w1.setCell ⟨wr.heap.size,2,none⟩ (.slice A3 args.length c3)).alloc (.cells #[.int .i64 op,.int .i64 kind,.slice A3 args.length c3,.int .i64 vk,.int .u64 vb,.int .i64 pos,.int .i64 a] 76)).heap.size=w1.heap.size+1:=by simp
   have hkeep:∀b:Nat,b<w1.heap.size->b≠wr.heap.size->some b≠(Value.slice Av k cv).ownBlock->b<w9.heap.size/\w9.heap[b]? =w1.heap[b]? :=by
    intro b h1 h2 h3;refine⟨by have:=hg.size;omega,?_⟩;rw[hg.block b (by omega) h3,Below.heap_alloc _ _ b (by simpa using h1),Below.heap_setCell w1 _ _ b h2]
   have hnew:∀b:Nat,b<w1.heap.size->some b≠(Value.slice Av k cv).ownBlock->some b≠(Value.slice A9 (k+1) c9).ownBlock:=by
    intro b h1 h2;rcases zS with h|h
    ·rw[h];exact h2
    ·rw[h];intro he;injection he with he;omega
   have hhi:∀b:Nat,wr.heap.size+1<=b->some b≠(Value.slice Av k cv).ownBlock:=fun b h1 e=>by have:=(hown.lt _ e.symm).2;omega
   have PL:okS (fun b=>w.heap.size<=b/\some b≠(Value.slice A9 (k+1) c9).ownBlock) (d'+1) (.mk op kind A3 c3 l3 vk vb pos a) w9:=by
    refine⟨(rM hown3).keep fun b h1 h2=>?_,by omega,hvb,fun y hy=>okS.keep (fun b h1 h2=>?_) (pY y hy)⟩
    ·obtain⟨k1,k2⟩:=hkeep b h2 (by omega) (hhi b h1);exact⟨⟨by omega,hnew b h2 (hhi b h1)⟩,k1,k2⟩
    ·obtain⟨k1,k2⟩:=hkeep b h2 (by omega) (hhi b h1.1);exact⟨⟨by omega,hnew b h2 (hhi b h1.1)⟩,k1,k2⟩
   have FV:∀y∈l'++[au.mk op kind A3 c3 l3 vk vb pos a],okS (fun b=>w.heap.size<=b/\some b≠(Value.slice A9 (k+1) c9).ownBlock) (d'+1) y w9:=by
    intro y hy;rcases List.mem_append.1 hy with hy|hy
    ·refine okS.keep (fun b h1 h2=>?_) (PK.out y hy);obtain⟨k1,k2⟩:=hkeep b (by omega) (by omega) h1.2;exact⟨⟨h1.1,hnew b (by omega) h1.2⟩,k1,by rw[k2,hb1.block b (by omega),Below.heap_alloc _ _ b h2]⟩
    ·simp only[List.mem_cons,List.not_mem_nil,or_false]at hy;subst hy;exact PL
   have FW:∀(i:Nat) (x y:au),l[i]? =some x->(l'++[au.mk op kind A3 c3 l3 vk vb pos a])[i]? =some y->Jo (d'+1) x y:=by
    intro i x y hx hy
    by_cases hi:i<l'.length
    ·rw[List.getElem?_append_left hi]at hy;exact PI.out i x y hx hy
    ·rw[List.getElem?_append_right (by omega)]at hy
     by_cases hi0:i-l'.length=0
     ·rw[hi0]at hy;have hik:i=k:=by omega
      rw[hik,WY.out]at hx;injection hx with hx
      simp only[List.getElem?_cons_zero,Option.some.injEq]at hy;subst hx;subst hy;exact⟨rfl,rfl,rfl,rfl,rfl,rfl,hl3.symm,FQ⟩
     ·rw[List.getElem?_eq_none (by simp;omega)]at hy;cases hy
   have PM:Below w.heap.size w w9:=dY (pK.alloc (by simp;omega) _) (hown2.alloc _) zL hg (by simp;omega)
   have Jp:w9.ownsRow w.heap.size 76 7 (.slice A9 (k+1) c9) (k+1) ((l'++[au.mk op kind A3 c3 l3 vk vb pos a]).flatMap au.cells):=by
    rw[List.flatMap_append]
    simpa using bI
   have HS:=zH FW;have HO:=zH FV;have qw:(l'++[au.mk op kind A3 c3 l3 vk vb pos a]).length=k+1:=by simp;omega
   clear FW FV PL hhi hnew hkeep zS hg bI hown2 hown1 FT hown pY FQ hown3 x0 x1 x2 x3 x4 x5 x6 y0 y1 y2 y3 y4 y5 y6 f2 kx ky pK FU hb1 hsz hs2;generalize(l'++[au.mk op kind A3 c3 l3 vk vb pos a])=l9 at *;go_wp2
   go_roundw
   case rel=>exact⟨k+1,A9,c9,l9,by omega,by go_num,rfl,PM,qw,HS,Jp,HO⟩
   case measure=>simp[intOf];omega
  ·as_aux_lemma=>
   obtain rfl:k=l.length:=by omega
   go_wp2_with fail
   go_ret
   exact⟨Av,cv,l',rfl,hl',PI.out,hown,PK.out,hbel⟩
theorem xC:∀(d:Nat) (l:List au) (A:Option Addr) (c:Nat) (w:World),(∀x∈l,xg d x w w.heap.size)->Rd w w.heap.size A (l.flatMap au.cells)->l.length<=1048576->Calls Try.prog 18 #[.slice A l.length c] w (uz d l w)
 |0=>zX 0 (fun d' h=>by omega)
 |d+1=>zX (d+1) (fun d' h=>by
  obtain rfl:d'=d:=by omega
  exact xC d')
end Go.Proofs.Ytbjnhllkdilpfaa
namespace Go.Proofs.Ytbjnhllkdilpfaa
open Go.RowKit
set_option maxRecDepth 10000
theorem ai.ok.old {s:ai} {w w':World} (h:s.ok w w.heap.size) (hb:Below w.heap.size w w'):s.ok w' w'.heap.size:=
 ⟨(h.rd.below hb).more hb.size,h.len,fun t ht=>⟨((h.each t ht).rd.below hb).more hb.size,(h.each t ht).len,(h.each t ht).Rh,(h.each t ht).Ri⟩,(h.syms.below hb).more hb.size,h.slen,h.ssize⟩
theorem ai.ok.step {s:ai} {W w':World} {R:Prop} (h:s.ok W W.heap.size) (hb:Below W.heap.size W w'/\R):s.ok w' w'.heap.size:=h.old hb.1
def sig (t:vX):ByteArray×List oZ:=(t.name,t.fields)
theorem MM:(Try.prog.info? 9).map (fun i=>(i.zero,i.size,i.bytes))=some (some (.string ⟨#[]⟩),1,16):=by kernel_rfl
end Go.Proofs.Ytbjnhllkdilpfaa
namespace Go.Proofs.Ytbjnhllkdilpfaa
open Go.RowKit Go.WideMaps Go.Maps
set_option maxRecDepth 10000
def zG (pre:List (List UInt8)):List (List UInt8)->Bool
 |[]=>false
 |x::r=>if nameB x then(if pre.contains x then true else zG (pre++[x]) r)else true
def CE (l:List (List UInt8)):Bool:=zG [] l
theorem EF (A : Option Addr) (c : Nat) (l : List ByteArray) (B : Nat) (w : World) (h : Rd w B A (l.map .string)) (hB : B ≤ w.heap.size) (hm : l.length ≤ maxLen) :
  Calls Try.prog 60 #[.slice A l.length c] w fun e w'=>e=.returned (.bool (CE (l.map (·.toList))))/\Below w.heap.size w w':=by
 unfold maxLen at hm
 go_enter Try.func60,Try.ntmps60
 go_wp2
 go_loopw[8] (fun i wr=>∃k:Nat,k<=l.length/\i=.int .i64 k/\Below w.heap.size w wr/\Hid (CE (l.map (·.toList))=zG ((l.take k).map (·.toList)) ((l.drop k).map (·.toList)))) (fun i _=>l.length-(intOf i).toNat)
 case atStart=>exact⟨0,Nat.zero_le _,rfl,Below.refl _ _,rfl⟩
 case round=>
  obtain⟨k,hk,rfl,hbel,hrec⟩:=hrel;obtain⟨wo,rfl⟩:∃wo:World,wo=wr:=⟨_,rfl⟩
  by_cases hlt:k<l.length
  ·obtain⟨b,o,hA,hb,hc⟩:=(h.below (hbel.mono hB)).Ls hlt;rw[List.drop_eq_getElem_cons hlt,List.map_cons,zG]at hrec;obtain⟨x,hx⟩:∃x,x=l[k]:=⟨_,rfl⟩
   rw[<-hx]at hrec hc;have HX:=zH hx;clear hx;have hA0:=hA;rw[hA];have HA:=zH hA;clear hA hA0;go_wp2_with fail
   refine(nX _ _).mono ?_;rintro e w2 ⟨rfl,hb2⟩;have pK:=hbel.trans (hb2.mono hbel.size);clear hb2 hc;cases hnm:nameB x.toList
   ·go_wp2
    go_ret
    exact⟨lS (by rw[hrec.out,hnm];rfl),pK⟩
   ·rw[hnm,if_pos rfl]at hrec;clear hnm;go_wp2
    go_loop[5] (fun i=>∃j:Nat,j<=k/\i=.int .i64 j/\Hid (((l.take k).map (·.toList)).contains x.toList=(((l.take k).drop j).map (·.toList)).contains x.toList)) (fun i=>k-(intOf i).toNat)
    case atStart=>exact⟨0,Nat.zero_le _,rfl,rfl⟩
    case round=>
     obtain⟨j,hj,rfl,hin⟩:=hrel
     by_cases hlj:j<k
     ·obtain⟨b2,o2,hA2,hb2,hc2⟩:=(h.below (pK.mono hB)).Ls (k:=j) (by omega);rw[HA.out]at hA2;injection hA2 with hA2
      injection hA2 with e1 e2
      subst e1;subst e2;have hjl:j<(l.take k).length:=by rw[List.length_take];omega
      rw[List.drop_eq_getElem_cons hjl,List.map_cons,List.contains_cons,List.getElem_take]at hin;obtain⟨y,hy⟩:∃y,y=l[j]:=⟨_,rfl⟩
      rw[<-hy]at hin hc2;clear hy;have hlk:(j:Int)<(l.length:Int):=by omega
      go_wp2
      ·go_ret
       have ht:(y.toList==x.toList)=true:=by assumption
       have ht2:(x.toList==y.toList)=true:=by rw[beq_iff_eq]at ht⊢;exact ht.symm
       refine⟨lS ?_,pK⟩;rw[hrec.out,hin.out,ht2,Bool.true_or];rfl
      ·have ht:(y.toList==x.toList)=false:=by assumption
       have ht2:(x.toList==y.toList)=false:=by rw[beq_eq_false_iff_ne]at ht⊢;exact ht.symm
       go_round
       case rel=>exact⟨j+1,by omega,by go_num,by rw[hin.out,ht2,Bool.false_or];rfl⟩
       case measure=>simp[intOf];omega
     ·go_wp2
      have hno:((l.take k).map (·.toList)).contains x.toList=false:=by
       rw[hin.out,List.drop_eq_nil_of_le (by rw[List.length_take];omega)];rfl
      have HN:=zH hno;clear hno;go_roundw
      case rel=>
       refine⟨k+1,by omega,by go_num,pK,?_⟩;have e:(l.take (k+1)).map (·.toList)=(l.take k).map (·.toList)++[x.toList]:=by rw[List.take_succ_eq_append_getElem hlt,List.map_append,<-HX.out];rfl
       have h:=hrec.out;rw[HN.out]at h;rw[e];exact h
      case measure=>simp[intOf];omega
  ·go_wp2
   go_ret
   exact⟨lS (by rw[hrec.out,List.drop_eq_nil_of_le (by omega)];rfl),hbel⟩
end Go.Proofs.Ytbjnhllkdilpfaa
namespace Go.Proofs.Ytbjnhllkdilpfaa
open Go.RowKit
set_option linter.unusedSimpArgs false
set_option linter.unusedVariables false
set_option maxRecDepth 10000
end Go.Proofs.Ytbjnhllkdilpfaa
namespace Go.Proofs.Ytbjnhllkdilpfaa
open Go.RowKit
set_option linter.unusedSimpArgs false
set_option linter.unusedVariables false
set_option maxRecDepth 20000
end Go.Proofs.Ytbjnhllkdilpfaa
namespace Go.Proofs.Ytbjnhllkdilpfaa
set_option linter.unusedSimpArgs false
set_option linter.unusedVariables false
structure Cmp {α:Type} (lt:α->α->Bool):Prop where
 irr:∀x,lt x x=false
 asym:∀x y,lt x y=true->lt y x=false
 O4:∀x y z,Le lt x y->Le lt y z->Le lt x z
section
variable {α:Type} {lt:α->α->Bool}
theorem Cmp.XP (h:Cmp lt) {x y z:α} (h1:Le lt x y) (h2:lt y z=true):lt x z=true:=by
 cases hx:lt x z with
 |true=>rfl
 |false=>
  have h3:Le lt z y:=h.O4 _ _ _ (show Le lt z x from hx) h1;have h4:lt y z=false:=h3;rw[h2]at h4;cases h4
theorem Cmp.XQ (h:Cmp lt) {x y z:α} (h1:lt x y=true) (h2:Le lt y z):lt x z=true:=by
 cases hx:lt x z with
 |true=>rfl
 |false=>
  have h3:Le lt y x:=h.O4 _ _ _ h2 (show Le lt z x from hx);have h4:lt x y=false:=h3;rw[h1]at h4;cases h4
theorem TQ {l l' : List α} {a b i : Nat} (hc : Cmp lt) (hai : a + 1 ≤ i) (hib : i ≤ b) (hlen : b ≤ l.length) (h : fG (Le lt) l (a + 1) b) (hup : Up l l' a (i - 1))
  (h1:i=a+1\/∀u v,l[i-1]? =some u->l[a]? =some v->lt u v=true) (h2:i=b\/∀u v,l[i]? =some u->l[a]? =some v->lt u v=false):fG (Le lt) l' a b:=by
 refine ZY hc.O4 hc.asym hai hib h hup (fun x u v q1 q2 hu hv=>?_) (fun x u v q1 q2 hu hv=>?_)
 ·rcases h1 with h1|h1
  ·omega
  ·have hw:=List.getElem?_eq_getElem (l:=l) (i:=i-1) (by omega);have hwv:=h1 _ v hw hv
   by_cases hx:x=i-1
   ·subst hx;rw[hw]at hu;injection hu with hu;rw[<-hu];exact hwv
   ·exact hc.XP (h x (i-1) u _ q1 (by omega) (by omega) hu hw) hwv
 ·rcases h2 with h2|h2
  ·omega
  ·have hw:=List.getElem?_eq_getElem (l:=l) (i:=i) (by omega);have hwv:=h2 _ v hw hv
   by_cases hx:x=i
   ·subst hx;rw[hw]at hu;injection hu with hu;rw[<-hu];exact hwv
   ·cases hq:lt u v with
    |false=>rfl
    |true=>
     have:=hc.XP (h i x _ u (by omega) (by omega) q2 hw hu) hq;rw[hwv]at this;cases this
theorem TR {l l' : List α} {a m i : Nat} (hc : Cmp lt) (hai : a ≤ i) (him : i ≤ m) (hlen : m < l.length) (h : fG (Le lt) l a m) (hdn : Dn l l' i m)
  (h1:i=a\/∀u v,l[i-1]? =some u->l[m]? =some v->lt v u=false) (h2:i=m\/∀u v,l[i]? =some u->l[m]? =some v->lt v u=true):fG (Le lt) l' a (m+1):=by
 refine ZZ hc.asym hai him h hdn (fun x u v q1 q2 hu hv=>?_) (fun x u v q1 q2 hu hv=>?_)
 ·rcases h1 with h1|h1
  ·omega
  ·have hw:=List.getElem?_eq_getElem (l:=l) (i:=i-1) (by omega);have hwv:=h1 _ v hw hv
   by_cases hx:x=i-1
   ·subst hx;rw[hw]at hu;injection hu with hu;rw[<-hu];exact hwv
   ·cases hq:lt v u with
    |false=>rfl
    |true=>
     have:=hc.XQ hq (h x (i-1) u _ q1 (by omega) (by omega) hu hw);rw[hwv]at this;cases this
 ·rcases h2 with h2|h2
  ·omega
  ·have hw:=List.getElem?_eq_getElem (l:=l) (i:=i) (by omega);have hwv:=h2 _ v hw hv
   by_cases hx:x=i
   ·subst hx;rw[hw]at hu;injection hu with hu;rw[<-hu];exact hwv
   ·exact hc.XQ hwv (h i x _ u (by omega) (by omega) q2 hw hu)
def CW (a m b:Nat):Nat:=if(a+b)/2<m then(a+b)/2+m-b else a
def uu (a m b:Nat):Nat:=if(a+b)/2<m then(a+b)/2 else m
theorem Ld {l l' : List α} {a m b s : Nat} (hc : Cmp lt) (ham : a + 2 ≤ m) (hmb : m + 2 ≤ b) (hlen : b ≤ l.length) (h1 : fG (Le lt) l a m) (h2 : fG (Le lt) l m b) (hs1 : CW a m b ≤ s) (hs2 : s ≤ uu a m b)
  (hlo:s=CW a m b\/∀x y,l[(a+b)/2+m-1-(s-1)]? =some x->l[s-1]? =some y->lt x y=false) (hhi:s=uu a m b\/∀x y,l[(a+b)/2+m-1-s]? =some x->l[s]? =some y->lt x y=true)
  (hr:fH l l' s m ((a+b)/2+m-s)):a<=s/\s<=m/\m<=(a+b)/2+m-s/\(a+b)/2+m-s<=b/\s<=(a+b)/2/\fG (Le lt) l' a s/\fG (Le lt) l' s ((a+b)/2)/\fG (Le lt) l' ((a+b)/2) ((a+b)/2+m-s)/\fG (Le lt) l' ((a+b)/2+m-s) b/\Split (Le lt) l' a ((a+b)/2) b:=by
 unfold CW uu at *;generalize hmid:(a+b)/2=mid at *;have hm1:a+1<=mid:=by omega
 have hm2:mid+1<=b:=by omega
 have e1:a<=s:=by split at hs1<;>omega
 have e2:s<=m:=by split at hs2<;>omega
 have e3:s<=mid:=by split at hs2<;>omega
 have e4:mid+m-s<=b:=by split at hs1<;>omega
 refine⟨e1,e2,by omega,e4,e3,?_⟩;refine Fe hc.O4 hc.irr e1 e2 (by omega) e4 (by omega) h1 h2 (fun q1 q2 x y hx hy=>?_) (fun q1 q2 x y hx hy=>?_) hlen hr
 ·rcases hlo with hlo|hlo
  ·split at hlo<;>omega
  ·have:mid+m-1-(s-1)=mid+m-s:=by omega
   rw[this]at hlo;exact hlo y x hy hx
 ·rcases hhi with hhi|hhi
  ·split at hhi<;>omega
  ·have:mid+m-1-s=mid+m-s-1:=by omega
   rw[this]at hhi;exact hc.asym _ _ (hhi x y hx hy)
end
theorem BL {β:Type} {R:β->β->Prop} (ha:∀x y,R x y->R y x->x=y):∀{l l':List β},l.Perm l'->l.Pairwise R->l'.Pairwise R->l=l'
 |[],l',h,_,_=>(List.Perm.nil_eq h)
 |x::l,[],h,_,_=>absurd h.length_eq (by simp)
 |x::l,y::l',h,h1,h2=>by
  have hxy:x=y:=by
   have hx:x∈y::l':=h.subset (by simp);have hy:y∈x::l:=h.symm.subset (by simp);rcases List.mem_cons.1 hx with e|hx
   ·exact e
   ·rcases List.mem_cons.1 hy with e|hy
    ·exact e.symm
    ·exact ha _ _ ((List.pairwise_cons.1 h1).1 y hy) ((List.pairwise_cons.1 h2).1 x hx)
  subst hxy;rw[BL ha (List.Perm.cons_inv h) (List.pairwise_cons.1 h1).2 (List.pairwise_cons.1 h2).2]
theorem fG.pairwise {α:Type} {le:α->α->Prop} {l:List α} (h:fG le l 0 l.length):l.Pairwise le:=by
 rw[List.pairwise_iff_getElem];intro i j hi hj hij;exact h i j _ _ (Nat.zero_le _) hij hj (List.getElem?_eq_getElem hi) (List.getElem?_eq_getElem hj)
end Go.Proofs.Ytbjnhllkdilpfaa
