/- Part 5 of the proof. No conditions. -/
import Derived.Test.YtbjnhllkdilpfaaGreatZf03
import Derived.Test.YtbjnhllkdilpfaaGreatZf04
set_option linter.unusedVariables false
set_option linter.unusedSimpArgs false
set_option maxRecDepth 20000
namespace Go.Proofs.YtbjnhllkdilpfaaGreat
open Go.RowKit _root_.Go.Proofs.Tryz
def BJ:Array Value->Nat->List Value->Array Value
 |cs,_,[]=>cs
 |cs,k,d::r=>BJ (cs.setIfInBounds k d) (k+1) r
theorem EJ:∀(a:List Value) (cs:Array Value) (k:Nat),(BJ cs k a).size=cs.size
 |[],_,_=>rfl
 |d::r,cs,k=>by
  have:=EJ r (cs.setIfInBounds k d) (k+1)
  simpa[BJ]using this
theorem yL:∀(a:List Value) (cs:Array Value) (k:Nat),k+a.length<=cs.size->(BJ cs k a).toList=cs.toList.take k++a++cs.toList.drop (k+a.length)
 |[],cs,k,_=>by simp[BJ]
 |d::r,cs,k,h=>by
  simp only[zFh]at h;have a:=yL r (cs.setIfInBounds k d) (k+1) (by simp;omega);have b:k<cs.toList.length:=by simp;omega
  show(BJ (cs.setIfInBounds k d) (k+1) r).toList=_
  rw[a,zJm,List.drop_set_of_lt (by omega),zGc (by simpa using b)];simp[List.take_set,zFh];rw[List.set_eq_of_length_le (by simp;omega)];simp[zJb,Nat.add_comm 1]
theorem BK (a:List Value) (cs:Array Value) (h:cs.size=a.length):BJ cs 0 a=a.toArray:=by
 apply Array.toList_inj.1
 rw[yL a cs 0 (by omega)];have:cs.toList.drop (0+a.length)=[]:=zFq (by simp;omega);simp[this];omega
structure qC (w:World) (g:Nat) (t:TypeId) (cs:Array Value) (w':World):Prop where
 bk:Bk w' g t cs
 size:w'.heap.size=w.heap.size
 other:∀b:Nat,b≠g->w'.heap[b]? =w.heap[b]?
 below:∀(B:Nat) (a0:World),Below B a0 w->B<=g->Below B a0 w'
 grown:w.grownBy w' (some g)
section
variable {w:World} {g o:Nat} {t:TypeId} {cs:Array Value}
theorem IL {i:Nat} {v:Value} {a:List Value} (hb:Bk w g t cs) (h:o+i<cs.size) (j:v.oneCell'=true):
  (storeCells ⟨g,o,none⟩ (v::a) i).run prog w=(storeCells ⟨g,o,none⟩ a (i+1)).run prog (w.setCell ⟨g,o+i,none⟩ v):=by
 have e:((⟨g,o,none⟩:Addr).add i)=⟨g,o+i,none⟩:=by unfold Addr.add;by_cases c:i=0<;>simp[c]
 have f:w.cell? ⟨g,o+i,none⟩=some cs[o+i]:=by rw[hb.cell (o+i)];simp[h]
 have d:=hb.frozen (o+i)
 have b:(store ⟨g,o+i,none⟩ v).run prog w=.ok () (w.setCell ⟨g,o+i,none⟩ v):=by
  cases v<;>first|(simp[store,Sem.run,f,d];done)|(simp[Value.oneCell']at j;done)
 simp[storeCells,e,b]
theorem TJ:∀(a:List Value) (i:Nat) (cs:Array Value) (w:World),Bk w g t cs->o+i+a.length<=cs.size->a.all Value.oneCell'=true->
  ∃w',(storeCells ⟨g,o,none⟩ a i).run prog w=.ok () w'/\qC w g t (BJ cs (o+i) a) w'
 |[],i,cs,w,hb,_,_=>⟨w,rfl,⟨hb,rfl,λ_ _=>rfl,λ_ _ h _=>h,zF8 _ _⟩⟩
 |d::r,i,cs,w,hb,q,f=>by
  simp only[List.all_cons,zFn]at f;simp only[zFh]at q;obtain⟨w',n,a⟩:=TJ r (i+1) (cs.setIfInBounds (o+i) d) (w.setCell ⟨g,o+i,none⟩ d) (hb.put (o+i) d) (by simp;omega) f.2;refine⟨w',(IL hb (by omega) f.1).trans n,⟨a.bk,by rw[a.size];simp,λb c=>(a.other b c).trans (zGt w _ d b c),λB l m j=>a.below B l (m.setCell j _) j,?_⟩⟩;have p:w.grownBy (w.setCell ⟨g,o+i,none⟩ d) (some g):=⟨rfl,rfl,rfl,by simp,λk e h=>zGt w _ d k (λe=>h (by rw[e]))⟩
  exact p.trans a.grown
theorem BL {c:TypeId} {n:Nat} (b:∀w,(sizeOf c).run prog w=.ok n w) (h:Bk w g t cs) (a:List Value) (i:a.length=n) (j:o+n<=cs.size) (d:a.all Value.oneCell'=true):
  ∃w',(Instr.storeAt c (.pointer (some ⟨g,o,none⟩)) (.agg a.toArray)).run prog w=.ok () w'/\qC w g t (BJ cs o a) w':=by
 obtain⟨w',f,e⟩:=TJ (o:=o) a 0 cs w h (by omega) d;refine⟨w',?_,e⟩;rw[<-f];simp[Instr.storeAt,storeVar,Instr.sureAddr,b,Value.cells,i]
theorem IM {ops:Array Oper} {b:List Oper} {op:Oper} {a:Act} {Q:Exit->Act->World->Prop} {k:TypeId} {n:Nat} (f:∀w,(sizeOf k).run prog w=.ok n w)
  (q:op.guard=none) (x y:Operand) (j:op.op=Op.store k x y) (v:a.eval x=.pointer (some ⟨g,o,none⟩)) (c:List Value) (l:a.eval y=.agg c.toArray) (h:Bk w g t cs) (z:c.length=n) (m:o+n<=cs.size)
  (p:c.all Value.oneCell'=true) (d:Array Value) (e:BJ cs o c=d)
  (u:∀w':World,qC w g t d w'->wpList prog ops Q b (a.put op.dst undef) w'):wpList prog ops Q (op::b) a w:=by
 refine zH8 q λK' i=>?_
 obtain⟨w',s,r⟩:=BL f h c z m p;unfold Oper.wp;simp[execOp,j,v,l,s,Result.andThen];exact i _ _ (u _ (e▸r))
theorem ae {ops:Array Oper} {b:List Oper} {op:Oper} {a:Act} {Q:Exit->Act->World->Prop} {f:TypeId} {n:Nat} (d:∀w,(sizeOf f).run prog w=.ok n w)
  (k:op.guard=none) (x y:Operand) (e:op.op=Op.store f x y) (l:a.eval x=.pointer (some ⟨g,0,none⟩)) (c:List Value) (i:a.eval y=.agg c.toArray) (h:Bk w g t cs) (o:c.length=n) (p:cs.size=n)
  (j:c.all Value.oneCell'=true)
  (m:∀w':World,qC w g t c.toArray w'->wpList prog ops Q b (a.put op.dst undef) w'):wpList prog ops Q (op::b) a w:=
 IM d k x y e l c i h o (by omega) j _ (BK c cs (by omega)) m
theorem TK:∀(b:List Value) (i:Nat) (a:Array Value),(∀(j:Nat) (u:Value),b[j]? =some u->w.cell? ⟨g,o+(i+j),none⟩=some u)->(loadCellsFrom ⟨g,o,none⟩ i b.length a).run prog w=.ok (a++b.toArray) w
 |[],i,a,_=>by simp[loadCellsFrom]
 |v::r,i,a,h=>by
  have e:((⟨g,o,none⟩:Addr).add i)=⟨g,o+i,none⟩:=by unfold Addr.add;by_cases f:i=0<;>simp[f]
  have c:=h 0 v rfl;rw[Nat.add_zero]at c;have d:=TK r (i+1) (a.push v) λj u k=>by have:=h (j+1) u (by simpa using k);rwa [show i+(j+1)=i+1+j by omega]at this
  have l:(load ⟨g,o+i,none⟩).run prog w=.ok v w:=by simp[load,Sem.run,c]
  have b:a.push v++r.toArray=a++(v::r).toArray:=by simp
  rw[<-b]
  show(loadCellsFrom ⟨g,o,none⟩ i (r.length+1) a).run prog w=_
  unfold loadCellsFrom;rw[e,zH5,l];exact d
theorem dW {c:TypeId} {n:Nat} (d:∀w,(isAgg c).run prog w=.ok true w) (b:∀w,(sizeOf c).run prog w=.ok n w) (a:List Value) (f:a.length=n) (h:∀(j:Nat) (u:Value),a[j]? =some u->w.cell? ⟨g,o+j,none⟩=some u):
  (Instr.loadAt c (.pointer (some ⟨g,o,none⟩))).run prog w=.ok (.agg a.toArray) w:=by
 have e:=TK (w:=w) (g:=g) (o:=o) a 0 #[] (by simpa using h);rw[f]at e;simp[Instr.loadAt,loadVar,Instr.sureAddr,d,b,loadCells,e]
end
theorem qC.zJ {w w':World} {g k:Nat} {t u:TypeId} {cs b:Array Value} (h:qC w g t cs w') (c:Bk w k u b) (a:k≠g):Bk w' k u b:=(h.other k a).trans c
theorem ai.ok.old {s:ai} {w w':World} (h:s.ok w w.heap.size) (hb:Below w w w'):s.ok w' w'.heap.size:=
 ⟨(h.rd.below hb).more hb.size,h.len,λt a=>⟨((h.each t a).rd.below hb).more hb.size,(h.each t a).len,(h.each t a).Ut,(h.each t a).Uu⟩,(h.syms.below hb).more hb.size,h.slen,h.ssize⟩
theorem ai.ok.step {s:ai} {W w':World} {R:Prop} (h:s.ok W W.heap.size) (hb:Below W W w'/\R):s.ok w' w'.heap.size:=h.old hb.1
def sig (t:rV):ByteArray×List mQ:=(t.name,t.fields)
theorem Pn:(prog.info? 9).map (λi=>(i.zero,i.size,i.bytes))=some (some (.string ⟨#[]⟩),1,16):=by kernel_rfl
def I64 (n:Int):Prop:= -9223372036854775808<=n/\n<9223372036854775808
def un (n:Int):Nat:=(n%18446744073709551616).toNat
theorem Pv (n:Int):IntKind.u64.wrap n=(un n:Int):=by rw[zH2];unfold un;omega
theorem ZB (n:Int):un n<18446744073709551616:=by unfold un;omega
theorem Jz (n:Int):I64 (wrap64 n):=by unfold I64 wrap64;omega
theorem JA (n:Int):ofInt n<18446744073709551616:=uC _ (by have:=floatOfInt_wf .f64 n;simpa[Lit.wf]using this)
inductive ah
 |mk (op kind:Int) (A:Option Addr) (c:Nat) (args:List ah) (vk:Int) (vb:Nat) (pos attr:Int)
def ah.cells:ah->List Value
 |.mk op kind A c args vk vb pos a=>[.int .i64 op,.int .i64 kind,.slice A args.length c,.int .i64 vk,.int .u64 vb,.int .i64 pos,.int .i64 a]
def ah.val (n:ah):Value:=.agg n.cells.toArray
theorem ah.len (n:ah):n.cells.length=7:=by cases n;rfl
def yT:Nat->ah->World->Nat->Prop
 |0,_,_,_=>False
 |d+1,.mk op kind A c args vk vb pos a,w,B=>Rd w B A (args.flatMap ah.cells)/\args.length<=1048576/\vb<18446744073709551616/\∀x∈args,yT d x w B
theorem yT.below {w w':World} {B:Nat} (hb:Below B w w'):∀{d:Nat} {n:ah},yT d n w B->yT d n w' B
 |0,_,h=>h
 |d+1,.mk ..,h=>⟨h.1.below hb,h.2.1,h.2.2.1,λx a=>yT.below hb (h.2.2.2 x a)⟩
theorem yT.more {w:World} {B B':Nat} (a:B<=B'):∀{d:Nat} {n:ah},yT d n w B->yT d n w B'
 |0,_,h=>h
 |d+1,.mk ..,h=>⟨h.1.more a,h.2.1,h.2.2.1,λx b=>yT.more a (h.2.2.2 x b)⟩
theorem yT.old {w w':World} {d:Nat} {n:ah} (h:yT d n w w.heap.size) (hb:Below w w w'):yT d n w' w'.heap.size:=(h.below hb).more hb.size
theorem yT.up {w:World} {B:Nat}:∀{d:Nat} {n:ah},yT d n w B->yT (d+1) n w B
 |0,_,h=>h.elim
 |d+1,.mk ..,h=>⟨h.1,h.2.1,h.2.2.1,λx a=>(h.2.2.2 x a).up⟩
theorem bel2 (w:World) (b a:Obj):Below w w ((w.alloc b).alloc a):=(zR.alloc zL _).alloc (by simp) _
theorem bel3 (w:World) (c b a:Obj):Below w w (((w.alloc c).alloc b).alloc a):=(bel2 _ _ _).alloc (by simp;omega) _
end Go.Proofs.YtbjnhllkdilpfaaGreat
