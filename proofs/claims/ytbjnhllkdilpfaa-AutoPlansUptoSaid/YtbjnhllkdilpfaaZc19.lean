/- Part 19 of the proof. No conditions. -/
import Derived.Test.YtbjnhllkdilpfaaZc06
import Derived.Test.YtbjnhllkdilpfaaZc07
namespace Go.Proofs.Ytbjnhllkdilpfaa
open Go.RowKit
set_option maxRecDepth 100000
set_option maxHeartbeats 16000000
set_option linter.unusedVariables false
set_option linter.unusedSimpArgs false
def fE (S S':Nat->Prop) (w w':World):Prop:=∀b,S b->b<w.heap.size->S' b/\b<w'.heap.size/\w'.heap[b]? =w.heap[b]?
theorem fE.old {S:Nat->Prop} {w w':World} (hb:Below w.heap.size w w'):fE S S w w':=fun b h hlt=>⟨h,Nat.lt_of_lt_of_le hlt hb.size,hb.block b hlt⟩
theorem fE.set {S S':Nat->Prop} {w:World} {p:Addr} {v:Value} (h:∀b,S b->S' b/\b≠p.block):fE S S' w (w.setCell p v):=fun b hb hlt=>⟨(h b hb).1,by simpa using hlt,Below.heap_setCell w p v b (h b hb).2⟩
theorem fE.grown {S:Nat->Prop} {w w':World} {row:Option Nat} (h:w.grownBy w' row):fE (fun q=>S q/\some q≠row) S w w':=fun b hb hlt=>⟨hb.1,Nat.lt_of_lt_of_le hlt h.size,h.block b hlt hb.2⟩
theorem fE.fJ {S:Nat->Prop} {w w':World} {g:Nat} (h:w.grownBy w' (some g)) (hS:∀b,S b->b≠g):fE S S w w':=fun b hb hlt=>⟨hb,Nat.lt_of_lt_of_le hlt h.size,h.block b hlt fun e=>hS b hb (by injection e)⟩
theorem fO {w w1 w2:World} {row:Option Nat} (h:w.grownBy w1 row) (hb:Below w.heap.size w1 w2):w.grownBy w2 row:=
 ⟨hb.os.trans h.os,hb.tape.trans h.tape,hb.output.trans h.output,Nat.le_trans h.size hb.size,fun k hk hne=>(hb.block k hk).trans (h.block k hk hne)⟩
theorem nS {w w1:World} {g i:Nat} {v:Value} (h:w.grownBy w1 (some g)):w.grownBy (w1.setCell ⟨g,i,none⟩ v) (some g):=
 h.trans ⟨rfl,rfl,rfl,by simp,fun k hk hne=>Below.heap_setCell w1 _ v k (fun e=>hne (by rw[e]))⟩
theorem ba (w:World) (o:Obj):Below w.heap.size w (w.alloc o):=zR.alloc zL _
class CK {α:Type} (n:outParam Nat) (P:(Nat->Prop)->α->List Value->World->Prop):Prop where
 pos:0<n
 keep:∀{S S':Nat->Prop} {w w':World} {x:α} {cs:List Value},fE S S' w w'->P S x cs w->P S' x cs w'
 len:∀{S:Nat->Prop} {w:World} {x:α} {cs:List Value},P S x cs w->cs.length=n
 one:∀{S:Nat->Prop} {w:World} {x:α} {cs:List Value},P S x cs w->cs.all Value.oneCell'=true
def Rw {α:Type} (P:(Nat->Prop)->α->List Value->World->Prop) (S:Nat->Prop) (xs:List α) (A:Option Addr) (w:World):Prop:=
 ∃ps:List (α×List Value),ps.map Prod.fst=xs/\I8 w S A (ps.flatMap Prod.snd)/\∀p∈ps,P S p.1 p.2 w
def Sl {α:Type} (P:(Nat->Prop)->α->List Value->World->Prop) (S:Nat->Prop) (xs:List α) (v:Value) (w:World):Prop:=
 ∃A c,v=.slice A xs.length c/\xs.length<=1000000000000/\Rw P S xs A w
theorem zW {α β:Type} {n:Nat} (f:α->List β):∀(l:List α) (hf:∀a∈l,(f a).length=n) (k j:Nat) (hk:k<l.length) (hj:j<n),(l.flatMap f)[k*n+j]? =(f l[k])[j]?
 |a::l,hf,0,j,hk,hj=>by
  rw[List.flatMap_cons,Nat.zero_mul,Nat.zero_add,List.getElem?_append_left (by rw[hf a (by simp)];exact hj)];rfl
 |a::l,hf,k+1,j,hk,hj=>by
  rw[List.flatMap_cons,List.getElem?_append_right (by rw[hf a (by simp),Nat.succ_mul];omega),hf a (by simp),show(k+1)*n+j-n=k*n+j by rw[Nat.succ_mul];omega];exact zW f l (fun b hb=>hf b (by simp[hb])) k j (by simpa using hk) hj
theorem nT {α β:Type} {n:Nat} (f:α->List β):∀(l:List α) (hf:∀a∈l,(f a).length=n),(l.flatMap f).length=l.length*n
 |[],_=>by simp
 |a::l,hf=>by
  rw[List.flatMap_cons,List.length_append,hf a (by simp),nT f l (fun b hb=>hf b (by simp[hb])),List.length_cons,Nat.succ_mul,Nat.add_comm]
section
variable {α:Type} {n:Nat} {P:(Nat->Prop)->α->List Value->World->Prop} {S S':Nat->Prop} {xs:List α} {A:Option Addr} {v:Value} {w w':World}
theorem Rw.keep [CK n P] (h:Rw P S xs A w) (hk:fE S S' w w'):Rw P S' xs A w':=by
 obtain⟨ps,h1,h2,h3⟩:=h;exact⟨ps,h1,h2.keep hk,fun p hp=>CK.keep hk (h3 p hp)⟩
theorem Rw.old [CK n P] (h:Rw P S xs A w) (hb:Below w.heap.size w w'):Rw P S xs A w':=h.keep (.old hb)
theorem Sl.keep [CK n P] (h:Sl P S xs v w) (hk:fE S S' w w'):Sl P S' xs v w':=by
 obtain⟨A,c,h1,h2,h3⟩:=h;exact⟨A,c,h1,h2,h3.keep hk⟩
theorem Sl.one (h:Sl P S xs v w):v.oneCell'=true:=by
 obtain⟨A,c,rfl,_⟩:=h;rfl
theorem Rw.elem [CK n P] (h:Rw P S xs A w) {k:Nat} (hk:k<xs.length):∃b o cs,A=some ⟨b,o,none⟩/\S b/\b<w.heap.size/\P S xs[k] cs w/\∀j u,cs[j]? =some u->w.cell? ⟨b,o+k*n+j,none⟩=some u:=by
 obtain⟨ps,rfl,h2,h3⟩:=h;rw[List.length_map]at hk;have hm:=h3 _ (List.getElem_mem hk);have hl:∀p∈ps,(Prod.snd p).length=n:=fun p hp=>CK.len (h3 p hp)
 have hp0:0<n:=CK.pos P;rcases h2 with h0|⟨b,o,h1,h2,h4,h5⟩
 ·have:=nT Prod.snd ps hl;rw[h0]at this;have:=Nat.mul_pos (Nat.lt_of_le_of_lt (Nat.zero_le _) hk) hp0;simp at *;omega
 ·refine⟨b,o,ps[k].2,h1,h2,h4,by simpa using hm,fun j u hu=>?_⟩;have hj:j<n:=by rw[<-hl _ (List.getElem_mem hk)];exact(List.getElem?_eq_some_iff.1 hu).1
  rw[Nat.add_assoc];exact h5 _ _ (by rw[zW Prod.snd ps hl k j hk hj];exact hu)
def Uo {α:Type} (P:(Nat->Prop)->α->List Value->World->Prop) (S:Nat->Prop) (xs:List α) (v:Value) (w:World):Prop:=
 ∃A c,v=.slice A xs.length c/\∃ps:List (α×List Value),ps.map Prod.fst=xs/\Rd w w.heap.size A (ps.flatMap Prod.snd)/\∀p∈ps,P S p.1 p.2 w
theorem Sl.r {α:Type} {P:(Nat->Prop)->α->List Value->World->Prop} {S:Nat->Prop} {xs:List α} {v:Value} {w:World} (h:Sl P S xs v w):Uo P S xs v w:=by
 obtain⟨A,c,h1,_,ps,h2,h3,h4⟩:=h;exact⟨A,c,h1,ps,h2,h3.rd,h4⟩
theorem Rw.lo [CK n P] (h:Rw P S xs A w):Rw P (fun q=>S q/\q<w.heap.size) xs A w:=h.keep fun b hb hlt=>⟨⟨hb,hlt⟩,hlt,rfl⟩
theorem Rw.nil:Rw P S [] A w:=⟨[],rfl,.inl rfl,fun p hp=>absurd hp (by simp)⟩
end
def Bd {α:Type} (S0:Nat->Prop) (base t n:Nat) (P:(Nat->Prop)->α->List Value->World->Prop) (xs:List α) (v:Value) (w:World):Prop:=
 ∃ps:List (α×List Value),ps.map Prod.fst=xs/\w.ownsRow base t n v xs.length (ps.flatMap Prod.snd)/\∀p∈ps,P (fun q=>S0 q/\some q≠v.ownBlock) p.1 p.2 w
def Fr (base:Nat) (w w':World):Prop:=∀(B:Nat) (a0:World),B<=base->B<=w.heap.size->Below B a0 w->Below B a0 w'
section
variable {α:Type} {n:Nat} {P:(Nat->Prop)->α->List Value->World->Prop} {S S':Nat->Prop} {base t:Nat} {xs:List α} {A:Option Addr} {v v':Value} {w w':World}
theorem Bd.nil (hb:base<=w.heap.size):Bd S base t n P [] (.slice none 0 0) w:=⟨[],rfl,World.ownsRow_nil _ _ _ _,fun p hp=>absurd hp (by simp)⟩
theorem Bd.form (h:Bd S base t n P xs v w):∃A c,v=.slice A xs.length c/\xs.length<=c:=by
 obtain⟨ps,h1,h2,h3⟩:=h;exact bg h2
theorem Bd.lt (h:Bd S base t n P xs v w) {k:Nat} (hk:v.ownBlock=some k):base<=k/\k<w.heap.size:=by
 obtain⟨ps,h1,h2,h3⟩:=h;exact h2.lt k hk
theorem Bd.old [CK n P] (h:Bd S base t n P xs v w) (hb:Below w.heap.size w w'):Bd S base t n P xs v w':=by
 obtain⟨ps,h1,h2,h3⟩:=h;exact⟨ps,h1,aQ h2 hb,fun p hp=>CK.keep (.old hb) (h3 p hp)⟩
theorem Bd.set [CK n P] (h:Bd S base t n P xs v w) {p:Addr} (u:Value) (hS:∀b,S b->b≠p.block) (hp:p.block<base):Bd S base t n P xs v (w.setCell p u):=by
 obtain⟨ps,h1,h2,h3⟩:=h;exact⟨ps,h1,ownsRow_setCell_other h2 (fun e=>by have:=(h2.lt _ e).1;omega) u,fun q hq=>CK.keep (fE.set fun b hb=>⟨hb,hS b hb.1⟩) (h3 q hq)⟩
theorem Bd.Ur [CK n P] {S0:Nat->Prop} (h:Bd S0 base t n P xs v w) (hS:∀b,base<=b->v.ownBlock=some b->S b) (hS0:∀b,S0 b->some b≠v.ownBlock->S b) (hl:xs.length<=1000000000000):Sl P S xs v w:=by
 obtain⟨ps,h1,h2,h3⟩:=h;obtain⟨A,c,rfl,_⟩:=bg h2;refine⟨A,c,rfl,hl,ps,h1,?_,fun p hp=>CK.keep (fun b hb hlt=>⟨hS0 b hb.1 hb.2,hlt,rfl⟩) (h3 p hp)⟩;rcases rM h2 with h0|⟨b,o,h4,h5,h6⟩
 ·exact .inl h0
 ·exact .inr ⟨b,o,h4,hS b h5 (by rw[h4];rfl),h6⟩
theorem Bd.sl [CK n P] (h:Bd S base t n P xs v w) (hS:∀b,base<=b->S b) (hl:xs.length<=1000000000000):Sl P S xs v w:=h.Ur (fun b hb _=>hS b hb) (fun b hb _=>hb) hl
theorem Bd.ne (h:Bd S base t n P xs v w) {g u:Nat} {cs:Array Value} (hk:Bk w g u cs) (hne:t≠u):some g≠v.ownBlock:=by
 obtain⟨ps,h1,h2,h3⟩:=h;exact aO h2 hk hne
end
structure XX (ts t n by':Nat):Prop where
 und:Try.prog.underlying ts=some (.slice t)
 inf:∃z:Value,(Try.prog.info? t).map (fun i=>(i.zero,i.size,i.bytes))=some (some z,n,by')/\z.cells.size=n
 le:0<n/\n<=8/\by'<=128
structure I9 (ts t n by':Nat):Prop extends XX ts t n by' where
 agg:∀w,(isAgg t).run Try.prog w=.ok true w
theorem dE {ts t n by':Nat} (h:XX ts t n by') (w:World):(sizeOf t).run Try.prog w=.ok n w:=by
 obtain⟨z,h1,h2⟩:=h.inf;obtain⟨i,hi,h0,h1,h2⟩:=info_parts h1;simp[sizeOf,typeInfo,hi,h1]
theorem Gg:∀(vs:List Value) (k:Nat) (z:List Value),k+vs.length<=z.length->((vs.zipIdx k).foldl (fun(a:Array Value) (p:Value×Nat)=>a.setIfInBounds p.2 p.1) z.toArray).toList=z.take k++vs++z.drop (k+vs.length)
 |[],k,z,h=>by simp
 |v::vs,k,z,h=>by
  simp only[List.length_cons]at h;rw[List.zipIdx_cons,List.foldl_cons];have:=Gg vs (k+1) (z.set k v) (by simp;omega);simp only[List.setIfInBounds_toArray]at this⊢;rw[this]
  apply List.ext_getElem?
  intro i;simp only[List.length_cons,List.getElem?_append,List.getElem?_take,List.getElem?_drop,List.length_append,List.length_take,List.getElem?_set,List.getElem?_cons,List.length_set]
  (repeat' split)<;>first|rfl|(exfalso;omega)|(congr 1;omega)|skip
theorem U6 {ts t n by':Nat} (h:I9 ts t n by') (cs:List Value) (hl:cs.length=n) (w:World):(Instr.buildSlice ts 1 #[(0,.agg cs.toArray)]).run Try.prog w=.ok (.slice (some ⟨w.heap.size,0,none⟩) 1 1) (w.alloc (.cells cs.toArray t)):=by
 obtain⟨z,h1,h2⟩:=h.inf;obtain⟨i,hi,h0,h3,h4⟩:=info_parts h1;have hz:(zeroValue t).run Try.prog w=.ok z w:=by simp[zeroValue,typeInfo,hi,h0]
 obtain⟨hp,hle,_⟩:=h.le
 have hf:Instr.fill (fun i=>some (i*n,n)) ((Array.range n).map (z.cells[·%z.cells.size]!)) [(0,Value.agg cs.toArray)]=some cs.toArray:=by
  have hs:((Array.range n).map (z.cells[·%z.cells.size]!)).size=n:=by simp
  generalize(Array.range n).map (z.cells[·%z.cells.size]!)=Z at hs;simp only[Instr.fill,Value.cells,List.size_toArray,hl,Nat.zero_mul,Nat.zero_add,hs,ne_eq,not_true_eq_false,decide_false,Bool.false_or,Nat.lt_irrefl,gt_iff_lt];simp only[Bool.false_eq_true,if_false];refine congrArg some ?_;have:=Gg cs 0 Z.toList (by simp;omega);simp only[Array.toArray_toList,List.take_zero,List.nil_append,Nat.zero_add]at this
  apply Array.ext'
  rw[<-Array.foldl_toList,Array.toList_zipIdx,this,List.drop_eq_nil_of_le (by simp;omega),List.append_nil]
 simp[Instr.buildSlice,run_underlying h.und,dE h.toXX,hz,hf];rw[if_neg (by omega),if_neg (by omega)];rfl
section
variable {w:World} {ops:Array Oper} {rest:List Oper} {op:Oper} {a:Act} {Q:Exit->Act->World->Prop} {ts t n by':Nat}
theorem aX (h : I9 ts t n by') (hg : op.guard = none) (x : Operand) (hop : op.op = Op.load t x) {g o : Nat} (hx : a.eval x = .pointer (some ⟨g, o, none⟩)) (vs : List Value) (hn : vs.length = n) (hc : ∀ (j : Nat) (u : Value), vs[j]? = some u → w.cell? ⟨g, o + j, none⟩ = some u)
  (hK:wpList Try.prog ops Q rest (a.put op.dst (.agg vs.toArray)) w):wpList Try.prog ops Q (op::rest) a w:=by
 refine wpList_plain hg fun K' hK'=>?_
 unfold Oper.wp;simp[execOp,hop,hx,rP h.agg (dE h.toXX) vs hn hc,Result.andThen];exact hK' _ _ hK
theorem Gh {α : Type} {P : (Nat → Prop) → α → List Value → World → Prop} [CK n P] {S : Nat → Prop} {K : Act → World → Prop} (h : I9 ts t n by') (s x : Operand) (hop : op.op = .call { callee := .builtin .append, args := #[s, x], argTypes := #[ts, ts] }) {base : Nat} {xs : List α} {v : Value} (hs : a.eval s = v) (hB : Bd S base t n P xs v w)
  {g c:Nat} (hx:a.eval x=.slice (some ⟨g,0,none⟩) 1 c) (cs:List Value) (hk:Bk w g t cs.toArray) (e:α) (hP:P (fun q=>S q/\some q≠v.ownBlock) e cs w) (hl:xs.length<=1000000000000) (hb:base<=w.heap.size)
  (hK:∀A' c' w',Bd S base t n P (xs++[e]) (.slice A' (xs.length+1) c') w'->Fr base w w'->w.grownBy w' v.ownBlock->K (a.put op.dst (.slice A' (xs.length+1) c')) w'):op.wp Try.prog a w K Q:=by
 obtain⟨z,h1,h2⟩:=h.inf;obtain⟨i,hi,h0,h3,h4⟩:=info_parts h1;obtain⟨hp,hle,hby⟩:=h.le;obtain⟨ps,h5,h6,h7⟩:=hB;have hlen:=CK.len hP;refine dJ s x ts hop base t i z n by' h.und hi h0 h3 h4 h2 hp v _ _ hs h6 (g+1) (some ⟨g,0,none⟩) 1 c cs hx (Rd.bk hk (by omega)) (by omega) (List.all_eq_true.1 (CK.one hP)) (by unfold maxLen;omega) (Nat.le_trans (Nat.mul_le_mul (by omega:_<=1000000000001) hby) (by decide)) hb ?_
 intro A' c' w' h8 h9 h10
 have hkp:fE (fun q=>S q/\some q≠v.ownBlock) (fun q=>S q/\some q≠(Value.slice A' (xs.length+1) c').ownBlock) w w':=fun b hb hlt=>⟨⟨hb.1,by
  rcases h10 with e|e
  ·rw[e];exact hb.2
  ·rw[e];intro he;injection he with he;omega⟩,by have:=h9.size;omega,h9.block b hlt hb.2⟩
 refine hK A' c' w' ⟨ps++[(e,cs)],by simp[h5],by rw[List.flatMap_append];simpa using h8,fun p hp=>?_⟩ (fun B a0 h11 h12 h13=>dY h13 h6 h11 h9 h12) h9;rcases List.mem_append.1 hp with hp|hp
 ·exact CK.keep hkp (h7 p hp)
 ·simp only[List.mem_cons,List.not_mem_nil,or_false]at hp;subst hp;exact CK.keep hkp hP
theorem LW {α : Type} {P : (Nat → Prop) → α → List Value → World → Prop} [CK n P] {S S2 : Nat → Prop} {K : Act → World → Prop} (h : XX ts t n by') (s x : Operand) (hop : op.op = .call { callee := .builtin .append, args := #[s, x], argTypes := #[ts, ts] }) {base : Nat} {xs ys : List α} {v u : Value} (hs : a.eval s = v) (hB : Bd S base t n P xs v w)
  (hx:a.eval x=u) (hY:Uo P S2 ys u w) (hS:∀b,S2 b->b<w.heap.size->S b/\some b≠v.ownBlock) (hl:xs.length+ys.length<=1000000000000) (hb:base<=w.heap.size)
  (hK:∀A' c' w',Bd S base t n P (xs++ys) (.slice A' (xs.length+ys.length) c') w'->Fr base w w'->w.grownBy w' v.ownBlock->K (a.put op.dst (.slice A' (xs.length+ys.length) c')) w'):op.wp Try.prog a w K Q:=by
 obtain⟨z,h1,h2⟩:=h.inf;obtain⟨i,hi,h0,h3,h4⟩:=info_parts h1;obtain⟨hp,hle,hby⟩:=h.le;obtain⟨ps,h5,h6,h7⟩:=hB;obtain⟨A,c,rfl,qs,h8,h9,h10⟩:=hY;have hlen:(qs.flatMap Prod.snd).length=ys.length*n:=by rw[nT Prod.snd qs fun p hp=>CK.len (h10 p hp),<-h8,List.length_map]
 refine dJ s x ts hop base t i z n by' h.und hi h0 h3 h4 h2 hp v _ _ hs h6 w.heap.size A ys.length c _ hx h9 hlen ?_ (by unfold maxLen;omega) (Nat.le_trans (Nat.mul_le_mul hl hby) (by decide)) hb ?_
 ·intro u hu;obtain⟨p,hp,hu⟩:=List.mem_flatMap.1 hu;exact List.all_eq_true.1 (CK.one (h10 p hp)) u hu
 intro A' c' w' h11 h12 h13
 have hkp:∀{S1:Nat->Prop},(∀b,S1 b->b<w.heap.size->S b/\some b≠v.ownBlock)->fE S1 (fun q=>S q/\some q≠(Value.slice A' (xs.length+ys.length) c').ownBlock) w w':=fun hS1 b hb hlt=>⟨⟨(hS1 b hb hlt).1,by
  rcases h13 with e|e
  ·rw[e];exact(hS1 b hb hlt).2
  ·rw[e];intro he;injection he with he;omega⟩,by have:=h12.size;omega,h12.block b hlt (hS1 b hb hlt).2⟩
 refine hK A' c' w' ⟨ps++qs,by rw[List.map_append,h5,h8],by rw[List.flatMap_append,List.length_append];exact h11,fun p hp=>?_⟩ (fun B a0 Us h15 h16=>dY h16 h6 Us h12 h15) h12;rcases List.mem_append.1 hp with hp|hp
 ·exact CK.keep (hkp fun b hb _=>hb) (h7 p hp)
 ·exact CK.keep (hkp hS) (h10 p hp)
theorem kL {α : Type} {P : (Nat → Prop) → α → List Value → World → Prop} [CK n P] {S S2 : Nat → Prop} (h : XX ts t n by') (hg : op.guard = none) (s x : Operand) (hop : op.op = .call { callee := .builtin .append, args := #[s, x], argTypes := #[ts, ts] }) {base : Nat} {xs ys : List α} {v u : Value} (hs : a.eval s = v) (hB : Bd S base t n P xs v w)
  (hx:a.eval x=u) (hY:Uo P S2 ys u w) (hS:∀b,S2 b->b<w.heap.size->S b/\some b≠v.ownBlock) (hl:xs.length+ys.length<=1000000000000) (hb:base<=w.heap.size)
  (hK:∀A' c' w',Bd S base t n P (xs++ys) (.slice A' (xs.length+ys.length) c') w'->Fr base w w'->w.grownBy w' v.ownBlock->wpList Try.prog ops Q rest (a.put op.dst (.slice A' (xs.length+ys.length) c')) w'):wpList Try.prog ops Q (op::rest) a w:=wpList_plain hg fun _ hK'=>LW h s x hop hs hB hx hY hS hl hb fun A' c' w' h1 h2 h3=>hK' _ _ (hK A' c' w' h1 h2 h3)
theorem gU {α : Type} {P : (Nat → Prop) → α → List Value → World → Prop} [CK n P] {S : Nat → Prop} (h : I9 ts t n by') (hg : op.guard = none) (s x : Operand) (hop : op.op = .call { callee := .builtin .append, args := #[s, x], argTypes := #[ts, ts] }) {base k : Nat} {l : List α} {v : Value} (hs : a.eval s = v) (hB : Bd S base t n P (l.take k) v w)
  {g c:Nat} (hx:a.eval x=.slice (some ⟨g,0,none⟩) 1 c) (cs:List Value) (hk:Bk w g t cs.toArray) (hkl:k<l.length) (hP:P (fun q=>S q/\some q≠v.ownBlock) l[k] cs w) (hl:l.length<=1000000000000) (hb:base<=w.heap.size)
  (hK:∀A' c' w',Bd S base t n P (l.take (k+1)) (.slice A' (k+1) c') w'->Fr base w w'->w.grownBy w' v.ownBlock->wpList Try.prog ops Q rest (a.put op.dst (.slice A' (k+1) c')) w'):wpList Try.prog ops Q (op::rest) a w:=by
 have hlk:(l.take k).length=k:=by rw[List.length_take];omega
 refine wpList_plain hg fun _ hK'=>Gh h s x hop hs hB hx cs hk l[k] hP (by omega) hb fun A' c' w' h1 h2 h3=>?_
 rw[hlk]at h1⊢;rw[show l.take k++[l[k]]=l.take (k+1) by simp]at h1;exact hK' _ _ (hK A' c' w' h1 h2 h3)
end
def Nd (d:Nat) (S:Nat->Prop) (ts:List T) (v:Value) (w:World):Prop:=∃(A:Option Addr) (c:Nat) (ns:List au),v=.slice A ns.length c/\I8 w S A (ns.flatMap au.cells)/\(∀y∈ns,okS S d y w)/\ns.map (bz d)=ts/\ns.length<=1048576
def Rt (n:Nat) (V:Value->World->Prop) (w:World) (e:Ending) (w':World):Prop:=∃A c,e=.returned (.slice A n c)/\V (.slice A n c) w'/\Below w.heap.size w w'
theorem Nd.keep {d:Nat} {S S':Nat->Prop} {ts:List T} {v:Value} {w w':World} (h:Nd d S ts v w) (hk:fE S S' w w'):Nd d S' ts v w':=by
 obtain⟨A,c,ns,h1,h2,h3,h4⟩:=h;exact⟨A,c,ns,h1,h2.keep hk,fun y hy=>(h3 y hy).keep hk,h4⟩
theorem Nd.one {d:Nat} {S:Nat->Prop} {ts:List T} {v:Value} {w:World} (h:Nd d S ts v w):v.oneCell'=true:=by
 obtain⟨A,c,ns,rfl,_⟩:=h;rfl
theorem Nd.form {d:Nat} {S:Nat->Prop} {ts:List T} {v:Value} {w:World} (h:Nd d S ts v w):∃A c,v=.slice A ts.length c:=by
 obtain⟨A,c,ns,rfl,_,_,rfl,_⟩:=h;exact⟨A,c,by rw[List.length_map]⟩
theorem Sl.form {α:Type} {P:(Nat->Prop)->α->List Value->World->Prop} {S:Nat->Prop} {xs:List α} {v:Value} {w:World} (h:Sl P S xs v w):∃A c,v=.slice A xs.length c:=by
 obtain⟨A,c,rfl,_⟩:=h;exact⟨A,c,rfl⟩
class Old (V:Value->World->Prop):Prop where
 old:∀{v:Value} {w w':World},Below w.heap.size w w'->V v w->V v w'
instance (d:Nat) (S:Nat->Prop) (ts:List T):Old (Nd d S ts) where
 old:=fun hb h=>h.keep (.old hb)
instance {α:Type} {n:Nat} (P:(Nat->Prop)->α->List Value->World->Prop) [CK n P] (S:Nat->Prop) (xs:List α):Old (Sl P S xs) where
 old:=fun hb h=>h.keep (.old hb)
instance {α:Type} (S:Nat->Prop) (base t n:Nat) (P:(Nat->Prop)->α->List Value->World->Prop) [CK n P] (xs:List α):Old (Bd S base t n P xs) where
 old:=fun hb h=>h.old hb
def zo (n:Nat) (V:Value->World->Prop) (f:Option Addr->Nat->Value) (v:Value) (w:World):Prop:=∃A c,v=f A c/\V (.slice A n c) w
def ExB (t n:Nat) (V:Value->World->Prop) (f:Option Addr->Nat->Array Value) (v:Value) (w:World):Prop:=∃g A c,v=.slice (some ⟨g,0,none⟩) 1 1/\Bk w g t (f A c)/\V (.slice A n c) w
instance (n:Nat) (V:Value->World->Prop) [Old V] (f:Option Addr->Nat->Value):Old (zo n V f) where
 old:=fun hb ⟨A,c,h1,h2⟩=>⟨A,c,h1,Old.old hb h2⟩
instance (t n:Nat) (V:Value->World->Prop) [Old V] (f:Option Addr->Nat->Array Value):Old (ExB t n V f) where
 old:=fun hb ⟨g,A,c,h1,h2,h3⟩=>⟨g,A,c,h1,h2.old hb,Old.old hb h3⟩
abbrev sS (V:Value->World->Prop) [Old V]:Spec:=.st V fun _ _ _ hb h=>Old.old hb h
theorem Eh {w : World} {op : Oper} {a : Act} {K : Act → World → Prop} {Q : Exit → Act → World → Prop} {ts t n by' : Nat} (h : I9 ts t n by') (x : Operand) (hop : op.op = .buildSlice ts 1 #[(0, x)]) (cs : List Value) (hx : a.eval x = .agg cs.toArray) (hn : cs.length = n)
  (hK:K (a.put op.dst (.slice (some ⟨w.heap.size,0,none⟩) 1 1)) (w.alloc (.cells cs.toArray t))):op.wp Try.prog a w K Q:=by
 unfold Oper.wp execOp;simp only[hop,List.map_toArray,List.map_cons,List.map_nil,hx,Sem.run_bind,U6 h cs hn,Result.andThen_ok,Sem.run_pure];exact hK
theorem iE {w : World} {ops : Array Oper} {rest : List Oper} {op : Oper} {a : Act} {Q : Exit → Act → World → Prop} {ts t n by' : Nat} (h : I9 ts t n by') (hg : op.guard = none) (x : Operand) (hop : op.op = .buildSlice ts 1 #[(0, x)]) (cs : List Value) (hx : a.eval x = .agg cs.toArray) (hn : cs.length = n)
  (hK:wpList Try.prog ops Q rest (a.put op.dst (.slice (some ⟨w.heap.size,0,none⟩) 1 1)) (w.alloc (.cells cs.toArray t))):wpList Try.prog ops Q (op::rest) a w:=wpList_plain hg fun _ hK'=>Eh h x hop cs hx hn (hK' _ _ hK)
def jV (S:Nat->Prop) (k:Int) (cs:List Value) (w:World):Prop:=cs=[.int .i64 k]
instance:CK 1 jV where
 pos:=by decide
 keep:=fun _ h=>h
 len:=fun h=>by rw[h];rfl
 one:=fun h=>by rw[h];rfl
theorem PY:XX 22 3 1 8:=⟨Try.underlying22,⟨.int .i64 0,by kernel_rfl,rfl⟩,by decide⟩
theorem Sl.ri {S:Nat->Prop} {xs:List Int} {v:Value} {w:World} (h:Sl jV S xs v w):Uo jV (fun _=>False) xs v w:=by
 obtain⟨A,c,h1,_,ps,h2,h3,h4⟩:=h;exact⟨A,c,h1,ps,h2,h3.rd,h4⟩
theorem zq {w : World} {op : Oper} {a : Act} {K : Act → World → Prop} {Q : Exit → Act → World → Prop} {S : Nat → Prop} {xs : List Int} {v : Value} (x : Operand) (hop : op.op = .call { callee := .builtin .append, args := #[.const (.slice none 0 0), x], argTypes := #[22, 22] }) (hx : a.eval x = v) (h : Sl jV S xs v w)
  (hK:∀A c w',Bd (fun q=>w.heap.size<=q) w.heap.size 3 1 jV xs (.slice A xs.length c) w'->Below w.heap.size w w'->K (a.put op.dst (.slice A xs.length c)) w'):op.wp Try.prog a w K Q:=by
 have hl:xs.length<=1000000000000:=by
  obtain⟨_,_,_,h1,_⟩:=h;exact h1
 refine LW (S:=fun q=>w.heap.size<=q) (base:=w.heap.size) PY _ x hop rfl (Bd.nil zL) hx h.ri (fun b h=>h.elim) (by simpa using hl) zL fun A c w' h1 h2 h3=>?_
 simp only[List.length_nil,Nat.zero_add,List.nil_append]at h1⊢;exact hK A c w' h1 (h2 _ _ zL zL zR)
theorem Bd.NH {base B:Nat} {xs:List Int} {v:Value} {w:World} {S S':Nat->Prop} (h:Bd S B 3 1 jV xs v w) (hB:base<=B):Bd S' base 3 1 jV xs v w:=by
 obtain⟨ps,h1,h2,h3⟩:=h;exact⟨ps,h1,di h2 hB,h3⟩
theorem fE.jC {S:Nat->Prop} {w w':World} {g t:Nat} {cs:Array Value} (p:lH w g t cs w') (hS:∀b,S b->b≠g):fE S S w w':=fun b hb hlt=>⟨hb,by rw[p.size];exact hlt,p.other b (hS b hb)⟩
theorem Sl.le {α:Type} {P:(Nat->Prop)->α->List Value->World->Prop} {S:Nat->Prop} {xs:List α} {v:Value} {w:World} (h:Sl P S xs v w):xs.length<=1000000000000:=by
 obtain⟨A,c,_,h1,_⟩:=h;exact h1
end Go.Proofs.Ytbjnhllkdilpfaa
