/- Part 1 of the proof. No conditions. -/
import Derived.WalkKit
import Derived.WalkLawsBesides
import Derived.BigQuiet
import Derived.Lib.Hide
import Derived.Deep.AppendLies
import Derived.Deep.OwnRows
import Derived.Maps.AppendAt
import Derived.Laws.AppendOwnNone
import Derived.Laws.FloatArith
import Derived.Shelf.Bits.Mul64
import Derived.Deep.Slices
import Derived.Orders
import Derived.Deep.DeepCutAuto
import Derived.Maps.RangeWalk
import Derived.Lib.ItoaNum
import Derived.WalkSpells
import Derived.IntWalk
import Derived.Lib.AppendIntMem
import Derived.Lib.ConvBytes
import Derived.Lib.Strings
import Derived.Deep.CutBlock
import Derived.Deep.LoopGhost
import Derived.Deep.RegionHeld3
import Derived.Maps.OwnOps
import Derived.Defers
import Derived.Recover
import Derived.Tactics2
import Derived.Laws.Pointers
import Derived.Deep.QuietTactic
import Derived.ProofKit
import Derived.OpenShut
import Derived.SizedLaws
import Derived.Deep.CondSized
import Derived.Test.YtbjnhllkdilpfaaRows
namespace Go.Proofs.Ytbjnhllkdilpfaa
open Go.RowKit
set_option maxRecDepth 100000
set_option maxHeartbeats 16000000
set_option linter.unusedVariables false
set_option linter.unusedSimpArgs false
theorem zR {B:Nat} {w:World}:Below B w w:=Below.refl _ _
theorem zL {n:Nat}:n<=n:=Nat.le_refl _
theorem zB {α:Type} [BEq α] [LawfulBEq α] {a b:α} (h:a≠b):(a==b)=false:=beq_eq_false_iff_ne.2 h
theorem zH {p:Prop} (h:p):Hid p:=h
theorem zE {w w':World} {b o:Nat} {v:Value} (hb:Below w.heap.size w w') (h:w.cell? ⟨b,o,none⟩=some v):w'.cell? ⟨b,o,none⟩=some v:=(hb.cell (p:=⟨b,o,none⟩) (World.block_lt_of_cell? _ _ h)).trans h
theorem lS {a b:Bool} (h:a=b):Ending.returned (.bool a)=.returned (.bool b):=by rw[h]
theorem fF {k:IntKind} {a b:Int} (h:a=b):Ending.returned (.int k a)=.returned (.int k b):=by rw[h]
theorem zl {k:IntKind} {a b:Int} (h:a=b):Value.int k a=.int k b:=by rw[h]
def Rd (w:World) (B:Nat) (A:Option Addr) (cs:List Value):Prop:=
 cs=[]\/∃b o,A=some ⟨b,o,none⟩/\b<B/\∀(j:Nat) (u:Value),cs[j]? =some u->w.cell? ⟨b,o+j,none⟩=some u
section
variable {w w':World} {B B':Nat} {A:Option Addr} {cs:List Value}
theorem Rd.nil:Rd w B A []:=.inl rfl
theorem Rd.keep (h:Rd w B A cs) (hk:∀b o,b<B->w'.cell? ⟨b,o,none⟩=w.cell? ⟨b,o,none⟩):Rd w' B A cs:=by
 rcases h with h|⟨b,o,hA,hb,hc⟩
 ·exact .inl h
 ·exact .inr ⟨b,o,hA,hb,fun j u hu=>(hk b _ hb).trans (hc j u hu)⟩
theorem Rd.more (h:Rd w B A cs) (hB:B<=B'):Rd w B' A cs:=by
 rcases h with h|⟨b,o,hA,hb,hc⟩
 ·exact .inl h
 ·exact .inr ⟨b,o,hA,Nat.lt_of_lt_of_le hb hB,hc⟩
theorem Rd.below (h:Rd w B A cs) (hb:Below B w w'):Rd w' B A cs:=h.keep fun b o hlt=>hb.cell (p:=⟨b,o,none⟩) hlt
theorem Rd.at_ (h:Rd w B A cs) {j:Nat} (hj:j<cs.length):∃b o,A=some ⟨b,o,none⟩/\b<B/\∀(j:Nat) (u:Value),cs[j]? =some u->w.cell? ⟨b,o+j,none⟩=some u:=by
 rcases h with h|h
 ·subst h;simp at hj
 ·exact h
end
theorem aT {B:Nat} {w w':World} (hb:Below B w w'):∀b o,b<B->w'.cell? ⟨b,o,none⟩=w.cell? ⟨b,o,none⟩:=fun b o h=>hb.cell (p:=⟨b,o,none⟩) h
theorem UY {α β:Type} {n:Nat} (f:α->List β) (hf:∀a,(f a).length=n) (l:List α) (k j:Nat) (hk:k<l.length) (hj:j<n):(l.flatMap f)[k*n+j]? =(f l[k])[j]? :=by
 induction l generalizing k with
 |nil=>simp at hk
 |cons x l ih=>
  rw[List.flatMap_cons];cases k with
  |zero=>simp[List.getElem?_append,hf,hj]
  |succ k=>
   have e:(k+1)*n=k*n+n:=Nat.succ_mul k n;rw[List.getElem?_append_right (by rw[hf];omega),hf,show(k+1)*n+j-n=k*n+j by omega]
   simpa using ih k (by simpa using hk)
theorem FH {α β:Type} {n:Nat} (f:α->List β) (hf:∀a,(f a).length=n) (l:List α):(l.flatMap f).length=l.length*n:=by
 induction l with
 |nil=>simp
 |cons x l ih=>rw[List.flatMap_cons,List.length_append,hf,ih,List.length_cons,Nat.succ_mul];omega
theorem Rd.elem {α : Type} {w : World} {B : Nat} {A : Option Addr} {n : Nat} {f : α → List Value} (hf : ∀ a, (f a).length = n) (hn : 0 < n) {l : List α} (h : Rd w B A (l.flatMap f)) {k : Nat} (hk : k < l.length) :
  ∃b o,A=some ⟨b,o,none⟩/\b<B/\∀(j:Nat) (u:Value),(f l[k])[j]? =some u->w.cell? ⟨b,o+k*n+j,none⟩=some u:=by
 have hle:k*n+n<=l.length*n:=by have:=Nat.mul_le_mul_right n (show k+1<=l.length by omega);rw[Nat.succ_mul]at this;exact this
 obtain⟨b,o,hA,hb,hc⟩:=h.at_ (j:=k*n) (by rw[FH f hf];omega);refine⟨b,o,hA,hb,fun j u hu=>?_⟩;have hj:j<n:=by have:=(List.getElem?_eq_some_iff.1 hu).1;rw[hf]at this;exact this
 rw[Nat.add_assoc];exact hc _ u (by rw[UY f hf l k j hk hj];exact hu)
theorem Rd.Ls {α : Type} {w : World} {B : Nat} {A : Option Addr} {f : α → Value} {l : List α} (h : Rd w B A (l.map f)) {k : Nat} (hk : k < l.length) :
  ∃b o,A=some ⟨b,o,none⟩/\b<B/\w.cell? ⟨b,o+k,none⟩=some (f l[k]):=by
 obtain⟨b,o,hA,hb,hc⟩:=h.at_ (j:=k) (by simpa using hk);exact⟨b,o,hA,hb,hc k _ (by simp[hk])⟩
def Bk (w:World) (g:Nat) (t:TypeId) (cs:Array Value):Prop:=w.heap[g]? =some (.cells cs t (0,0))
section
variable {w w':World} {g:Nat} {t:TypeId} {cs:Array Value}
theorem Bk.lt (h:Bk w g t cs):g<w.heap.size:=by
 rcases Nat.lt_or_ge g w.heap.size with hlt|hge
 ·exact hlt
 ·unfold Bk at h;rw[Array.getElem?_eq_none hge]at h;cases h
theorem Bk.cell (h:Bk w g t cs) (i:Nat):w.cell? ⟨g,i,none⟩=cs[i]? :=by
 unfold Bk at h;simp[World.cell?,h]
theorem Bk.frozen (h:Bk w g t cs) (i:Nat):w.frozen? ⟨g,i,none⟩=false:=by
 unfold Bk at h;simp[World.frozen?,h]
theorem Bk.new (w:World) (t:TypeId) (cs:Array Value):Bk (w.alloc (.cells cs t)) w.heap.size t cs:=heap_alloc_new w _
theorem Bk.newAt {w:World} {g:Nat} (hg:g=w.heap.size) (t:TypeId) (cs:Array Value):Bk (w.alloc (.cells cs t)) g t cs:=by subst hg;exact Bk.new w t cs
theorem Bk.drew (h:Bk w g t cs):Bk w.drew g t cs:=h
theorem Bk.alloc (h:Bk w g t cs) (o:Obj):Bk (w.alloc o) g t cs:=(Below.heap_alloc w o g h.lt).trans h
theorem Bk.put (h:Bk w g t cs) (i:Nat) (u:Value):Bk (w.setCell ⟨g,i,none⟩ u) g t (cs.setIfInBounds i u):=by
 unfold Bk at h⊢;simp[World.setCell,Array.getElem?_modify,h]
theorem Bk.far (h:Bk w g t cs) {p:Addr} (hp:g≠p.block) (u:Value):Bk (w.setCell p u) g t cs:=(Below.heap_setCell w p u g hp).trans h
theorem Bk.below {B:Nat} (h:Bk w g t cs) (hb:Below B w w') (hg:g<B):Bk w' g t cs:=(hb.block g hg).trans h
theorem Bk.grown {row:Option Nat} (h:Bk w g t cs) (hb:w.grownBy w' row) (hg:some g≠row):Bk w' g t cs:=(hb.block g h.lt hg).trans h
end
section
variable {w w':World} {base e size n g t:Nat} {v:Value} {xs:List Value} {cs:Array Value}
theorem bg (h:w.ownsRow base e size v n xs):∃A c,v=.slice A n c/\n<=c:=by
 rcases h.2 with⟨rfl,rfl⟩|⟨g,cap,cur,rfl,_,_,hn,_⟩
 ·exact⟨_,_,rfl,Nat.le_refl _⟩
 ·exact⟨_,_,rfl,hn⟩
theorem aO (h:w.ownsRow base e size v n xs) (hg:Bk w g t cs) (hne:e≠t):some g≠v.ownBlock:=by
 rcases h.2 with⟨rfl,_⟩|⟨g',cap,cur,rfl,_,hh,_⟩
 ·simp[Value.ownBlock]
 ·intro he;have:g=g':=by simpa[Value.ownBlock]using he
  subst this;unfold Bk at hg;rw[hh]at hg;injection hg with hg
  injection hg with _ ht
  exact hne ht
theorem own_ne (h:w.ownsRow base e size v n xs) {base' e' size' n':Nat} {v':Value} {xs':List Value} (h':w.ownsRow base' e' size' v' n' xs') (hne:e≠e'):v.ownBlock=none\/v.ownBlock≠v'.ownBlock:=by
 rcases h.2 with⟨rfl,_⟩|⟨g,cap,cur,rfl,_,hh,_⟩
 ·exact .inl rfl
 ·exact .inr (aO h' (show Bk w g e cur from hh) (Ne.symm hne))
theorem dN (h:w.ownsRow base e size v n xs) {base' e' size' n':Nat} {v':Value} {xs':List Value} (h':w.ownsRow base' e' size' v' n' xs') (hne:e≠e') (hg:w.grownBy w' v'.ownBlock):w'.ownsRow base e size v n xs:=
 h.kept hg (own_ne h h' hne)
theorem ve (h:w.ownsRow base e size v n xs) (hg:Bk w g t cs) (hne:e≠t) (i:Nat) (u:Value):(w.setCell ⟨g,i,none⟩ u).ownsRow base e size v n xs:=
 ownsRow_setCell_other h (fun e'=>aO h hg hne e'.symm) u
theorem own_below {B:Nat} (h:w.ownsRow base e size v n xs) (hb:Below B w w') (hlt:∀k,v.ownBlock=some k->k<B):w'.ownsRow base e size v n xs:=by
 refine⟨h.1,?_⟩;rcases h.2 with h0|⟨g,cap,cur,hv,hb0,hh,hr⟩
 ·exact .inl h0
 ·exact .inr ⟨g,cap,cur,hv,hb0,(hb.block g (hlt g (by rw[hv];rfl))).trans hh,hr⟩
theorem dG {A:Option Addr} {c:Nat} (h:w.ownsRow base e size (.slice A n c) n xs):Rd w w.heap.size A xs:=by
 rcases h.2 with⟨h0,hn⟩|⟨g,cap,cur,hv,hb,hh,_⟩
 ·subst hn;exact .inl (List.eq_nil_of_length_eq_zero (by simpa using h.1))
 ·have hA:A=some ⟨g,0,none⟩:=by injection hv
  subst hA;refine .inr ⟨g,0,rfl,(show Bk w g e cur from hh).lt,fun j u hu=>?_⟩;have:=h.cells (g:=g) rfl j u hu;unfold Addr.add at this
  by_cases hj:j=0
  ·subst hj;simpa using this
  ·rw[if_neg hj]at this;exact this
theorem dY {B:Nat} {a:World} (hb:Below B a w) (h:w.ownsRow base e size v n xs) (hB:B<=base) (hg:w.grownBy w' v.ownBlock) (hs:B<=w.heap.size):Below B a w':=
 hb.grown hg hs fun k hk=>Nat.le_trans hB (h.lt k hk).1
theorem di {B:Nat} (h:w.ownsRow base e size v n xs) (hB:B<=base):w.ownsRow B e size v n xs:=by
 refine⟨h.1,?_⟩;rcases h.2 with h0|⟨g,cap,cur,hv,hb0,hr⟩
 ·exact .inl h0
 ·exact .inr ⟨g,cap,cur,hv,Nat.le_trans hB hb0,hr⟩
theorem aQ (h:w.ownsRow base e size v n xs) (hb:Below w.heap.size w w'):w'.ownsRow base e size v n xs:=own_below h hb fun k hk=>(h.lt k hk).2
theorem Bk.old (h:Bk w g t cs) (hb:Below w.heap.size w w'):Bk w' g t cs:=h.below hb h.lt
theorem Rd.lit {w:World} {g:Nat} (hg:g=w.heap.size) (cs:Array Value) (t:TypeId):Rd (w.alloc (.cells cs t)) (g+1) (some ⟨g,0,none⟩) cs.toList:=by
 refine .inr ⟨g,0,rfl,by omega,fun j u hu=>?_⟩;rw[Nat.zero_add,(Bk.newAt hg t cs).cell j]
 simpa using hu
end
theorem Cb {P : Program} (w : World) (base : Nat) (t ty e : TypeId) (i : TypeInfo) (z : Value) (size bytes : Nat) (ht : P.underlying t = some (.slice e)) (hi : P.info? e = some i) (hz : i.zero = some z)
  (hsize:i.size=size) (hby:i.bytes=bytes) (hzs:z.cells.size=size) (hsz:0<size)
  (v:Value) (n:Nat) (xs:List Value) (hown:w.ownsRow base e size v n xs)
  (B:Nat) (A:Option Addr) (m c:Nat) (news:List Value) (hr:Rd w B A news) (hl:news.length=m*size) (h1:∀u∈news,u.oneCell'=true)
  (h63:n+m<=maxLen) (hbytes:(n+m)*bytes<=140737488355328) (hbase:base<=w.heap.size):
  ∃v' w',(Builtin.append_ #[t,t] ty #[v,.slice A m c]).run P w=.ok v' w'/\w'.ownsRow base e size v' (n+m) (xs++news)/\w.grownBy w' v.ownBlock/\
   (v'.ownBlock=v.ownBlock\/v'.ownBlock=some w.heap.size):=by
 have small:m=0->news=[]:=fun h0=>List.eq_nil_of_length_eq_zero (by rw[hl,h0,Nat.zero_mul])
 rcases A with _|ad
 ·have hm:m=0:=by
   rcases hr with h|⟨_,_,h,_⟩
   ·rw[h]at hl;rcases Nat.eq_zero_or_pos m with h0|h0
    ·exact h0
    ·have:=Nat.mul_pos h0 hsz;simp at hl;omega
   ·cases h
  subst hm;have hn:=small rfl;subst hn;refine⟨v,w,?_,by simpa using hown,World.grownBy.refl w _,.inl rfl⟩;rcases hown.2 with⟨rfl,rfl⟩|⟨g,cap,cur,rfl,_,_,hnc,_⟩
  ·simp[Builtin.append_,run_underlying ht,sizeOf,typeInfo,hi,Builtin.lenOf,Builtin.firstCells]
  ·simp[Builtin.append_,run_underlying ht,sizeOf,typeInfo,hi,Builtin.lenOf,Builtin.firstCells,hnc,storeCells]
 ·have hcells:∀j u,news[j]? =some u->w.cell? (ad.add j)=some u:=by
   intro j u hu;rcases hr with h|⟨b,o,h,hb,hc⟩
   ·rw[h]at hu;simp at hu
   ·obtain rfl:ad=⟨b,o,none⟩:=by injection h
    have e:((⟨b,o,none⟩:Addr).add j)=⟨b,o+j,none⟩:=by unfold Addr.add;by_cases hj:j=0<;>simp[hj]
    rw[e];exact hc j u hu
  obtain⟨v',w',hrun,h2,h3,_,h5⟩:=run_append_own_at (P:=P) w base t ty e i z size bytes ht hi hz hsize hby hzs hsz v n xs hown ad m c news hl hcells h1 h63 hbytes hbase;exact⟨v',w',hrun,h2,h3,h5⟩
theorem dJ {P : Program} {w : World} {o : Oper} {a : Act} {K : Act → World → Prop} {Q : Exit → Act → World → Prop} (s x : Operand) (t : TypeId)
  (ho:o.op=.call {callee:=.builtin .append,args:=#[s,x],argTypes:=#[t,t]})
  (base:Nat) (e:TypeId) (i:TypeInfo) (z:Value) (size bytes:Nat) (ht:P.underlying t=some (.slice e)) (hi:P.info? e=some i) (hz:i.zero=some z)
  (hsize:i.size=size) (hby:i.bytes=bytes) (hzs:z.cells.size=size) (hsz:0<size)
  (v:Value) (n:Nat) (xs:List Value) (hs:a.eval s=v) (hown:w.ownsRow base e size v n xs)
  (B:Nat) (A:Option Addr) (m c:Nat) (news:List Value) (hx:a.eval x=.slice A m c) (hr:Rd w B A news) (hl:news.length=m*size) (h1:∀u∈news,u.oneCell'=true)
  (h63:n+m<=maxLen) (hbytes:(n+m)*bytes<=140737488355328) (hbase:base<=w.heap.size)
  (h:∀A' c' w',w'.ownsRow base e size (.slice A' (n+m) c') (n+m) (xs++news)->w.grownBy w' v.ownBlock->((Value.slice A' (n+m) c').ownBlock=v.ownBlock\/(Value.slice A' (n+m) c').ownBlock=some w.heap.size)->K (a.put o.dst (.slice A' (n+m) c')) w'):o.wp P a w K Q:=by
 obtain⟨v',w',hrun,h2,h3,h4⟩:=Cb (P:=P) w base t o.type e i z size bytes ht hi hz hsize hby hzs hsz v n xs hown B A m c news hr hl h1 h63 hbytes hbase;unfold Oper.wp execOp;simp only[ho,resolve,invoke,builtin,Sem.run_bind,Sem.run_pure,Result.andThen_ok,List.map_toArray,List.map_cons,List.map_nil,hs,hx,hrun];obtain⟨A',c',rfl,_⟩:=bg h2;exact h A' c' w' h2 h3 h4
theorem aH {P : Program} {w : World} {ops : Array Oper} {rest : List Oper} {o : Oper} {a : Act} {Q : Exit → Act → World → Prop} (hgd : o.guard = none) (s x : Operand) (t : TypeId)
  (ho:o.op=.call {callee:=.builtin .append,args:=#[s,x],argTypes:=#[t,t]})
  (base:Nat) (e:TypeId) (i:TypeInfo) (z:Value) (size bytes:Nat) (ht:P.underlying t=some (.slice e)) (hi:P.info? e=some i) (hz:i.zero=some z)
  (hsize:i.size=size) (hby:i.bytes=bytes) (hzs:z.cells.size=size) (hsz:0<size)
  (v:Value) (n:Nat) (xs:List Value) (hs:a.eval s=v) (hown:w.ownsRow base e size v n xs)
  (B:Nat) (A:Option Addr) (m c:Nat) (news:List Value) (hx:a.eval x=.slice A m c) (hr:Rd w B A news) (hl:news.length=m*size) (h1:∀u∈news,u.oneCell'=true)
  (h63:n+m<=maxLen) (hbytes:(n+m)*bytes<=140737488355328) (hbase:base<=w.heap.size)
  (h:∀A' c' w',w'.ownsRow base e size (.slice A' (n+m) c') (n+m) (xs++news)->w.grownBy w' v.ownBlock->((Value.slice A' (n+m) c').ownBlock=v.ownBlock\/(Value.slice A' (n+m) c').ownBlock=some w.heap.size)->wpList P ops Q rest (a.put o.dst (.slice A' (n+m) c')) w'):wpList P ops Q (o::rest) a w:=
 wpList_plain hgd fun _ hK=>dJ s x t ho base e i z size bytes ht hi hz hsize hby hzs hsz v n xs hs hown B A m c news hx hr hl h1 h63 hbytes hbase fun A' c' w' h2 h3 h4=>hK _ _ (h A' c' w' h2 h3 h4)
theorem PD {W wX w3:World} {R:Prop} (h:Below W.heap.size W wX/\R) (hb:Below wX.heap.size wX w3):Below W.heap.size W w3:=h.1.trans (hb.mono h.1.size)
theorem Rd.bk {w:World} {g t B:Nat} {cs:Array Value} (h:Bk w g t cs) (hB:g<B):Rd w B (some ⟨g,0,none⟩) cs.toList:=by
 refine .inr ⟨g,0,rfl,hB,fun j u hu=>?_⟩;rw[Nat.zero_add,h.cell j]
 simpa using hu
theorem zc3 {w:World} {g:Nat} {t:TypeId} {cs:Array Value} (h:Bk w g t cs):w.cell? ⟨g,0,none⟩=cs[0]?/\w.cell? ⟨g,1,none⟩=cs[1]?/\w.cell? ⟨g,2,none⟩=cs[2]?:=⟨h.cell 0,h.cell 1,h.cell 2⟩
theorem zc4 {w:World} {g:Nat} {t:TypeId} {cs:Array Value} (h:Bk w g t cs):w.cell? ⟨g,0,none⟩=cs[0]?/\w.cell? ⟨g,1,none⟩=cs[1]?/\w.cell? ⟨g,2,none⟩=cs[2]?/\w.cell? ⟨g,3,none⟩=cs[3]?:=⟨h.cell 0,h.cell 1,h.cell 2,h.cell 3⟩
theorem zc5 {w:World} {g:Nat} {t:TypeId} {cs:Array Value} (h:Bk w g t cs):w.cell? ⟨g,0,none⟩=cs[0]?/\w.cell? ⟨g,1,none⟩=cs[1]?/\w.cell? ⟨g,2,none⟩=cs[2]?/\w.cell? ⟨g,3,none⟩=cs[3]?/\w.cell? ⟨g,4,none⟩=cs[4]?:=⟨h.cell 0,h.cell 1,h.cell 2,h.cell 3,h.cell 4⟩
theorem zc6 {w:World} {g:Nat} {t:TypeId} {cs:Array Value} (h:Bk w g t cs):w.cell? ⟨g,0,none⟩=cs[0]?/\w.cell? ⟨g,1,none⟩=cs[1]?/\w.cell? ⟨g,2,none⟩=cs[2]?/\w.cell? ⟨g,3,none⟩=cs[3]?/\w.cell? ⟨g,4,none⟩=cs[4]?/\w.cell? ⟨g,5,none⟩=cs[5]?:=⟨h.cell 0,h.cell 1,h.cell 2,h.cell 3,h.cell 4,h.cell 5⟩
theorem zc7 {w:World} {g:Nat} {t:TypeId} {cs:Array Value} (h:Bk w g t cs):w.cell? ⟨g,0,none⟩=cs[0]?/\w.cell? ⟨g,1,none⟩=cs[1]?/\w.cell? ⟨g,2,none⟩=cs[2]?/\w.cell? ⟨g,3,none⟩=cs[3]?/\w.cell? ⟨g,4,none⟩=cs[4]?/\w.cell? ⟨g,5,none⟩=cs[5]?/\w.cell? ⟨g,6,none⟩=cs[6]?:=⟨h.cell 0,h.cell 1,h.cell 2,h.cell 3,h.cell 4,h.cell 5,h.cell 6⟩
end Go.Proofs.Ytbjnhllkdilpfaa
namespace Go.Proofs.Ytbjnhllkdilpfaa
open Go.ChangeShapes Go.WideShapes Go.ChangeAt Go.RowKit
section
variable {H:Type} {enc:TypeId×Value->H} {P:Program}
theorem uw (hl : laidOutB P = true) {W W' : World} (hb : Below W.heap.size W W') {sp' : Nat → Bool} :
  ∀{ts:List TypeId} {vs:List Value} {ds:List (DataW H)} {ps:List MemPlace},(∀t∈ts,P.readableRec t=true/\t<P.types.size)->
   DataW.TrodAll enc P W 0 (fun _=>true) true ts vs ds ps->(∀x∈ps,x.block<W.heap.size)->(∀x∈ps,sp' x.block=true)->DataW.TrodAll enc P W' 0 sp' true ts vs ds ps
 |[],[],[],_,_,h,_,_=>h
 |t::ts,v::vs,d::ds,ps,hr,h,hlt,hs=>by
  obtain⟨p,q,h1,h2,rfl⟩:=h;refine⟨p,q,?_,?_,rfl⟩
  ·exact WideElems.Trod_stays hl (hr t (by simp)).1 (hr t (by simp)).2 h1 (fun x hx=>hb.same (hlt x (by simp[hx]))) (fun x hx=>hs x (by simp[hx]))
  ·exact uw hl hb (fun t ht=>hr t (by simp[ht])) h2 (fun x hx=>hlt x (by simp[hx])) (fun x hx=>hs x (by simp[hx]))
 |[],[],_::_,_,_,h,_,_=>h.elim
 |[],_::_,_,_,_,h,_,_=>h.elim
 |_::_,[],_,_,_,h,_,_=>h.elim
 |_::_,_::_,[],_,_,h,_,_=>h.elim
theorem I5 {f : Func} {s : ChangeSpec} {W W' : World} {args : Array Value} {ds gs : List (DataW H)} {before : List MemPlace} {tb : TypeId}
  (hl:laidOutB P=true) (hr:∀t∈f.params.toList,P.readableRec t=true/\t<P.types.size) (hrt:f.resultTypes=#[tb]) (htb:P.underlying tb=some .bool)
  (hvars:s.vars=[]) (h1:(s.fn H (ds++gs)).results=[.lit (.bool true)]) (h2:(s.fn H (ds++gs)).args=ds) (h3:(s.fn H (ds++gs)).vars=[])
  (hW:DataW.Whole enc P f.params.toList s.vars false W args.toList ds gs before) (hb:Below W.heap.size W W'):
  s.post enc P f false true false false W args (.bool true) W':=by
 have hlt:∀p∈before,p.block<W.heap.size:=fun p hp=>hW.lt p hp
 have hold:∀p∈before,(fun b=>decide (b<W.heap.size)) p.block=true:=fun p hp=>by simpa using hlt p hp
 have hres:∀(b:Nat) (sp:Nat->Bool) (hd:Bool),DataW.TrodAll enc P W' b sp hd f.resultTypes.toList ((Value.bool true).resultList f.resultTypes.size) (s.fn H (ds++gs)).results []:=by
  intro b sp hd;rw[h1,hrt];exact trodAll_mk1 (shut_bool htb true)
 have hW':=hW;obtain⟨p,q,hA,hV,rfl,_,_⟩:=hW';rw[hvars]at hV;obtain⟨rfl,rfl⟩:=trodVars_none hV;rw[List.append_nil]at hW hlt hold
 have hargs:∀sp:Nat->Bool,(∀x∈p,sp x.block=true)->DataW.TrodAll enc P W' 0 sp true f.params.toList args.toList (s.fn H (ds++[])).args p:=by
  intro sp hsp;rw[h2];exact uw hl hb hr hA hlt hsp
 have hvs:∀sp:Nat->Bool,DataW.TrodVars enc P W' sp s.vars (s.fn H (ds++[])).vars []:=by
  intro sp;rw[h3,hvars];exact rfl
 refine⟨ds,[],p,[],p,[],hW,hres _ _ _,hargs _ hold,hvs _,World.keptBut_mono (fun x hx=>⟨hx,Or.inr (Or.inl hx)⟩) (hb.frame (·∈p)),fun _=>?_⟩;obtain⟨_,_,_,_,_,hz,hn⟩:=hW;refine⟨ok_one hrt rfl (okWide_bool_mk htb true),_,_,([]++p)++[],⟨[]++p,[],trodAll_append (hargs _ (fun _ _=>rfl)) (hres _ _ _),hvs _,rfl,?_,?_⟩,?_⟩
 ·intro b off hp;have hin:MemPlace.cell b off∈p:=by simpa using hp
  rw[hb.frozen (hlt _ hin)];exact hz b off hin
 ·intro ha;cases ha
 ·intro x hx _
  simpa using hx
end
theorem zBp {H : Type} {enc : TypeId × Value → H} {C : Checked} {os : Os} {f : FuncId} {fn : Func} {s : ChangeSpec} {tb : TypeId}
  (own:ownKnob C.prog.godebug=none) (started:os.Started) (noInit:C.prog.inits.idxOf? f=none) (hfn:C.prog.funcs[f]? =some fn)
  (witness:∃(w:World) (tape:Tape) (i:Input),w.os=os/\(w.forCall tape i).Shaped C.prog/\i.vars=[]/\Input.okWide C.prog (w.forCall tape i) .any w.heap.size f i/\
   s.pre6 enc C.prog fn [] false (w.forCall tape i).memory i.args/\Assume.holds {} C.prog (lone (Frame.enter C.prog f i.args .normal) [] (w.forCall tape i)))
  (hl:laidOutB C.prog=true) (hr:∀t∈fn.params.toList,C.prog.readableRec t=true/\t<C.prog.types.size) (hrt:fn.resultTypes=#[tb]) (htb:C.prog.underlying tb=some .bool)
  (hvars:s.vars=[]) (hs:∀ds:List (DataW H),ds.length=fn.params.toList.length->(s.fn H ds).results=[.lit (.bool true)]/\(s.fn H ds).args=ds/\(s.fn H ds).vars=[])
  (walk:∀(W:World) (base:Nat) (args:Array Value) (ds:List (DataW H)) (p:List MemPlace),
   (∀(j:Nat) t v,fn.params[j]? =some t->args[j]? =some v->Value.okWide C.prog W .any base t v)->
   DataW.TrodAll enc C.prog W 0 (fun _=>true) true fn.params.toList args.toList ds p->
   (DataW.weightsEach C.prog fn.params.toList ds).all (·<=reachBytes)=true->
   Calls C.prog f args W fun e W'=>e=.returned (.bool true)/\Below W.heap.size W W'):
  ReturnsInHanded {} C os f .any (s.pre6 enc C.prog fn [] false) (s.post enc C.prog fn false true false false):=by
 refine returnsInHanded_of_change_sized own started noInit hfn witness ?_;intro W base args ds gs before hval hW _ hsz _;have hW':=hW;obtain⟨p,q,hA,hV,rfl,_,_⟩:=hW';have hvt:s.plain.varTypes C.prog=[]:=by simp[DataSpec.varTypes,ChangeSpec.plain,hvars]
 rw[hvars]at hV;obtain⟨rfl,rfl⟩:=trodVars_none hV;rw[hvt,List.append_nil,List.append_nil]at hsz
 have len:∀{ts:List TypeId} {vs:List Value} {ds:List (DataW H)} {ps:List MemPlace},DataW.TrodAll enc C.prog W 0 (fun _=>true) true ts vs ds ps->ds.length=ts.length:=by
  intro ts
  induction ts with
  |nil=>intro vs ds ps h;cases vs<;>cases ds<;>first|rfl|exact h.elim
  |cons t ts ih=>intro vs ds ps h;cases vs<;>cases ds<;>first|exact h.elim|(obtain⟨_,_,_,h2,_⟩:=h;simp[ih h2])
 obtain⟨h1,h2,h3⟩:=hs ds (len hA);refine(walk W base args ds p hval hA hsz).mono fun e W' ⟨he,hb⟩=>?_
 exact⟨_,he,I5 hl hr hrt htb hvars (by rw[List.append_nil];exact h1) (by rw[List.append_nil];exact h2) (by rw[List.append_nil];exact h3) hW hb⟩
end Go.Proofs.Ytbjnhllkdilpfaa
