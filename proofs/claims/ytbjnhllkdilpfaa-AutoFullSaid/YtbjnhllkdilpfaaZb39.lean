/- Part 39 of the proof. No conditions. -/
import Derived.Test.YtbjnhllkdilpfaaZb17
namespace Go.Proofs.Ytbjnhllkdilpfaa
open Go.RowKit
set_option linter.unusedSimpArgs false
set_option linter.unusedVariables false
structure bW where
 form:Nat
 type:Int
 g:Value
 c:Value
 gs:List ax
 cs:List ax
def bW.cells (x:bW):List Value:=[.int .i64 x.form,.int .i64 x.type,x.g,x.c]
structure fB where
 id:Nat
 window:Int
 parts:Value
 ps:List bW
def fB.cells (x:fB):List Value:=[.int .i64 x.id,.int .i64 x.window,x.parts]
theorem jR (x:bW):x.cells.length=4:=rfl
theorem oH (x:fB):x.cells.length=3:=rfl
structure oU where
 form:Nat
 type:Int
 gs:List T
 cs:List T
structure qj where
 id:Nat
 window:Int
 ps:List oU
def partT (d:Nat) (p:bW):oU:=⟨p.form,p.type,p.gs.map (bV d),p.cs.map (bV d)⟩
def lU (d:Nat) (b:fB):qj:=⟨b.id,b.window,b.ps.map (partT d)⟩
def o9 (p:bW):List (Value×List ax):=[(p.g,p.gs),(p.c,p.cs)]
def Le (b:fB):List (Value×List ax):=b.ps.flatMap o9
def dR (bs:List fB):List (Value×List ax):=bs.flatMap Le
def fU (bv:Value) (bs:List fB) (q:Nat):Prop:=some q≠bv.ownBlock/\(∀b∈bs,some q≠b.parts.ownBlock)/\∀z∈dR bs,some q≠z.1.ownBlock
structure jX (B d:Nat) (bv:Value) (bs:List fB) (W:World):Prop where
 dC:W.ownsRow B 28 3 bv bs.length (bs.flatMap fB.cells)
 prt:∀b∈bs,W.ownsRow B 31 4 b.parts b.ps.length (b.ps.flatMap bW.cells)
 wJ:bs.Pairwise fun x y=>x.parts.ownBlock=none\/x.parts.ownBlock≠y.parts.ownBlock
 Bo:∀x∈dR bs,W.ownsRow B 76 7 x.1 x.2.length (x.2.flatMap ax.cells)
 IK:(dR bs).Pairwise fun x y=>x.1.ownBlock=none\/x.1.ownBlock≠y.1.ownBlock
 kids:∀x∈dR bs,∀y∈x.2,okS (fun q=>B<=q/\fU bv bs q) d y W
section
variable {w w':World} {base e size n:Nat} {v:Value} {xs:List Value}
theorem lu (h:w.ownsRow base e size v n xs) {g:Nat} (hv:v.ownBlock=some g) (i:Nat) (hi:i<xs.length) (u:Value):(w.setCell ⟨g,i,none⟩ u).ownsRow base e size v n (xs.set i u):=by
 refine⟨by rw[List.length_set];exact h.1,?_⟩;rcases h.2 with⟨rfl,_⟩|⟨g',cap,cur,rfl,hb,hh,hn,hm,hs,ht⟩
 ·cases hv
 ·have hg:g'=g:=by simpa[Value.ownBlock]using hv
  subst hg;refine .inr ⟨g',cap,cur.setIfInBounds i u,rfl,hb,?_,hn,hm,by simpa using hs,?_⟩
  ·simp[World.setCell,Array.getElem?_modify,hh]
  ·rw[Array.toList_setIfInBounds,List.take_set,ht]
theorem jb (h:w.ownsRow base e size v n xs) {g:Nat} (hv:v.ownBlock=some g) (i:Nat):w.frozen? ⟨g,i,none⟩=false:=by
 rcases h.2 with⟨rfl,_⟩|⟨g',cap,cur,rfl,hb,hh,hn,hm,hs,ht⟩
 ·cases hv
 ·have hg:g'=g:=by simpa[Value.ownBlock]using hv
  subst hg;exact(show Bk w g' e cur from hh).frozen i
end
theorem ql {α:Type} (f:α->List Value) (k:Nat) (hf:∀x,(f x).length=k):∀(l1:List α) (a b:α) (l2:List α) (j:Nat) (u:Value),j<k->(f a).set j u=f b->((l1++a::l2).flatMap f).set (l1.length*k+j) u=(l1++b::l2).flatMap f
 |[],a,b,l2,j,u,hj,h=>by
  simp only[List.nil_append,List.flatMap_cons,List.length_nil,Nat.zero_mul,Nat.zero_add];rw[List.set_append_left _ _ (by rw[hf];exact hj),h]
 |x::l1,a,b,l2,j,u,hj,h=>by
  have ih:=ql f k hf l1 a b l2 j u hj h;simp only[List.cons_append,List.flatMap_cons,List.length_cons];rw[List.set_append_right _ _ (by rw[hf,Nat.succ_mul];omega),hf,<-ih]
  congr 2
  rw[Nat.succ_mul];omega
theorem nK {α β:Type} (f:α->List β) (k:Nat) (hf:∀x,(f x).length=k) (l:List α):(l.flatMap f).length=l.length*k:=by
 induction l with
 |nil=>simp
 |cons x l ih=>rw[List.flatMap_cons,List.length_append,hf,ih,List.length_cons,Nat.succ_mul];omega
theorem jX.old {B d:Nat} {bv:Value} {bs:List fB} {W W':World} (h:jX B d bv bs W) (hb:Below W.heap.size W W'):jX B d bv bs W':=
 ⟨aP h.dC hb,fun b hb'=>aP (h.prt b hb') hb,h.wJ,fun x hx=>aP (h.Bo x hx) hb,h.IK,fun x hx y hy=>(h.kids x hx y hy).keep fun q hq hlt=>⟨hq,Nat.lt_of_lt_of_le hlt hb.size,hb.block q hlt⟩⟩
theorem jX.mono {B B' d:Nat} {bv:Value} {bs:List fB} {W:World} (h:jX B d bv bs W) (hB:B'<=B):jX B' d bv bs W:=
 ⟨dF h.dC hB,fun b hb'=>dF (h.prt b hb') hB,h.wJ,fun x hx=>dF (h.Bo x hx) hB,h.IK,fun x hx y hy=>(h.kids x hx y hy).keep fun q hq hlt=>⟨⟨Nat.le_trans hB hq.1,hq.2⟩,hlt,rfl⟩⟩
theorem jX.grown {B d:Nat} {bv:Value} {bs:List fB} {W W':World} {b:Nat} (h:jX B d bv bs W) (hg:W.grownBy W' (some b)) (hb:b<B):jX B d bv bs W':=by
 have key:∀{e size n:Nat} {v:Value} {xs:List Value},W.ownsRow B e size v n xs->W'.ownsRow B e size v n xs:=fun {e size n v xs} hr=>hr.kept hg (by
  rcases hv:v.ownBlock with _|k
  ·exact .inl rfl
  ·exact .inr fun e=>by
    injection e with e
    have:=(hr.lt k hv).1
    omega)
 exact⟨key h.dC,fun b hb'=>key (h.prt b hb'),h.wJ,fun x hx=>key (h.Bo x hx),h.IK,fun x hx y hy=>(h.kids x hx y hy).keep fun q hq hlt=>⟨hq,Nat.lt_of_lt_of_le hlt hg.size,hg.block q hlt (fun e=>by injection e with e;omega)⟩⟩
theorem xw {b1 b2:List fB} {b:fB} {p1 p2:List bW} {p:bW} (hp:b.ps=p1++p::p2):dR (b1++b::b2)=(dR b1++p1.flatMap o9)++o9 p++(p2.flatMap o9++dR b2):=by
 unfold dR;rw[List.flatMap_append,List.flatMap_cons];unfold Le;rw[hp,List.flatMap_append,List.flatMap_cons];simp only[List.append_assoc]
structure Grew (B d Wn:Nat) (R1 R2:List (Value×List ax)) (v v':Value) (ns:List ax) (nd:ax) (W W1:World):Prop where
 own:W1.ownsRow B 76 7 v' (ns++[nd]).length ((ns++[nd]).flatMap ax.cells)
 grown:W.grownBy W1 v.ownBlock
 wh:v'.ownBlock=v.ownBlock\/v'.ownBlock=some W.heap.size
 ok:okS (fun q=>Wn<=q) d nd W
theorem OW {α:Type} {R:α->α->Prop} {l1 l2:List α} {a:α} (h:(l1++a::l2).Pairwise R):(∀x∈l1,R x a)/\∀x∈l2,R a x:=by
 rw[List.pairwise_append,List.pairwise_cons]at h;exact⟨fun x hx=>h.2.2 x hx a (by simp),h.2.1.1⟩
theorem OX {α:Type} {R:α->α->Prop} {l1 l2:List α} {a b:α} (h:(l1++a::l2).Pairwise R) (h1:∀x∈l1,R x b) (h2:∀x∈l2,R b x):(l1++b::l2).Pairwise R:=by
 rw[List.pairwise_append,List.pairwise_cons]at h⊢;refine⟨h.1,⟨h2,h.2.1.2⟩,fun x hx y hy=>?_⟩;rcases List.mem_cons.1 hy with rfl|hy
 ·exact h1 x hx
 ·exact h.2.2 x hx y (by simp[hy])
theorem jX.app {B d Wn : Nat} {bv : Value} {b1 b2 : List fB} {b : fB} {p1 p2 : List bW} {p p' : bW} {R1 R2 : List (Value × List ax)} {v v' : Value} {ns : List ax} {nd : ax} {W W1 : World} {gp j : Nat}
  (h:jX B d bv (b1++b::b2) W) (hps:b.ps=p1++p::p2) (yG:b.parts.ownBlock=some gp) (hj:j<4) (hcells:p.cells.set j v'=p'.cells) (hr:dR (b1++b::b2)=R1++(v,ns)::R2) (hr':dR (b1++{b with ps:=p1++p'::p2}::b2)=R1++(v',ns++[nd])::R2)
  (hB:B<=Wn) (hlo:∀q,¬fU bv (b1++b::b2) q->q<Wn) (hW:Wn<=W.heap.size) (hg:Grew B d Wn R1 R2 v v' ns nd W W1):
  jX B d bv (b1++{b with ps:=p1++p'::p2}::b2) (W1.setCell ⟨gp,p1.length*4+j,none⟩ v'):=by
 have hmid:(v,ns)∈dR (b1++b::b2):=by rw[hr];simp
 have hv:=h.Bo _ hmid;have hb:=h.prt b (by simp);have hpw:=OW h.wJ;have hnw:(∀x∈R1,_)/\_:=OW (hr▸h.IK)
 have old:∀x∈R1++R2,x∈dR (b1++b::b2):=fun x hx=>by
  rw[hr];rcases List.mem_append.1 hx with hx|hx<;>simp[hx]
 have far:∀{e size n:Nat} {u:Value} {xs:List Value},W1.ownsRow B e size u n xs->u.ownBlock≠some gp->(W1.setCell ⟨gp,p1.length*4+j,none⟩ v').ownsRow B e size u n xs:=fun hr hne=>ownsRow_setCell_other hr hne _
 have gpN:∀{u:Value} {n:Nat} {xs:List Value},W.ownsRow B 76 7 u n xs->u.ownBlock≠some gp:=fun {u n xs} hu e=>by
  rcases own_ne hu hb (by decide)with e0|e0
  ·rw[e]at e0;cases e0
  ·exact e0 (e.trans yG.symm)
 have hne1:v'.ownBlock≠some gp:=by
  rcases hg.wh with e|e
  ·rw[e];exact gpN hv
  ·rw[e];intro e';injection e' with e'
   have:=(hb.lt gp yG).2;omega
 have hbr1:(W1.setCell ⟨gp,p1.length*4+j,none⟩ v').ownsRow B 28 3 bv (b1++b::b2).length ((b1++b::b2).flatMap fB.cells):=far (dB h.dC hv (by decide) hg.grown) (fun e=>by
  rcases own_ne h.dC hb (by decide)with e0|e0
  ·rw[e]at e0;cases e0
  ·exact e0 (e.trans yG.symm))
 have WZ:∀x∈R1++R2,x.1.ownBlock=none\/x.1.ownBlock≠v.ownBlock:=by
  intro x hx;rcases List.mem_append.1 hx with hx|hx
  ·exact hnw.1 x hx
  ·rcases hnw.2 x hx with e|e
   ·by_cases h0:x.1.ownBlock=none
    ·exact .inl h0
    ·exact .inr fun e'=>h0 (e'.trans e)
   ·exact .inr (Ne.symm e)
 have rlt:∀x∈R1++R2,x.1.ownBlock≠some W.heap.size:=fun x hx e=>by
  have:=((h.Bo x (old x hx)).lt _ e).2;omega
 have Um:∀x∈R1++R2,x.1.ownBlock=none\/x.1.ownBlock≠v'.ownBlock:=fun x hx=>by
  rcases hg.wh with e|e
  ·rw[e];exact WZ x hx
  ·rw[e];exact .inr (rlt x hx)
 have OY:∀q,q<W.heap.size->fU bv (b1++b::b2) q->fU bv (b1++{b with ps:=p1++p'::p2}::b2) q:=by
  intro q hq hap;refine⟨hap.1,fun x hx=>?_,fun z hz=>?_⟩
  ·rcases List.mem_append.1 hx with hx|hx
   ·exact hap.2.1 x (by simp[hx])
   ·rcases List.mem_cons.1 hx with rfl|hx
    ·exact hap.2.1 b (by simp)
    ·exact hap.2.1 x (by simp[hx])
  ·rw[hr']at hz;rcases List.mem_append.1 hz with hz|hz
   ·exact hap.2.2 z (old z (by simp[hz]))
   ·rcases List.mem_cons.1 hz with rfl|hz
    ·rcases hg.wh with e|e
     ·show some q≠v'.ownBlock
      rw[e];exact hap.2.2 _ hmid
     ·show some q≠v'.ownBlock
      rw[e];intro e';injection e' with e';omega
    ·exact hap.2.2 z (old z (by simp[hz]))
 have Un:∀q,q<W.heap.size->some q≠v.ownBlock->q≠gp->q<(W1.setCell ⟨gp,p1.length*4+j,none⟩ v').heap.size/\(W1.setCell ⟨gp,p1.length*4+j,none⟩ v').heap[q]? =W.heap[q]? :=fun q h1 h2 h3=>
  ⟨by have:=hg.grown.size;simp;omega,(Below.heap_setCell W1 _ _ q (by show q≠gp;exact h3)).trans (hg.grown.block q h1 h2)⟩
 refine⟨?_,?_,?_,?_,?_,?_⟩
 ·have e1:(b1++{b with ps:=p1++p'::p2}::b2).length=(b1++b::b2).length:=by simp
  have e2:(b1++{b with ps:=p1++p'::p2}::b2).flatMap fB.cells=(b1++b::b2).flatMap fB.cells:=by simp[List.flatMap_append,fB.cells]
  rw[e1,e2];exact hbr1
 ·intro x hx;rcases List.mem_append.1 hx with hx|hx
  ·have hx0:=h.prt x (by simp[hx]);refine far (dB hx0 hv (by decide) hg.grown) fun e=>?_
   rcases hpw.1 x hx with e0|e0
   ·rw[e]at e0;cases e0
   ·exact e0 (e.trans yG.symm)
  ·rcases List.mem_cons.1 hx with rfl|hx
   ·have h0:=lu (dB hb hv (by decide) hg.grown) yG (p1.length*4+j) (by rw[nK _ _ jR,hps];simp;omega) v';have e1:(p1++p'::p2).length=b.ps.length:=by rw[hps];simp
    have e2:(p1++p'::p2).flatMap bW.cells=(b.ps.flatMap bW.cells).set (p1.length*4+j) v':=by
     rw[hps];exact(ql bW.cells 4 jR p1 p p' p2 j v' hj hcells).symm
    show(W1.setCell _ v').ownsRow B 31 4 b.parts (p1++p'::p2).length ((p1++p'::p2).flatMap bW.cells)
    rw[e1,e2];exact h0
   ·have hx0:=h.prt x (by simp[hx]);refine far (dB hx0 hv (by decide) hg.grown) fun e=>?_
    rcases hpw.2 x hx with e0|e0
    ·rw[yG]at e0;cases e0
    ·exact e0 (yG.trans e.symm)
 ·refine OX h.wJ (fun x hx=>hpw.1 x hx) (fun x hx=>hpw.2 x hx)
 ·intro x hx;rw[hr']at hx;rcases List.mem_append.1 hx with hx|hx
  ·exact far ((h.Bo x (old x (by simp[hx]))).kept hg.grown (WZ x (by simp[hx]))) (gpN (h.Bo x (old x (by simp[hx]))))
  ·rcases List.mem_cons.1 hx with rfl|hx
   ·exact far hg.own hne1
   ·exact far ((h.Bo x (old x (by simp[hx]))).kept hg.grown (WZ x (by simp[hx]))) (gpN (h.Bo x (old x (by simp[hx]))))
 ·rw[hr'];refine OX (hr▸h.IK) (fun x hx=>Um x (by simp[hx])) (fun x hx=>?_);rcases Um x (by simp[hx])with e|e
  ·by_cases h0:v'.ownBlock=none
   ·exact .inl h0
   ·exact .inr fun e'=>h0 (e'.trans e)
  ·exact .inr (Ne.symm e)
 ·intro x hx y hy
  have IL:∀z∈dR (b1++b::b2),y∈z.2->okS (fun q=>B<=q/\fU bv (b1++{b with ps:=p1++p'::p2}::b2) q) d y (W1.setCell ⟨gp,p1.length*4+j,none⟩ v'):=fun z hz hy=>by
   refine(h.kids z hz y hy).keep fun q hq hlt=>?_
   have hk:=Un q hlt (hq.2.2.2 _ hmid) (fun e=>hq.2.2.1 b (by simp) (by rw[yG,e]));exact⟨⟨hq.1,OY q hlt hq.2⟩,hk.1,hk.2⟩
  rw[hr']at hx;rcases List.mem_append.1 hx with hx|hx
  ·exact IL x (old x (by simp[hx])) hy
  ·rcases List.mem_cons.1 hx with rfl|hx
   ·rcases List.mem_append.1 hy with hy|hy
    ·exact IL (v,ns) hmid hy
    ·simp only[List.mem_cons,List.not_mem_nil,or_false]at hy;subst hy;refine hg.ok.keep fun q hq hlt=>?_
     have hap:fU bv (b1++b::b2) q:=Classical.byContradiction fun hn=>by have:=hlo q hn;omega
     have hk:=Un q hlt (hap.2.2 _ hmid) (fun e=>hap.2.1 b (by simp) (by rw[yG,e]));exact⟨⟨by omega,OY q hlt hap⟩,hk.1,hk.2⟩
   ·exact IL x (old x (by simp[hx])) hy
theorem ax.oI (n:ax):n.cells.length=7:=by obtain⟨op,kind,A,c,args,vk,vb,pos,a⟩:=n;rfl
theorem Gg {w:World} {g:Nat} {t:TypeId} {c1 c2:Array Value} (h1:Bk w g t c1) (h2:Bk w g t c2):c1=c2:=by
 unfold Bk at h1 h2;rw[h1]at h2;injection h2 with h2
 injection h2
theorem Gh {w2 w3 : World} {B e k n c g : Nat} {xs zs cs : List Value} {cur : Array Value} (h : w2.ownsRow B e k (.slice (some ⟨g, 0, none⟩) (n + 1) c) (n + 1) (xs ++ zs)) (hx : xs.length = n * k) (hc : cs.length = k) (jc : Bk w2 g e cur) (hp : lY w2 g e (uf cur (n * k) cs) w3) :
  w3.ownsRow B e k (.slice (some ⟨g,0,none⟩) (n+1) c) (n+1) (xs++cs):=by
 refine⟨by rw[List.length_append,hx,hc,Nat.succ_mul],?_⟩;rcases h.2 with⟨h0,_⟩|⟨g',cap,cur',hv,hb,hh,hn,hm,hs,ht⟩
 ·cases h0
 ·injection hv with hv1 hv2 hv3
  injection hv1 with hv1
  injection hv1 with hv1
  subst hv1 hv3;obtain rfl:=Gg jc (show Bk w2 g e cur' from hh);have hle:(n+1)*k<=c*k:=Nat.mul_le_mul_right _ hn;rw[Nat.succ_mul]at hle;refine .inr ⟨g,c,_,rfl,hb,hp.bk,hn,hm,by rw[BG];exact hs,?_⟩;rw[vI cs cur (n*k) (by omega),Nat.succ_mul]
  have hxs:cur.toList.take (n*k)=xs:=by
   have:=congrArg (List.take (n*k)) ht;rw[List.take_take,Nat.min_eq_left (by rw[Nat.succ_mul];omega),<-hx,List.take_left]at this;rw[<-hx];exact this
  rw[hxs,List.append_assoc];have:n*k+k=(xs++cs).length:=by rw[List.length_append,hx,hc]
  rw[<-List.append_assoc,this,List.take_left]
theorem setCell_at {w w':World} {a:Addr} {u:Value} (h:w'.heap[a.block]? =w.heap[a.block]?):(w'.setCell a u).heap[a.block]? =(w.setCell a u).heap[a.block]? :=by
 simp[World.setCell,Array.getElem?_modify,h]
theorem OZ {w2 w3 w':World} {gp i g:Nat} {t:TypeId} {u:Value} {cs:Array Value} (hne:gp≠g) (h3:lY w2 g t cs w3) (h:lY (w2.setCell ⟨gp,i,none⟩ u) g t cs w'):Below (w3.setCell ⟨gp,i,none⟩ u).heap.size (w3.setCell ⟨gp,i,none⟩ u) w':=by
 have hg:=h.grown;have hg3:=h3.grown;refine⟨hg.os.trans hg3.os.symm,hg.tape.trans hg3.tape.symm,hg.output.trans hg3.output.symm,?_,fun q _=>?_⟩
 ·have:=h.size;have:=h3.size;simp at *;omega
 ·by_cases hq:q=g
  ·subst hq;rw[show w'.heap[q]? =_ from h.bk,Below.heap_setCell w3 _ _ q (by show q≠gp;omega)];exact h3.bk.symm
  ·rw[h.other q hq]
   by_cases hq2:q=gp
   ·subst hq2;exact(setCell_at (a:=⟨q,i,none⟩) (h3.other q hq)).symm
   ·rw[Below.heap_setCell w2 _ _ q (by show q≠gp;exact hq2),Below.heap_setCell w3 _ _ q (by show q≠gp;exact hq2),h3.other q hq]
def xU (g:Bool) (v:Value) (nd:ax) (p:bW):bW:=if g=true then {p with g:=v,gs:=p.gs++[nd]}else {p with c:=v,cs:=p.cs++[nd]}
def oJ (g:Bool) (p:bW):Value:=if g=true then p.g else p.c
def jd (g:Bool) (p:bW):List ax:=if g=true then p.gs else p.cs
def IM (g:Bool) (t:T) (p:oU):oU:=if g=true then {p with gs:=p.gs++[t]}else {p with cs:=p.cs++[t]}
def zV (bs:List qj) (i k:Nat) (g:Bool) (t:T):List qj:=bs.modify i fun b=>{b with ps:=b.ps.modify k (IM g t)}
theorem O0 (d:Nat) (g:Bool) (v:Value) (nd:ax) (p:bW):partT d (xU g v nd p)=IM g (bV d nd) (partT d p):=by
 unfold xU IM partT;cases g<;>simp
theorem lV {α:Type} (f:α->α):∀(l1:List α) (a:α) (l2:List α),(l1++a::l2).modify l1.length f=l1++f a::l2
 |[],a,l2=>rfl
 |x::l1,a,l2=>by
  have:=lV f l1 a l2;simp[this]
theorem nM (d : Nat) (b1 b2 : List fB) (b : fB) (p1 p2 : List bW) (p : bW) (hps : b.ps = p1 ++ p :: p2) (g : Bool) (v : Value) (nd : ax) :
  (b1++{b with ps:=p1++xU g v nd p::p2}::b2).map (lU d)=zV ((b1++b::b2).map (lU d)) b1.length p1.length g (bV d nd):=by
 unfold zV;rw[List.map_append,List.map_cons,List.map_append,List.map_cons];have e:b1.length=(b1.map (lU d)).length:=by simp
 rw[e,lV]
 congr 2
 unfold lU;simp only[hps]
 congr 1
 rw[List.map_append,List.map_cons,List.map_append,List.map_cons];have e2:p1.length=(p1.map (partT d)).length:=by simp
 rw[e2,lV,O0]
theorem Lh {b1 b2:List fB} {b:fB} {p1 p2:List bW} {p:bW} (hps:b.ps=p1++p::p2) (g:Bool) (v:Value) (nd:ax):∃R1 R2,dR (b1++b::b2)=R1++(oJ g p,jd g p)::R2/\dR (b1++{b with ps:=p1++xU g v nd p::p2}::b2)=R1++(v,jd g p++[nd])::R2:=by
 rw[xw hps,xw (b:={b with ps:=p1++xU g v nd p::p2}) rfl];cases g
 ·exact⟨dR b1++p1.flatMap o9++[(p.g,p.gs)],p2.flatMap o9++dR b2,by simp[o9,oJ,jd],by simp[o9,xU,jd]⟩
 ·exact⟨dR b1++p1.flatMap o9,(p.c,p.cs)::(p2.flatMap o9++dR b2),by simp[o9,oJ,jd],by simp[o9,xU,jd]⟩
def xW (g:Bool):Nat:=if g=true then 2 else 3
theorem IP (g:Bool) (v:Value) (nd:ax) (p:bW):p.cells.set (xW g) v=(xU g v nd p).cells:=by
 cases g<;>rfl
structure uI (bv:Value) (bs bs':List fB) (w w':World):Prop where
 os:w'.os=w.os
 tape:w'.tape=w.tape
 output:w'.output=w.output
 size:w.heap.size<=w'.heap.size
 block:∀q,q<w.heap.size->fU bv bs q->w'.heap[q]? =w.heap[q]?
 ap:∀q,q<w.heap.size->fU bv bs q->fU bv bs' q
theorem uI.refl (bv:Value) (bs:List fB) (w:World):uI bv bs bs w w:=⟨rfl,rfl,rfl,Nat.le_refl _,fun _ _ _=>rfl,fun _ _ h=>h⟩
theorem uI.trans {bv:Value} {bs Uo O1:List fB} {w w1 w2:World} (h:uI bv bs Uo w w1) (h2:uI bv Uo O1 w1 w2):uI bv bs O1 w w2:=
 ⟨h2.os.trans h.os,h2.tape.trans h.tape,h2.output.trans h.output,Nat.le_trans h.size h2.size,fun q hq ha=>(h2.block q (Nat.lt_of_lt_of_le hq h.size) (h.ap q hq ha)).trans (h.block q hq ha),fun q hq ha=>h2.ap q (Nat.lt_of_lt_of_le hq h.size) (h.ap q hq ha)⟩
theorem uI.below {bv:Value} {bs Uo:List fB} {w w1 w2:World} (h:uI bv bs Uo w w1) (hb:Below w1.heap.size w1 w2):uI bv bs Uo w w2:=
 h.trans ⟨hb.os,hb.tape,hb.output,hb.size,fun q hq _=>hb.block q hq,fun _ _ h=>h⟩
theorem uI.iV {bv:Value} {bs:List fB} {w w1:World} (hb:Below w.heap.size w w1):uI bv bs bs w w1:=(uI.refl bv bs w).below hb
theorem zW {α:Type} (l:List α) (i:Nat) (h:i<l.length):∃l1 l2,l=l1++l[i]::l2/\l1.length=i:=
 ⟨l.take i,l.drop (i+1),by rw[<-List.drop_eq_getElem_cons h,List.take_append_drop],by simp;omega⟩
section
variable {B d W0:Nat} {bv:Value} {b1 b2:List fB} {b:fB} {p1 p2:List bW} {p:bW} {W w2 w3 w':World} {gp g9 n c:Nat} {g:Bool} {nd:ax} {cur:Array Value} {zs:List Value}
theorem jX.Su (h : jX B d bv (b1 ++ b :: b2) W) (hps : b.ps = p1 ++ p :: p2) (yG : b.parts.ownBlock = some gp) (hn : (jd g p).length = n) (hB : B ≤ W0) (hlo : ∀ q, ¬ fU bv (b1 ++ b :: b2) q → q < W0) (hW : W0 ≤ W.heap.size)
  (hnd:okS (fun q=>W0<=q) d nd W) (hown:w2.ownsRow B 76 7 (.slice (some ⟨g9,0,none⟩) (n+1) c) (n+1) ((jd g p).flatMap ax.cells++zs)) (hg:W.grownBy w2 (oJ g p).ownBlock)
  (hwh:some g9=(oJ g p).ownBlock\/g9=W.heap.size) (jc:Bk w2 g9 76 cur) (hp:lY w2 g9 76 (uf cur (n*7) nd.cells) w3):
  jX B d bv (b1++{b with ps:=p1++xU g (.slice (some ⟨g9,0,none⟩) (n+1) c) nd p::p2}::b2) (w3.setCell ⟨gp,p1.length*4+xW g,none⟩ (.slice (some ⟨g9,0,none⟩) (n+1) c))/\
  uI bv (b1++b::b2) (b1++{b with ps:=p1++xU g (.slice (some ⟨g9,0,none⟩) (n+1) c) nd p::p2}::b2) W (w3.setCell ⟨gp,p1.length*4+xW g,none⟩ (.slice (some ⟨g9,0,none⟩) (n+1) c)):=by
 obtain⟨R1,R2,hr,hr'⟩:=Lh (b1:=b1) (b2:=b2) hps g (.slice (some ⟨g9,0,none⟩) (n+1) c) nd;have hmid:(oJ g p,jd g p)∈dR (b1++b::b2):=by rw[hr];simp
 have hrow:=h.Bo _ hmid;have zAe:((jd g p).flatMap ax.cells).length=n*7:=by rw[nK ax.cells 7 ax.oI,hn]
 have hown3:=Gh hown zAe (ax.oI nd) jc hp
 have hg3:W.grownBy w3 (oJ g p).ownBlock:=by
  refine⟨hp.grown.os.trans hg.os,hp.grown.tape.trans hg.tape,hp.grown.output.trans hg.output,Nat.le_trans hg.size hp.grown.size,fun q hq hne=>?_⟩;rw[hp.other q ?_]
  ·exact hg.block q hq hne
  ·rcases hwh with e|e
   ·intro he;exact hne (by rw[he,e])
   ·omega
 have hwh3:(Value.slice (some ⟨g9,0,none⟩) (n+1) c).ownBlock=(oJ g p).ownBlock\/(Value.slice (some ⟨g9,0,none⟩) (n+1) c).ownBlock=some W.heap.size:=by
  rcases hwh with e|e
  ·exact .inl e
  ·exact .inr (by rw[e];rfl)
 have key:=jX.app (R1:=R1) (R2:=R2) (v:=oJ g p) (ns:=jd g p) (W1:=w3) (gp:=gp) h hps yG (j:=xW g) (by cases g<;>decide) (IP g (.slice (some ⟨g9,0,none⟩) (n+1) c) nd p) hr hr' hB hlo hW
  ⟨by simpa[hn]using hown3,hg3,hwh3,hnd⟩
 refine⟨key,hg3.os,hg3.tape,hg3.output,by have:=hg3.size;simpa using this,fun q hq ha=>?_,fun q hq ha=>⟨ha.1,fun x hx=>?_,fun z hz=>?_⟩⟩
 ·rw[Below.heap_setCell w3 _ _ q (by show q≠gp;intro e;exact ha.2.1 b (by simp) (by rw[yG,e]))];exact hg3.block q hq (ha.2.2 _ hmid)
 ·rcases List.mem_append.1 hx with hx|hx
  ·exact ha.2.1 x (by simp[hx])
  ·rcases List.mem_cons.1 hx with rfl|hx
   ·exact ha.2.1 b (by simp)
   ·exact ha.2.1 x (by simp[hx])
 ·rw[hr']at hz;rcases List.mem_append.1 hz with hz|hz
  ·exact ha.2.2 z (by rw[hr];simp[hz])
  ·rcases List.mem_cons.1 hz with rfl|hz
   ·rcases hwh with e|e
    ·show some q≠some g9
     rw[e];exact ha.2.2 _ hmid
    ·show some q≠some g9
     intro e';injection e' with e';omega
   ·exact ha.2.2 z (by rw[hr];simp[hz])
theorem jX.Xa (h : jX B d bv (b1 ++ b :: b2) W) (hps : b.ps = p1 ++ p :: p2) (yG : b.parts.ownBlock = some gp) (hn : (jd g p).length = n) (hB : B ≤ W0) (hlo : ∀ q, ¬ fU bv (b1 ++ b :: b2) q → q < W0) (hW : W0 ≤ W.heap.size)
  (hnd:okS (fun q=>W0<=q) d nd W) (hown:w2.ownsRow B 76 7 (.slice (some ⟨g9,0,none⟩) (n+1) c) (n+1) ((jd g p).flatMap ax.cells++zs)) (hg:W.grownBy w2 (oJ g p).ownBlock)
  (hwh:some g9=(oJ g p).ownBlock\/g9=W.heap.size) (jc:Bk w2 g9 76 cur) (hne:gp≠g9) (hp:lY (w2.setCell ⟨gp,p1.length*4+xW g,none⟩ (.slice (some ⟨g9,0,none⟩) (n+1) c)) g9 76 (uf cur (n*7) nd.cells) w'):
  jX B d bv (b1++{b with ps:=p1++xU g (.slice (some ⟨g9,0,none⟩) (n+1) c) nd p::p2}::b2) w'/\
  uI bv (b1++b::b2) (b1++{b with ps:=p1++xU g (.slice (some ⟨g9,0,none⟩) (n+1) c) nd p::p2}::b2) W w':=by
 have hsz:n*7+0+nd.cells.length<=cur.size:=by
  rcases hown.2 with⟨h0,_⟩|⟨g',cap,cur',hv,hb,hh,hnn,hm,hs,ht⟩
  ·cases h0
  ·injection hv with hv1 hv2 hv3
   injection hv1 with hv1
   injection hv1 with hv1
   subst hv1 hv3;obtain rfl:=Gg jc (show Bk w2 g9 _ cur' from hh);have hle:(n+1)*7<=c*7:=Nat.mul_le_mul_right _ hnn;rw[ax.oI];omega
 have h1c:nd.cells.all Value.oneCell'=true:=by obtain⟨op,kind,A,c,args,vk,vb,pos,a⟩:=nd;rfl
 obtain⟨w3,-,hp3⟩:=Hf (o:=n*7) nd.cells 0 cur w2 jc hsz h1c;rw[Nat.add_zero]at hp3;have k1:=jX.Su h hps yG hn hB hlo hW hnd hown hg hwh jc hp3;have hb:=OZ hne hp3 hp;exact⟨k1.1.old hb,k1.2.below hb⟩
end
structure AtP (B gv i k:Nat) (bs:List fB) (W:World) (b1 b2:List fB) (br:fB) (p1 p2:List bW) (p:bW) (g2 n2 c2:Nat):Prop where
 sp:bs=b1++br::b2
 l1:b1.length=i
 ps:br.ps=p1++p::p2
 l2:p1.length=k
 parts:br.parts=.slice (some ⟨g2,0,none⟩) n2 c2
 lt:k<n2
 n2e:br.ps.length=n2
 le:n2<=maxLen
 c2:W.cell? ⟨gv,i*3+2,none⟩=some (.slice (some ⟨g2,0,none⟩) n2 c2)
 cell:∀g:Bool,W.cell? ⟨g2,k*4+xW g,none⟩=some (oJ g p)
 frozen:∀j,W.frozen? ⟨g2,j,none⟩=false
 own:∀g:Bool,∃(A:Option Addr) (c:Nat),oJ g p=.slice A (jd g p).length c/\W.ownsRow B 76 7 (oJ g p) (jd g p).length ((jd g p).flatMap ax.cells)
theorem jX.at {B d gv nb cv : Nat} {bs : List fB} {W : World} (h : jX B d (.slice (some ⟨gv, 0, none⟩) nb cv) bs W) (hnb : bs.length = nb) {i k : Nat} (hi : i < bs.length) (hk : k < bs[i].ps.length) :
  ∃b1 b2 br p1 p2 p g2 n2 c2,AtP B gv i k bs W b1 b2 br p1 p2 p g2 n2 c2/\br=bs[i]/\p=bs[i].ps[k]:=by
 obtain⟨b1,b2,hsp,hl1⟩:=zW bs i hi;obtain⟨p1,p2,hps,hl2⟩:=zW bs[i].ps k hk;have hmem:bs[i]∈bs:=List.getElem_mem hi;have iJ:=h.prt _ hmem
 have hform:∃g c,bs[i].parts=.slice (some ⟨g,0,none⟩) bs[i].ps.length c/\bs[i].ps.length<=c/\c<=maxLen:=by
  rcases iJ.2 with⟨_,h0⟩|⟨g,c,cur,hv,_,_,hc,hm,_⟩
  ·omega
  ·exact⟨g,c,hv,hc,hm⟩
 obtain⟨g2,c2,hv,hc,hm⟩:=hform;have hbr:=h.dC;rw[hnb]at hbr;have KG:=iJ;rw[hv]at KG;have rd1:=bP hbr;have rd2:=bP KG
 have hcell1:W.cell? ⟨gv,i*3+2,none⟩=some bs[i].parts:=by
  obtain⟨g,o,hA,hg,hcc⟩:=rd1.elem (n:=3) oH (by omega) hi;injection hA with hA
  injection hA with hA1 hA2
  subst hA1 hA2;have:=hcc 2 _ rfl
  simpa using this
 have hcell2:∀j u,bs[i].ps[k].cells[j]? =some u->W.cell? ⟨g2,k*4+j,none⟩=some u:=by
  obtain⟨g,o,hA,hg,hcc⟩:=rd2.elem (n:=4) jR (by omega) hk;injection hA with hA
  injection hA with hA1 hA2
  subst hA1 hA2;intro j u hu;have:=hcc j u hu
  simpa using this
 refine⟨b1,b2,bs[i],p1,p2,bs[i].ps[k],g2,bs[i].ps.length,c2,⟨hsp,hl1,hps,hl2,hv,hk,rfl,by omega,by rw[hcell1,hv],fun g=>?_,fun j=>jb KG rfl j,fun g=>?_⟩,rfl,rfl⟩
 ·cases g
  ·exact hcell2 3 _ rfl
  ·exact hcell2 2 _ rfl
 ·have hmn:(oJ g bs[i].ps[k],jd g bs[i].ps[k])∈dR bs:=by
   unfold dR;refine List.mem_flatMap.2 ⟨bs[i],hmem,List.mem_flatMap.2 ⟨bs[i].ps[k],List.getElem_mem hk,?_⟩⟩;cases g<;>simp[o9,oJ,jd]
  have hr:=h.Bo _ hmn;obtain⟨A,c,hv,_⟩:=bF hr;exact⟨A,c,hv,hr⟩
end Go.Proofs.Ytbjnhllkdilpfaa
