/- Part 20 of the proof. No conditions. -/
import Derived.Test.YtbjnhllkdilpfaaZc06
namespace Go.Proofs.Ytbjnhllkdilpfaa
open Go.RowKit
set_option maxRecDepth 100000
set_option maxHeartbeats 16000000
set_option linter.unusedVariables false
set_option linter.unusedSimpArgs false
structure dS where
 form:Nat
 type:Int
 g:Value
 c:Value
 gs:List au
 cs:List au
def dS.cells (x:dS):List Value:=[.int .i64 x.form,.int .i64 x.type,x.g,x.c]
structure iR where
 id:Nat
 window:Int
 parts:Value
 ps:List dS
def iR.cells (x:iR):List Value:=[.int .i64 x.id,.int .i64 x.window,x.parts]
theorem rQ (x:dS):x.cells.length=4:=rfl
theorem LX (x:iR):x.cells.length=3:=rfl
structure kM where
 form:Nat
 type:Int
 gs:List T
 cs:List T
structure bQ where
 id:Nat
 window:Int
 ps:List kM
def partT (d:Nat) (p:dS):kM:=⟨p.form,p.type,p.gs.map (bz d),p.cs.map (bz d)⟩
def mJ (d:Nat) (b:iR):bQ:=⟨b.id,b.window,b.ps.map (partT d)⟩
def qf (p:dS):List (Value×List au):=[(p.g,p.gs),(p.c,p.cs)]
def NI (b:iR):List (Value×List au):=b.ps.flatMap qf
def dU (bs:List iR):List (Value×List au):=bs.flatMap NI
def fP (bv:Value) (bs:List iR) (q:Nat):Prop:=some q≠bv.ownBlock/\(∀b∈bs,some q≠b.parts.ownBlock)/\∀z∈dU bs,some q≠z.1.ownBlock
structure kJ (B d:Nat) (bv:Value) (bs:List iR) (W:World):Prop where
 dI:W.ownsRow B 28 3 bv bs.length (bs.flatMap iR.cells)
 prt:∀b∈bs,W.ownsRow B 31 4 b.parts b.ps.length (b.ps.flatMap dS.cells)
 Jw:bs.Pairwise fun x y=>x.parts.ownBlock=none\/x.parts.ownBlock≠y.parts.ownBlock
 Cf:∀x∈dU bs,W.ownsRow B 76 7 x.1 x.2.length (x.2.flatMap au.cells)
 Jy:(dU bs).Pairwise fun x y=>x.1.ownBlock=none\/x.1.ownBlock≠y.1.ownBlock
 kids:∀x∈dU bs,∀y∈x.2,okS (fun q=>B<=q/\fP bv bs q) d y W
section
variable {w w':World} {base e size n:Nat} {v:Value} {xs:List Value}
theorem rU (h:w.ownsRow base e size v n xs) {g:Nat} (hv:v.ownBlock=some g) (i:Nat) (hi:i<xs.length) (u:Value):(w.setCell ⟨g,i,none⟩ u).ownsRow base e size v n (xs.set i u):=by
 refine⟨by rw[List.length_set];exact h.1,?_⟩;rcases h.2 with⟨rfl,_⟩|⟨g',cap,cur,rfl,hb,hh,hn,hm,hs,ht⟩
 ·cases hv
 ·have hg:g'=g:=by simpa[Value.ownBlock]using hv
  subst hg;refine .inr ⟨g',cap,cur.setIfInBounds i u,rfl,hb,?_,hn,hm,by simpa using hs,?_⟩
  ·simp[World.setCell,Array.getElem?_modify,hh]
  ·rw[Array.toList_setIfInBounds,List.take_set,ht]
theorem lV (h:w.ownsRow base e size v n xs) {g:Nat} (hv:v.ownBlock=some g) (i:Nat):w.frozen? ⟨g,i,none⟩=false:=by
 rcases h.2 with⟨rfl,_⟩|⟨g',cap,cur,rfl,hb,hh,hn,hm,hs,ht⟩
 ·cases hv
 ·have hg:g'=g:=by simpa[Value.ownBlock]using hv
  subst hg;exact(show Bk w g' e cur from hh).frozen i
end
theorem zY {α:Type} (f:α->List Value) (k:Nat) (hf:∀x,(f x).length=k):∀(l1:List α) (a b:α) (l2:List α) (j:Nat) (u:Value),j<k->(f a).set j u=f b->((l1++a::l2).flatMap f).set (l1.length*k+j) u=(l1++b::l2).flatMap f
 |[],a,b,l2,j,u,hj,h=>by
  simp only[List.nil_append,List.flatMap_cons,List.length_nil,Nat.zero_mul,Nat.zero_add];rw[List.set_append_left _ _ (by rw[hf];exact hj),h]
 |x::l1,a,b,l2,j,u,hj,h=>by
  have ih:=zY f k hf l1 a b l2 j u hj h;simp only[List.cons_append,List.flatMap_cons,List.length_cons];rw[List.set_append_right _ _ (by rw[hf,Nat.succ_mul];omega),hf,<-ih]
  congr 2
  rw[Nat.succ_mul];omega
theorem xE {α β:Type} (f:α->List β) (k:Nat) (hf:∀x,(f x).length=k) (l:List α):(l.flatMap f).length=l.length*k:=by
 induction l with
 |nil=>simp
 |cons x l ih=>rw[List.flatMap_cons,List.length_append,hf,ih,List.length_cons,Nat.succ_mul];omega
theorem kJ.old {B d:Nat} {bv:Value} {bs:List iR} {W W':World} (h:kJ B d bv bs W) (hb:Below W.heap.size W W'):kJ B d bv bs W':=
 ⟨aQ h.dI hb,fun b hb'=>aQ (h.prt b hb') hb,h.Jw,fun x hx=>aQ (h.Cf x hx) hb,h.Jy,fun x hx y hy=>(h.kids x hx y hy).keep fun q hq hlt=>⟨hq,Nat.lt_of_lt_of_le hlt hb.size,hb.block q hlt⟩⟩
theorem kJ.mono {B B' d:Nat} {bv:Value} {bs:List iR} {W:World} (h:kJ B d bv bs W) (hB:B'<=B):kJ B' d bv bs W:=
 ⟨di h.dI hB,fun b hb'=>di (h.prt b hb') hB,h.Jw,fun x hx=>di (h.Cf x hx) hB,h.Jy,fun x hx y hy=>(h.kids x hx y hy).keep fun q hq hlt=>⟨⟨Nat.le_trans hB hq.1,hq.2⟩,hlt,rfl⟩⟩
theorem kJ.grown {B d:Nat} {bv:Value} {bs:List iR} {W W':World} {b:Nat} (h:kJ B d bv bs W) (hg:W.grownBy W' (some b)) (hb:b<B):kJ B d bv bs W':=by
 have key:∀{e size n:Nat} {v:Value} {xs:List Value},W.ownsRow B e size v n xs->W'.ownsRow B e size v n xs:=fun {e size n v xs} hr=>hr.kept hg (by
  rcases hv:v.ownBlock with _|k
  ·exact .inl rfl
  ·exact .inr fun e=>by
    injection e with e
    have:=(hr.lt k hv).1
    omega)
 exact⟨key h.dI,fun b hb'=>key (h.prt b hb'),h.Jw,fun x hx=>key (h.Cf x hx),h.Jy,fun x hx y hy=>(h.kids x hx y hy).keep fun q hq hlt=>⟨hq,Nat.lt_of_lt_of_le hlt hg.size,hg.block q hlt (fun e=>by injection e with e;omega)⟩⟩
theorem yz {b1 b2:List iR} {b:iR} {p1 p2:List dS} {p:dS} (hp:b.ps=p1++p::p2):dU (b1++b::b2)=(dU b1++p1.flatMap qf)++qf p++(p2.flatMap qf++dU b2):=by
 unfold dU;rw[List.flatMap_append,List.flatMap_cons];unfold NI;rw[hp,List.flatMap_append,List.flatMap_cons];simp only[List.append_assoc]
structure Grew (B d Wn:Nat) (R1 R2:List (Value×List au)) (v v':Value) (ns:List au) (nd:au) (W W1:World):Prop where
 own:W1.ownsRow B 76 7 v' (ns++[nd]).length ((ns++[nd]).flatMap au.cells)
 grown:W.grownBy W1 v.ownBlock
 wh:v'.ownBlock=v.ownBlock\/v'.ownBlock=some W.heap.size
 ok:okS (fun q=>Wn<=q) d nd W
theorem P5 {α:Type} {R:α->α->Prop} {l1 l2:List α} {a:α} (h:(l1++a::l2).Pairwise R):(∀x∈l1,R x a)/\∀x∈l2,R a x:=by
 rw[List.pairwise_append,List.pairwise_cons]at h;exact⟨fun x hx=>h.2.2 x hx a (by simp),h.2.1.1⟩
theorem P6 {α:Type} {R:α->α->Prop} {l1 l2:List α} {a b:α} (h:(l1++a::l2).Pairwise R) (h1:∀x∈l1,R x b) (h2:∀x∈l2,R b x):(l1++b::l2).Pairwise R:=by
 rw[List.pairwise_append,List.pairwise_cons]at h⊢;refine⟨h.1,⟨h2,h.2.1.2⟩,fun x hx y hy=>?_⟩;rcases List.mem_cons.1 hy with rfl|hy
 ·exact h1 x hx
 ·exact h.2.2 x hx y (by simp[hy])
theorem kJ.app {B d Wn : Nat} {bv : Value} {b1 b2 : List iR} {b : iR} {p1 p2 : List dS} {p p' : dS} {R1 R2 : List (Value × List au)} {v v' : Value} {ns : List au} {nd : au} {W W1 : World} {gp j : Nat}
  (h:kJ B d bv (b1++b::b2) W) (hps:b.ps=p1++p::p2) (Dl:b.parts.ownBlock=some gp) (hj:j<4) (hcells:p.cells.set j v'=p'.cells) (hr:dU (b1++b::b2)=R1++(v,ns)::R2) (hr':dU (b1++{b with ps:=p1++p'::p2}::b2)=R1++(v',ns++[nd])::R2)
  (hB:B<=Wn) (hlo:∀q,¬fP bv (b1++b::b2) q->q<Wn) (hW:Wn<=W.heap.size) (hg:Grew B d Wn R1 R2 v v' ns nd W W1):
  kJ B d bv (b1++{b with ps:=p1++p'::p2}::b2) (W1.setCell ⟨gp,p1.length*4+j,none⟩ v'):=by
 have hmid:(v,ns)∈dU (b1++b::b2):=by rw[hr];simp
 have hv:=h.Cf _ hmid;have hb:=h.prt b (by simp);have hpw:=P5 h.Jw;have hnw:(∀x∈R1,_)/\_:=P5 (hr▸h.Jy)
 have old:∀x∈R1++R2,x∈dU (b1++b::b2):=fun x hx=>by
  rw[hr];rcases List.mem_append.1 hx with hx|hx<;>simp[hx]
 have far:∀{e size n:Nat} {u:Value} {xs:List Value},W1.ownsRow B e size u n xs->u.ownBlock≠some gp->(W1.setCell ⟨gp,p1.length*4+j,none⟩ v').ownsRow B e size u n xs:=fun hr hne=>ownsRow_setCell_other hr hne _
 have gpN:∀{u:Value} {n:Nat} {xs:List Value},W.ownsRow B 76 7 u n xs->u.ownBlock≠some gp:=fun {u n xs} hu e=>by
  rcases own_ne hu hb (by decide)with e0|e0
  ·rw[e]at e0;cases e0
  ·exact e0 (e.trans Dl.symm)
 have hne1:v'.ownBlock≠some gp:=by
  rcases hg.wh with e|e
  ·rw[e];exact gpN hv
  ·rw[e];intro e';injection e' with e'
   have:=(hb.lt gp Dl).2;omega
 have hbr1:(W1.setCell ⟨gp,p1.length*4+j,none⟩ v').ownsRow B 28 3 bv (b1++b::b2).length ((b1++b::b2).flatMap iR.cells):=far (dN h.dI hv (by decide) hg.grown) (fun e=>by
  rcases own_ne h.dI hb (by decide)with e0|e0
  ·rw[e]at e0;cases e0
  ·exact e0 (e.trans Dl.symm))
 have XY:∀x∈R1++R2,x.1.ownBlock=none\/x.1.ownBlock≠v.ownBlock:=by
  intro x hx;rcases List.mem_append.1 hx with hx|hx
  ·exact hnw.1 x hx
  ·rcases hnw.2 x hx with e|e
   ·by_cases h0:x.1.ownBlock=none
    ·exact .inl h0
    ·exact .inr fun e'=>h0 (e'.trans e)
   ·exact .inr (Ne.symm e)
 have rlt:∀x∈R1++R2,x.1.ownBlock≠some W.heap.size:=fun x hx e=>by
  have:=((h.Cf x (old x hx)).lt _ e).2;omega
 have WZ:∀x∈R1++R2,x.1.ownBlock=none\/x.1.ownBlock≠v'.ownBlock:=fun x hx=>by
  rcases hg.wh with e|e
  ·rw[e];exact XY x hx
  ·rw[e];exact .inr (rlt x hx)
 have P7:∀q,q<W.heap.size->fP bv (b1++b::b2) q->fP bv (b1++{b with ps:=p1++p'::p2}::b2) q:=by
  intro q hq hap;refine⟨hap.1,fun x hx=>?_,fun z hz=>?_⟩
  ·rcases List.mem_append.1 hx with hx|hx
   ·exact hap.2.1 x (by simp[hx])
   ·rcases List.mem_cons.1 hx with rfl|hx
    ·exact hap.2.1 b (by simp)
    ·exact hap.2.1 x (by simp[hx])
  ·rw[hr']at hz;rcases List.mem_append.1 hz with hz|hz
   ·exact hap.2.2 z (old z (by simp[hz]))
   ·rcases List.mem_cons.1 hz with rfl|hz
    ·rcases hg.wh with e|e
     ·show some q≠v'.ownBlock
      rw[e];exact hap.2.2 _ hmid
     ·show some q≠v'.ownBlock
      rw[e];intro e';injection e' with e';omega
    ·exact hap.2.2 z (old z (by simp[hz]))
 have Xa:∀q,q<W.heap.size->some q≠v.ownBlock->q≠gp->q<(W1.setCell ⟨gp,p1.length*4+j,none⟩ v').heap.size/\(W1.setCell ⟨gp,p1.length*4+j,none⟩ v').heap[q]? =W.heap[q]? :=fun q h1 h2 h3=>
  ⟨by have:=hg.grown.size;simp;omega,(Below.heap_setCell W1 _ _ q (by show q≠gp;exact h3)).trans (hg.grown.block q h1 h2)⟩
 refine⟨?_,?_,?_,?_,?_,?_⟩
 ·have e1:(b1++{b with ps:=p1++p'::p2}::b2).length=(b1++b::b2).length:=by simp
  have e2:(b1++{b with ps:=p1++p'::p2}::b2).flatMap iR.cells=(b1++b::b2).flatMap iR.cells:=by simp[List.flatMap_append,iR.cells]
  rw[e1,e2];exact hbr1
 ·intro x hx;rcases List.mem_append.1 hx with hx|hx
  ·have hx0:=h.prt x (by simp[hx]);refine far (dN hx0 hv (by decide) hg.grown) fun e=>?_
   rcases hpw.1 x hx with e0|e0
   ·rw[e]at e0;cases e0
   ·exact e0 (e.trans Dl.symm)
  ·rcases List.mem_cons.1 hx with rfl|hx
   ·have h0:=rU (dN hb hv (by decide) hg.grown) Dl (p1.length*4+j) (by rw[xE _ _ rQ,hps];simp;omega) v';have e1:(p1++p'::p2).length=b.ps.length:=by rw[hps];simp
    have e2:(p1++p'::p2).flatMap dS.cells=(b.ps.flatMap dS.cells).set (p1.length*4+j) v':=by
     rw[hps];exact(zY dS.cells 4 rQ p1 p p' p2 j v' hj hcells).symm
    show(W1.setCell _ v').ownsRow B 31 4 b.parts (p1++p'::p2).length ((p1++p'::p2).flatMap dS.cells)
    rw[e1,e2];exact h0
   ·have hx0:=h.prt x (by simp[hx]);refine far (dN hx0 hv (by decide) hg.grown) fun e=>?_
    rcases hpw.2 x hx with e0|e0
    ·rw[Dl]at e0;cases e0
    ·exact e0 (Dl.trans e.symm)
 ·refine P6 h.Jw (fun x hx=>hpw.1 x hx) (fun x hx=>hpw.2 x hx)
 ·intro x hx;rw[hr']at hx;rcases List.mem_append.1 hx with hx|hx
  ·exact far ((h.Cf x (old x (by simp[hx]))).kept hg.grown (XY x (by simp[hx]))) (gpN (h.Cf x (old x (by simp[hx]))))
  ·rcases List.mem_cons.1 hx with rfl|hx
   ·exact far hg.own hne1
   ·exact far ((h.Cf x (old x (by simp[hx]))).kept hg.grown (XY x (by simp[hx]))) (gpN (h.Cf x (old x (by simp[hx]))))
 ·rw[hr'];refine P6 (hr▸h.Jy) (fun x hx=>WZ x (by simp[hx])) (fun x hx=>?_);rcases WZ x (by simp[hx])with e|e
  ·by_cases h0:v'.ownBlock=none
   ·exact .inl h0
   ·exact .inr fun e'=>h0 (e'.trans e)
  ·exact .inr (Ne.symm e)
 ·intro x hx y hy
  have Jz:∀z∈dU (b1++b::b2),y∈z.2->okS (fun q=>B<=q/\fP bv (b1++{b with ps:=p1++p'::p2}::b2) q) d y (W1.setCell ⟨gp,p1.length*4+j,none⟩ v'):=fun z hz hy=>by
   refine(h.kids z hz y hy).keep fun q hq hlt=>?_
   have hk:=Xa q hlt (hq.2.2.2 _ hmid) (fun e=>hq.2.2.1 b (by simp) (by rw[Dl,e]));exact⟨⟨hq.1,P7 q hlt hq.2⟩,hk.1,hk.2⟩
  rw[hr']at hx;rcases List.mem_append.1 hx with hx|hx
  ·exact Jz x (old x (by simp[hx])) hy
  ·rcases List.mem_cons.1 hx with rfl|hx
   ·rcases List.mem_append.1 hy with hy|hy
    ·exact Jz (v,ns) hmid hy
    ·simp only[List.mem_cons,List.not_mem_nil,or_false]at hy;subst hy;refine hg.ok.keep fun q hq hlt=>?_
     have hap:fP bv (b1++b::b2) q:=Classical.byContradiction fun hn=>by have:=hlo q hn;omega
     have hk:=Xa q hlt (hap.2.2 _ hmid) (fun e=>hap.2.1 b (by simp) (by rw[Dl,e]));exact⟨⟨by omega,P7 q hlt hap⟩,hk.1,hk.2⟩
   ·exact Jz x (old x (by simp[hx])) hy
end Go.Proofs.Ytbjnhllkdilpfaa
