/- Part 24 of the proof. No conditions. -/
import Derived.Test.YtbjnhllkdilpfaaZc22
namespace Go.Proofs.Ytbjnhllkdilpfaa
open Go.RowKit
set_option linter.unusedSimpArgs false
set_option linter.unusedVariables false
set_option maxRecDepth 10000
end Go.Proofs.Ytbjnhllkdilpfaa
namespace Go.Proofs.Ytbjnhllkdilpfaa
open Go.RowKit
set_option maxRecDepth 10000
end Go.Proofs.Ytbjnhllkdilpfaa
namespace Go.Proofs.Ytbjnhllkdilpfaa
open Go.RowKit
set_option linter.unusedVariables false
set_option maxRecDepth 10000
theorem RJ (n:Int):ofInt n<18446744073709551616:=CY _ (by have:=floatOfInt_wf .f64 n;simpa[Lit.wf]using this)
@[go_sem] theorem YO (k b:Int) (w:World):(Instr.field 74 (.agg #[.int .i64 k,.int .u64 b]) 0).run Try.prog w=.ok (.int .i64 k) w:=by kernel_rfl
@[go_sem] theorem YP (k b:Int) (w:World):(Instr.field 74 (.agg #[.int .i64 k,.int .u64 b]) 1).run Try.prog w=.ok (.int .u64 b) w:=by kernel_rfl
@[go_sem] theorem YQ (k b:Int) (w:World):(Instr.field 162 (.agg #[.int .i64 k,.int .u64 b]) 0).run Try.prog w=.ok (.int .i64 k) w:=by kernel_rfl
@[go_sem] theorem YR (k b:Int) (w:World):(Instr.field 162 (.agg #[.int .i64 k,.int .u64 b]) 1).run Try.prog w=.ok (.int .u64 b) w:=by kernel_rfl
end Go.Proofs.Ytbjnhllkdilpfaa
namespace Go.Proofs.Ytbjnhllkdilpfaa
open Go.RowKit
set_option maxRecDepth 100000
set_option maxHeartbeats 16000000
set_option linter.unusedVariables false
set_option linter.unusedSimpArgs false
theorem au.pF (n:au):n.cells.length=7:=by obtain⟨op,kind,A,c,args,vk,vb,pos,a⟩:=n;rfl
theorem IB {w:World} {g:Nat} {t:TypeId} {c1 c2:Array Value} (h1:Bk w g t c1) (h2:Bk w g t c2):c1=c2:=by
 unfold Bk at h1 h2;rw[h1]at h2;injection h2 with h2
 injection h2
theorem IC {w2 w3 : World} {B e k n c g : Nat} {xs zs cs : List Value} {cur : Array Value} (h : w2.ownsRow B e k (.slice (some ⟨g, 0, none⟩) (n + 1) c) (n + 1) (xs ++ zs)) (hx : xs.length = n * k) (hc : cs.length = k) (jh : Bk w2 g e cur) (hp : lH w2 g e (uA cur (n * k) cs) w3) :
  w3.ownsRow B e k (.slice (some ⟨g,0,none⟩) (n+1) c) (n+1) (xs++cs):=by
 refine⟨by rw[List.length_append,hx,hc,Nat.succ_mul],?_⟩;rcases h.2 with⟨h0,_⟩|⟨g',cap,cur',hv,hb,hh,hn,hm,hs,ht⟩
 ·cases h0
 ·injection hv with hv1 hv2 hv3
  injection hv1 with hv1
  injection hv1 with hv1
  subst hv1 hv3;obtain rfl:=IB jh (show Bk w2 g e cur' from hh);have hle:(n+1)*k<=c*k:=Nat.mul_le_mul_right _ hn;rw[Nat.succ_mul]at hle;refine .inr ⟨g,c,_,rfl,hb,hp.bk,hn,hm,by rw[xB];exact hs,?_⟩;rw[rO cs cur (n*k) (by omega),Nat.succ_mul]
  have hxs:cur.toList.take (n*k)=xs:=by
   have:=congrArg (List.take (n*k)) ht;rw[List.take_take,Nat.min_eq_left (by rw[Nat.succ_mul];omega),<-hx,List.take_left]at this;rw[<-hx];exact this
  rw[hxs,List.append_assoc];have:n*k+k=(xs++cs).length:=by rw[List.length_append,hx,hc]
  rw[<-List.append_assoc,this,List.take_left]
theorem setCell_at {w w':World} {a:Addr} {u:Value} (h:w'.heap[a.block]? =w.heap[a.block]?):(w'.setCell a u).heap[a.block]? =(w.setCell a u).heap[a.block]? :=by
 simp[World.setCell,Array.getElem?_modify,h]
theorem SE {w2 w3 w':World} {gp i g:Nat} {t:TypeId} {u:Value} {cs:Array Value} (hne:gp≠g) (h3:lH w2 g t cs w3) (h:lH (w2.setCell ⟨gp,i,none⟩ u) g t cs w'):Below (w3.setCell ⟨gp,i,none⟩ u).heap.size (w3.setCell ⟨gp,i,none⟩ u) w':=by
 have hg:=h.grown;have hg3:=h3.grown;refine⟨hg.os.trans hg3.os.symm,hg.tape.trans hg3.tape.symm,hg.output.trans hg3.output.symm,?_,fun q _=>?_⟩
 ·have:=h.size;have:=h3.size;simp at *;omega
 ·by_cases hq:q=g
  ·subst hq;rw[show w'.heap[q]? =_ from h.bk,Below.heap_setCell w3 _ _ q (by show q≠gp;omega)];exact h3.bk.symm
  ·rw[h.other q hq]
   by_cases hq2:q=gp
   ·subst hq2;exact(setCell_at (a:=⟨q,i,none⟩) (h3.other q hq)).symm
   ·rw[Below.heap_setCell w2 _ _ q (by show q≠gp;exact hq2),Below.heap_setCell w3 _ _ q (by show q≠gp;exact hq2),h3.other q hq]
def zi (g:Bool) (v:Value) (nd:au) (p:dS):dS:=if g=true then {p with g:=v,gs:=p.gs++[nd]}else {p with c:=v,cs:=p.cs++[nd]}
def pG (g:Bool) (p:dS):Value:=if g=true then p.g else p.c
def ji (g:Bool) (p:dS):List au:=if g=true then p.gs else p.cs
def KP (g:Bool) (t:T) (p:kM):kM:=if g=true then {p with gs:=p.gs++[t]}else {p with cs:=p.cs++[t]}
def BC (bs:List bQ) (i k:Nat) (g:Bool) (t:T):List bQ:=bs.modify i fun b=>{b with ps:=b.ps.modify k (KP g t)}
theorem SG (d:Nat) (g:Bool) (v:Value) (nd:au) (p:dS):partT d (zi g v nd p)=KP g (bz d nd) (partT d p):=by
 unfold zi KP partT;cases g<;>simp
theorem mF {α:Type} (f:α->α):∀(l1:List α) (a:α) (l2:List α),(l1++a::l2).modify l1.length f=l1++f a::l2
 |[],a,l2=>rfl
 |x::l1,a,l2=>by
  have:=mF f l1 a l2;simp[this]
theorem ou (d : Nat) (b1 b2 : List iR) (b : iR) (p1 p2 : List dS) (p : dS) (hps : b.ps = p1 ++ p :: p2) (g : Bool) (v : Value) (nd : au) :
  (b1++{b with ps:=p1++zi g v nd p::p2}::b2).map (mJ d)=BC ((b1++b::b2).map (mJ d)) b1.length p1.length g (bz d nd):=by
 unfold BC;rw[List.map_append,List.map_cons,List.map_append,List.map_cons];have e:b1.length=(b1.map (mJ d)).length:=by simp
 rw[e,mF]
 congr 2
 unfold mJ;simp only[hps]
 congr 1
 rw[List.map_append,List.map_cons,List.map_append,List.map_cons];have e2:p1.length=(p1.map (partT d)).length:=by simp
 rw[e2,mF,SG]
theorem OM {b1 b2:List iR} {b:iR} {p1 p2:List dS} {p:dS} (hps:b.ps=p1++p::p2) (g:Bool) (v:Value) (nd:au):∃R1 R2,dU (b1++b::b2)=R1++(pG g p,ji g p)::R2/\dU (b1++{b with ps:=p1++zi g v nd p::p2}::b2)=R1++(v,ji g p++[nd])::R2:=by
 rw[yz hps,yz (b:={b with ps:=p1++zi g v nd p::p2}) rfl];cases g
 ·exact⟨dU b1++p1.flatMap qf++[(p.g,p.gs)],p2.flatMap qf++dU b2,by simp[qf,pG,ji],by simp[qf,zi,ji]⟩
 ·exact⟨dU b1++p1.flatMap qf,(p.c,p.cs)::(p2.flatMap qf++dU b2),by simp[qf,pG,ji],by simp[qf,zi,ji]⟩
def zk (g:Bool):Nat:=if g=true then 2 else 3
theorem KQ (g:Bool) (v:Value) (nd:au) (p:dS):p.cells.set (zk g) v=(zi g v nd p).cells:=by
 cases g<;>rfl
structure wL (bv:Value) (bs bs':List iR) (w w':World):Prop where
 os:w'.os=w.os
 tape:w'.tape=w.tape
 output:w'.output=w.output
 size:w.heap.size<=w'.heap.size
 block:∀q,q<w.heap.size->fP bv bs q->w'.heap[q]? =w.heap[q]?
 ap:∀q,q<w.heap.size->fP bv bs q->fP bv bs' q
theorem wL.refl (bv:Value) (bs:List iR) (w:World):wL bv bs bs w w:=⟨rfl,rfl,rfl,Nat.le_refl _,fun _ _ _=>rfl,fun _ _ h=>h⟩
theorem wL.trans {bv:Value} {bs XA SH:List iR} {w w1 w2:World} (h:wL bv bs XA w w1) (h2:wL bv XA SH w1 w2):wL bv bs SH w w2:=
 ⟨h2.os.trans h.os,h2.tape.trans h.tape,h2.output.trans h.output,Nat.le_trans h.size h2.size,fun q hq ha=>(h2.block q (Nat.lt_of_lt_of_le hq h.size) (h.ap q hq ha)).trans (h.block q hq ha),fun q hq ha=>h2.ap q (Nat.lt_of_lt_of_le hq h.size) (h.ap q hq ha)⟩
theorem wL.below {bv:Value} {bs XA:List iR} {w w1 w2:World} (h:wL bv bs XA w w1) (hb:Below w1.heap.size w1 w2):wL bv bs XA w w2:=
 h.trans ⟨hb.os,hb.tape,hb.output,hb.size,fun q hq _=>hb.block q hq,fun _ _ h=>h⟩
theorem wL.ja {bv:Value} {bs:List iR} {w w1:World} (hb:Below w.heap.size w w1):wL bv bs bs w w1:=(wL.refl bv bs w).below hb
theorem BD {α:Type} (l:List α) (i:Nat) (h:i<l.length):∃l1 l2,l=l1++l[i]::l2/\l1.length=i:=
 ⟨l.take i,l.drop (i+1),by rw[<-List.drop_eq_getElem_cons h,List.take_append_drop],by simp;omega⟩
section
variable {B d W0:Nat} {bv:Value} {b1 b2:List iR} {b:iR} {p1 p2:List dS} {p:dS} {W w2 w3 w':World} {gp g9 n c:Nat} {g:Bool} {nd:au} {cur:Array Value} {zs:List Value}
theorem kJ.VX (h : kJ B d bv (b1 ++ b :: b2) W) (hps : b.ps = p1 ++ p :: p2) (Dl : b.parts.ownBlock = some gp) (hn : (ji g p).length = n) (hB : B ≤ W0) (hlo : ∀ q, ¬ fP bv (b1 ++ b :: b2) q → q < W0) (hW : W0 ≤ W.heap.size)
  (hnd:okS (fun q=>W0<=q) d nd W) (hown:w2.ownsRow B 76 7 (.slice (some ⟨g9,0,none⟩) (n+1) c) (n+1) ((ji g p).flatMap au.cells++zs)) (hg:W.grownBy w2 (pG g p).ownBlock)
  (hwh:some g9=(pG g p).ownBlock\/g9=W.heap.size) (jh:Bk w2 g9 76 cur) (hp:lH w2 g9 76 (uA cur (n*7) nd.cells) w3):
  kJ B d bv (b1++{b with ps:=p1++zi g (.slice (some ⟨g9,0,none⟩) (n+1) c) nd p::p2}::b2) (w3.setCell ⟨gp,p1.length*4+zk g,none⟩ (.slice (some ⟨g9,0,none⟩) (n+1) c))/\
  wL bv (b1++b::b2) (b1++{b with ps:=p1++zi g (.slice (some ⟨g9,0,none⟩) (n+1) c) nd p::p2}::b2) W (w3.setCell ⟨gp,p1.length*4+zk g,none⟩ (.slice (some ⟨g9,0,none⟩) (n+1) c)):=by
 obtain⟨R1,R2,hr,hr'⟩:=OM (b1:=b1) (b2:=b2) hps g (.slice (some ⟨g9,0,none⟩) (n+1) c) nd;have hmid:(pG g p,ji g p)∈dU (b1++b::b2):=by rw[hr];simp
 have hrow:=h.Cf _ hmid;have zBa:((ji g p).flatMap au.cells).length=n*7:=by rw[xE au.cells 7 au.pF,hn]
 have hown3:=IC hown zBa (au.pF nd) jh hp
 have hg3:W.grownBy w3 (pG g p).ownBlock:=by
  refine⟨hp.grown.os.trans hg.os,hp.grown.tape.trans hg.tape,hp.grown.output.trans hg.output,Nat.le_trans hg.size hp.grown.size,fun q hq hne=>?_⟩;rw[hp.other q ?_]
  ·exact hg.block q hq hne
  ·rcases hwh with e|e
   ·intro he;exact hne (by rw[he,e])
   ·omega
 have hwh3:(Value.slice (some ⟨g9,0,none⟩) (n+1) c).ownBlock=(pG g p).ownBlock\/(Value.slice (some ⟨g9,0,none⟩) (n+1) c).ownBlock=some W.heap.size:=by
  rcases hwh with e|e
  ·exact .inl e
  ·exact .inr (by rw[e];rfl)
 have key:=kJ.app (R1:=R1) (R2:=R2) (v:=pG g p) (ns:=ji g p) (W1:=w3) (gp:=gp) h hps Dl (j:=zk g) (by cases g<;>decide) (KQ g (.slice (some ⟨g9,0,none⟩) (n+1) c) nd p) hr hr' hB hlo hW
  ⟨by simpa[hn]using hown3,hg3,hwh3,hnd⟩
 refine⟨key,hg3.os,hg3.tape,hg3.output,by have:=hg3.size;simpa using this,fun q hq ha=>?_,fun q hq ha=>⟨ha.1,fun x hx=>?_,fun z hz=>?_⟩⟩
 ·rw[Below.heap_setCell w3 _ _ q (by show q≠gp;intro e;exact ha.2.1 b (by simp) (by rw[Dl,e]))];exact hg3.block q hq (ha.2.2 _ hmid)
 ·rcases List.mem_append.1 hx with hx|hx
  ·exact ha.2.1 x (by simp[hx])
  ·rcases List.mem_cons.1 hx with rfl|hx
   ·exact ha.2.1 b (by simp)
   ·exact ha.2.1 x (by simp[hx])
 ·rw[hr']at hz;rcases List.mem_append.1 hz with hz|hz
  ·exact ha.2.2 z (by rw[hr];simp[hz])
  ·rcases List.mem_cons.1 hz with rfl|hz
   ·rcases hwh with e|e
    ·show some q≠some g9
     rw[e];exact ha.2.2 _ hmid
    ·show some q≠some g9
     intro e';injection e' with e';omega
   ·exact ha.2.2 z (by rw[hr];simp[hz])
theorem kJ.Zu (h : kJ B d bv (b1 ++ b :: b2) W) (hps : b.ps = p1 ++ p :: p2) (Dl : b.parts.ownBlock = some gp) (hn : (ji g p).length = n) (hB : B ≤ W0) (hlo : ∀ q, ¬ fP bv (b1 ++ b :: b2) q → q < W0) (hW : W0 ≤ W.heap.size)
  (hnd:okS (fun q=>W0<=q) d nd W) (hown:w2.ownsRow B 76 7 (.slice (some ⟨g9,0,none⟩) (n+1) c) (n+1) ((ji g p).flatMap au.cells++zs)) (hg:W.grownBy w2 (pG g p).ownBlock)
  (hwh:some g9=(pG g p).ownBlock\/g9=W.heap.size) (jh:Bk w2 g9 76 cur) (hne:gp≠g9) (hp:lH (w2.setCell ⟨gp,p1.length*4+zk g,none⟩ (.slice (some ⟨g9,0,none⟩) (n+1) c)) g9 76 (uA cur (n*7) nd.cells) w'):
  kJ B d bv (b1++{b with ps:=p1++zi g (.slice (some ⟨g9,0,none⟩) (n+1) c) nd p::p2}::b2) w'/\
  wL bv (b1++b::b2) (b1++{b with ps:=p1++zi g (.slice (some ⟨g9,0,none⟩) (n+1) c) nd p::p2}::b2) W w':=by
 have hsz:n*7+0+nd.cells.length<=cur.size:=by
  rcases hown.2 with⟨h0,_⟩|⟨g',cap,cur',hv,hb,hh,hnn,hm,hs,ht⟩
  ·cases h0
  ·injection hv with hv1 hv2 hv3
   injection hv1 with hv1
   injection hv1 with hv1
   subst hv1 hv3;obtain rfl:=IB jh (show Bk w2 g9 _ cur' from hh);have hle:(n+1)*7<=c*7:=Nat.mul_le_mul_right _ hnn;rw[au.pF];omega
 have h1c:nd.cells.all Value.oneCell'=true:=by obtain⟨op,kind,A,c,args,vk,vb,pos,a⟩:=nd;rfl
 obtain⟨w3,-,hp3⟩:=Jq (o:=n*7) nd.cells 0 cur w2 jh hsz h1c;rw[Nat.add_zero]at hp3;have k1:=kJ.VX h hps Dl hn hB hlo hW hnd hown hg hwh jh hp3;have hb:=SE hne hp3 hp;exact⟨k1.1.old hb,k1.2.below hb⟩
end
structure AtP (B gv i k:Nat) (bs:List iR) (W:World) (b1 b2:List iR) (br:iR) (p1 p2:List dS) (p:dS) (g2 n2 c2:Nat):Prop where
 sp:bs=b1++br::b2
 l1:b1.length=i
 ps:br.ps=p1++p::p2
 l2:p1.length=k
 parts:br.parts=.slice (some ⟨g2,0,none⟩) n2 c2
 lt:k<n2
 n2e:br.ps.length=n2
 le:n2<=maxLen
 c2:W.cell? ⟨gv,i*3+2,none⟩=some (.slice (some ⟨g2,0,none⟩) n2 c2)
 cell:∀g:Bool,W.cell? ⟨g2,k*4+zk g,none⟩=some (pG g p)
 frozen:∀j,W.frozen? ⟨g2,j,none⟩=false
 own:∀g:Bool,∃(A:Option Addr) (c:Nat),pG g p=.slice A (ji g p).length c/\W.ownsRow B 76 7 (pG g p) (ji g p).length ((ji g p).flatMap au.cells)
theorem kJ.at {B d gv nb cv : Nat} {bs : List iR} {W : World} (h : kJ B d (.slice (some ⟨gv, 0, none⟩) nb cv) bs W) (hnb : bs.length = nb) {i k : Nat} (hi : i < bs.length) (hk : k < bs[i].ps.length) :
  ∃b1 b2 br p1 p2 p g2 n2 c2,AtP B gv i k bs W b1 b2 br p1 p2 p g2 n2 c2/\br=bs[i]/\p=bs[i].ps[k]:=by
 obtain⟨b1,b2,hsp,hl1⟩:=BD bs i hi;obtain⟨p1,p2,hps,hl2⟩:=BD bs[i].ps k hk;have hmem:bs[i]∈bs:=List.getElem_mem hi;have rq:=h.prt _ hmem
 have hform:∃g c,bs[i].parts=.slice (some ⟨g,0,none⟩) bs[i].ps.length c/\bs[i].ps.length<=c/\c<=maxLen:=by
  rcases rq.2 with⟨_,h0⟩|⟨g,c,cur,hv,_,_,hc,hm,_⟩
  ·omega
  ·exact⟨g,c,hv,hc,hm⟩
 obtain⟨g2,c2,hv,hc,hm⟩:=hform;have hbr:=h.dI;rw[hnb]at hbr;have Oo:=rq;rw[hv]at Oo;have rd1:=dG hbr;have rd2:=dG Oo
 have hcell1:W.cell? ⟨gv,i*3+2,none⟩=some bs[i].parts:=by
  obtain⟨g,o,hA,hg,hcc⟩:=rd1.elem (n:=3) LX (by omega) hi;injection hA with hA
  injection hA with hA1 hA2
  subst hA1 hA2;have:=hcc 2 _ rfl
  simpa using this
 have hcell2:∀j u,bs[i].ps[k].cells[j]? =some u->W.cell? ⟨g2,k*4+j,none⟩=some u:=by
  obtain⟨g,o,hA,hg,hcc⟩:=rd2.elem (n:=4) rQ (by omega) hk;injection hA with hA
  injection hA with hA1 hA2
  subst hA1 hA2;intro j u hu;have:=hcc j u hu
  simpa using this
 refine⟨b1,b2,bs[i],p1,p2,bs[i].ps[k],g2,bs[i].ps.length,c2,⟨hsp,hl1,hps,hl2,hv,hk,rfl,by omega,by rw[hcell1,hv],fun g=>?_,fun j=>lV Oo rfl j,fun g=>?_⟩,rfl,rfl⟩
 ·cases g
  ·exact hcell2 3 _ rfl
  ·exact hcell2 2 _ rfl
 ·have hmn:(pG g bs[i].ps[k],ji g bs[i].ps[k])∈dU bs:=by
   unfold dU;refine List.mem_flatMap.2 ⟨bs[i],hmem,List.mem_flatMap.2 ⟨bs[i].ps[k],List.getElem_mem hk,?_⟩⟩;cases g<;>simp[qf,pG,ji]
  have hr:=h.Cf _ hmn;obtain⟨A,c,hv,_⟩:=bg hr;exact⟨A,c,hv,hr⟩
theorem wu {P : Program} {ops : Array Oper} {Q : Exit → Act → World → Prop} {a0 : Act} {W : World} {id : Nat} (Fr : Nat → Bool) (Rl : List Spec) (sp : List Nat) (m : Nat) (ld : Array Bool) (hm : P.follows .mixedOrders = true) (hf : (iQ ops a0.tmps.size && F7 ops Rl.length && decide (Rl.length ≤ ops.size)) = true) (hc : F9 ops Fr Rl sp = true)
  (hmz:ops.size=Rl.length+m) (hld:doneN ops.size Rl.length=ld) (hall:F9 ops Fr Rl sp=true->AllB P Q ops Fr a0 W Rl 0 (ops.toList.take Rl.length))
  (hend:∀(f:Nat) (x:Nat->Value) (w:World),Below W.heap.size W w->(∀(k:Nat) {q:Value->World->Prop} {h:∀v w w',Below w.heap.size w w'->q v w->q v w'},Rl.getD k .any=.st q h->(decide (k<Rl.length)&&(k==ops.size||decide (Rl.length<=ops.size)||waits ops k ops.size))=true->q (x k) w)->
   (∀j k,j<Rl.length->k<Rl.length->j≠k->Fr j=true->Fr k=true->dZ (x j)≠dZ (x k))->wpAny P .any ops Q (f+m) ld (bJ Rl x 0 (ops.toList.take Rl.length) a0) w):
  (Code.region id ops true).wp P Q a0 W:=by
 simp only[Bool.and_eq_true,decide_eq_true_eq]at hf;obtain⟨⟨hf,yw⟩,hn⟩:=hf;refine wp_region_any hm ?_;refine LG (W:=W) (p:=ops.size) hn hf yw (hall hc) (fun fuel listed a w hfu hz h1 h2 hi=>?_) _ _ _ _ (by simp) (by simp) (by intro j _;simp[Array.getD]) (RX.start (Kp:=fun _=>false) (G:=fun w=>Below W.heap.size W w) fun _ h=>h);obtain⟨x,rfl,h3,h4⟩:=hi.end_ hn hf h1;obtain⟨f,rfl⟩:∃f,fuel=f+m:=⟨fuel-m,by omega⟩
 rw[LK,U3 hz h1 h2,hld];exact hend f x w hi.g (fun k _ _ e c=>h3 k e (.inl c)) h4
theorem TU (d : Nat) (S : Nat → Prop) (base g c n a b k : Nat) (ms : List (Nat × bQ)) (f : Value) (w : World) (pa pb pk : Int) (ha : pa = a) (hb : pb = b) (hk : pk = k) (h : oH d S base g c n ms w) (hab : a + k ≤ b) (hbn : b + k ≤ n) (hn : n ≤ 1000000000000) :
  Calls Try.prog 89 #[.slice (some ⟨g,0,none⟩) n c,.int .i64 pa,.int .i64 pb,.int .i64 pk,f] w fun r w'=>r=.returned (.tuple #[])/\∃ms',pX ms ms' a b k/\oH d S base g c n ms' w'/\w.grownBy w' (some g):=by
 subst ha;subst hb;subst hk;exact zBg h hab hbn hn
theorem rotB (d : Nat) (S : Nat → Prop) (base g c n a m b : Nat) (ms : List (Nat × bQ)) (f : Value) (w : World) (h : oH d S base g c n ms w) (ham : a < m) (hmb : m < b) (hbn : b ≤ n) (hn : n ≤ 1000000000000) :
  Calls Try.prog 73 #[.slice (some ⟨g,0,none⟩) n c,.int .i64 a,.int .i64 m,.int .i64 b,f] w fun r w'=>r=.returned (.tuple #[])/\∃ms',fH ms ms' a m b/\oH d S base g c n ms' w'/\w.grownBy w' (some g):=by
 have HR:=zH h;clear h
 go_enter Try.func73,Try.ntmps73
 go_wp2
 go_loopw[10,11] (fun p q wr=>∃(i j:Nat) (jQ:List (Nat×bQ)),0<i/\0<j/\i<=m/\m+j<=n/\p=.int .i64 i/\q=.int .i64 j/\Hid (∀l',fH jQ l' (m-i) m (m+j)->fH ms l' a m b)/\Hid (oH d S base g c n jQ wr)/\Hid (w.grownBy wr (some g))) (fun p q _=>(intOf p).toNat+(intOf q).toNat)
 case atStart=>
  refine⟨m-a,b-m,ms,by omega,by omega,by omega,by omega,by go_num,by go_num,zH (fun l' h=>?_),HR,zH (World.grownBy.refl _ _)⟩
  rwa [show m-(m-a)=a by omega,show m+(b-m)=b by omega]at h
 case round=>
  obtain⟨i,j,jQ,hi0,hj0,him,hjn,rfl,rfl,TV,eY,hgr⟩:=hrel;obtain⟨W,rfl⟩:∃W:World,W=wr:=⟨_,rfl⟩
  by_cases hij:i=j
  ·subst hij;go_wp2_with fail
   refine(TU d S base g c n (m-i) m i jQ _ _ _ _ _ (by omega) rfl rfl eY.out (by omega) (by omega) hn).mono ?_;rintro r w2 ⟨rfl,l1,hsw,hrow,hg2⟩;go_wp2
   go_end0
   exact⟨rfl,l1,TV.out _ (TP him hsw),hrow,hgr.out.trans hg2⟩
  ·by_cases hlt:j<i
   ·
    go_wp2_with fail
    refine(TU d S base g c n (m-i) m j jQ _ _ _ _ _ (by omega) rfl rfl eY.out (by omega) (by omega) hn).mono ?_;rintro r w2 ⟨rfl,l1,hsw,hrow,hg2⟩;have Oz:=TV;have HRO:=zH hrow;have jP:=zH hsw;have HG:=zH (hgr.out.trans hg2);clear hrow hsw hg2 hgr TV;go_wp2
    go_roundw
    case rel=>exact⟨i-j,j,l1,by omega,by omega,by omega,by omega,by go_num,rfl,zH (fun l' h=>Oz.out l' (TN hlt him jP.out h)),HRO,HG⟩
    case measure=>simp[intOf];omega
   ·
    have hlt2:i<j:=by omega
    go_wp2_with fail
    refine(TU d S base g c n (m-i) (m+j-i) i jQ _ _ _ _ _ (by omega) (by omega) rfl eY.out (by omega) (by omega) hn).mono ?_;rintro r w2 ⟨rfl,l1,hsw,hrow,hg2⟩;have Oz:=TV;have HRO:=zH hrow;have jP:=zH hsw;have HG:=zH (hgr.out.trans hg2);clear hrow hsw hg2 hgr TV;go_wp2
    go_roundw
    case rel=>exact⟨i,j-i,l1,by omega,by omega,by omega,by omega,rfl,by go_num,zH (fun l' h=>Oz.out l' (O3 hlt2 him jP.out h)),HRO,HG⟩
    case measure=>simp[intOf];omega
def NoP (d:Nat) (S:Nat->Prop) (t:T) (cs:List Value) (w:World):Prop:=eu S d t cs w
instance (d:Nat):CK 7 (NoP d) where
 pos:=by decide
 keep:=fun hk h=>eu.keep hk h
 len:=fun⟨n,h,_⟩=>by rw[h];exact n.len
 one:=fun⟨n,h,_⟩=>by subst h;cases n;rfl
theorem NoP.mk {d:Nat} {S:Nat->Prop} {t:T} {cs:List Value} {w:World} (h:NoP d S t cs w):∃d' op kind ts vk vb pos a A c,d=d'+1/\t=.mk op kind ts vk vb pos a/\cs=[.int .i64 op,.int .i64 kind,.slice A ts.length c,.int .i64 vk,.int .u64 vb,.int .i64 pos,.int .i64 a]/\Nd d' S ts (.slice A ts.length c) w:=by
 obtain⟨⟨op,kind,A,c,args,vk,vb,pos,a⟩,rfl,rfl,h3⟩:=h
 match d,h3 with
 |d+1,h3=>exact⟨d,op,kind,args.map (bz d),vk,vb,pos,a,A,c,rfl,rfl,by simp[au.cells],A,c,args,by simp,h3.1,h3.2.2.2,rfl,h3.2.1⟩
theorem Nd.sl {d:Nat} {S:Nat->Prop} {ts:List T} {v:Value} {w:World} (h:Nd d S ts v w):Sl (NoP d) S ts v w:=by
 obtain⟨A,c,ns,rfl,h1,h2,rfl,h3⟩:=h;refine⟨A,c,by simp,by rw[List.length_map];omega,ns.map (fun n=>(bz d n,n.cells)),by simp,by rw[List.flatMap_map];exact h1,fun p hp=>?_⟩;obtain⟨n,hn,rfl⟩:=List.mem_map.1 hp;exact⟨n,rfl,rfl,h2 n hn⟩
section
set_option maxRecDepth 100000
set_option maxHeartbeats 8000000
theorem Ny (d : Nat) (ih : ∀ d', d' + 1 = d → ∀ {S S' : Nat → Prop} {ts : List T} {v v' : Value} {w : World}, Nd d' S ts v w → Nd d' S' ts v' w → Calls Try.prog 24 #[v, v'] w fun e w' => e = .returned (.bool true) ∧ Below w.heap.size w w')
  {S S':Nat->Prop} {ts:List T} {v v':Value} {w:World} (h1:Nd d S ts v w) (h2:Nd d S' ts v' w):Calls Try.prog 24 #[v,v'] w fun e w'=>e=.returned (.bool true)/\Below w.heap.size w w':=by
 obtain⟨A,c,rfl,hl,h1⟩:=h1.sl;obtain⟨A',c',rfl,_,h2⟩:=h2.sl;have HR:=zH (And.intro h1 h2);have HI:=zH ih;clear h1 h2 ih
 go_enter Try.func24,Try.ntmps24
 go_wp2_with fail
 go_loopw[15] (fun i wr=>∃(k:Nat),k<=ts.length/\i=.int .i64 k/\Below w.heap.size w wr) (fun i _=>ts.length-(intOf i).toNat)
 case atStart=>exact⟨0,Nat.zero_le _,rfl,Below.refl _ _⟩
 case round=>
  obtain⟨wq,rfl⟩:∃z:World,z=wr:=⟨_,rfl⟩
  obtain⟨k,hk,rfl,hbel⟩:=hrel
  by_cases hlt:k<ts.length
  ·obtain⟨b,o,cs,rfl,_,hb,hP,hc⟩:=(HR.out.1.old hbel).elem hlt;obtain⟨b2,o2,cs2,rfl,_,hb2,hP2,hd⟩:=(HR.out.2.old hbel).elem hlt;obtain⟨d',op,kind,us,vk,vb,pos,a,A2,c2,rfl,e1,rfl,hn⟩:=hP.mk;obtain⟨d2,op2,kind2,us2,vk2,vb2,pos2,a2,A3,c3,e0,e2,rfl,hn2⟩:=hP2.mk;rw[e1]at e2;injection e2 with i1 i2 i3 i4 i5 i6 i7
   injection e0 with e0
   subst i1 i2 i3 i4 i5 i6 i7 e0;have hc0:=hc 0 _ rfl;have hc1:=hc 1 _ rfl;have hc2:=hc 2 _ rfl;have hc3:=hc 3 _ rfl;have hc4:=hc 4 _ rfl;have hc5:=hc 5 _ rfl;have hc6:=hc 6 _ rfl;have hd0:=hd 0 _ rfl;have hd1:=hd 1 _ rfl;have hd2:=hd 2 _ rfl;have hd3:=hd 3 _ rfl;have hd4:=hd 4 _ rfl;have hd5:=hd 5 _ rfl;have hd6:=hd 6 _ rfl;rw[Nat.add_zero]at hc0 hd0;obtain⟨n,hn0⟩:∃z,us.length=z:=⟨_,rfl⟩
   have hrec:=fun w' (hw:Below wq.heap.size wq w')=>HI.out d' rfl (hn.keep (.old hw)) (hn2.keep (.old hw))
   rw[hn0]at hc2 hd2 hrec;have jS:=zH hrec;have HB:=zH hbel;have hz:=hbel.size;clear hc hd hP hP2 hn hn2 e1 hn0 HR hbel hrec HI;go_upto_region 6 with fail
   go_cut[6,7] (fun v6 v7 wx=>∃g6 g7,v6=.pointer (some ⟨g6,0,none⟩)/\v7=.pointer (some ⟨g7,0,none⟩)/\Hid (Below wq.heap.size wq wx/\Bk wx g6 76 #[.int .i64 op,.int .i64 kind,.slice A2 n c2,.int .i64 vk,.int .u64 vb,.int .i64 pos,.int .i64 a]/\Bk wx g7 76 #[.int .i64 op,.int .i64 kind,.slice A3 n c3,.int .i64 vk,.int .u64 vb,.int .i64 pos,.int .i64 a]))
   case first=>
    go_region_held3(fun w'=>w'.cell? ⟨b,o+k*7,none⟩=some (.int .i64 op)/\w'.cell? ⟨b,o+k*7+1,none⟩=some (.int .i64 kind)/\w'.cell? ⟨b,o+k*7+2,none⟩=some (.slice A2 n c2)/\w'.cell? ⟨b,o+k*7+3,none⟩=some (.int .i64 vk)/\w'.cell? ⟨b,o+k*7+4,none⟩=some (.int .u64 vb)/\w'.cell? ⟨b,o+k*7+5,none⟩=some (.int .i64 pos)/\w'.cell? ⟨b,o+k*7+6,none⟩=some (.int .i64 a)/\w'.cell? ⟨b2,o2+k*7,none⟩=some (.int .i64 op)/\w'.cell? ⟨b2,o2+k*7+1,none⟩=some (.int .i64 kind)/\w'.cell? ⟨b2,o2+k*7+2,none⟩=some (.slice A3 n c3)/\w'.cell? ⟨b2,o2+k*7+3,none⟩=some (.int .i64 vk)/\w'.cell? ⟨b2,o2+k*7+4,none⟩=some (.int .u64 vb)/\w'.cell? ⟨b2,o2+k*7+5,none⟩=some (.int .i64 pos)/\w'.cell? ⟨b2,o2+k*7+6,none⟩=some (.int .i64 a)) (go_keep) (fail)
    all_goals
     go_wp2_with fail
     go_meet
     exact⟨_,_,rfl,rfl,zH ⟨((ba _ _).trans ((ba _ _).mono (by simp))).drew,by first|exact(Bk.new _ _ _).alloc _|exact Bk.newAt (by simp) _ _,by first|exact(Bk.new _ _ _).alloc _|exact Bk.newAt (by simp) _ _⟩⟩
   case rest=>
    obtain⟨g6,g7,rfl,rfl,HC⟩:=hcut;obtain⟨x0,x1,x2,x3,x4,x5,x6⟩:=zc7 HC.out.2.1;obtain⟨y0,y1,y2,y3,y4,y5,y6⟩:=zc7 HC.out.2.2;clear hc0 hc1 hc2 hc3 hc4 hc5 hc6 hd0 hd1 hd2 hd3 hd4 hd5 hd6;go_wp2_with fail
    refine(jS.out _ HC.out.1).mono ?_;rintro e w2 ⟨rfl,hb2⟩;go_wp2_with fail
    go_roundw
    case rel=>exact⟨k+1,hlt,by go_num,HB.out.trans ((HC.out.1.trans (hb2.mono HC.out.1.size)).mono hz)⟩
    case measure=>simp[intOf];omega
  ·obtain rfl:k=ts.length:=by omega
   go_wp2_with fail
   go_ret
   exact⟨rfl,hbel⟩
theorem uV:∀(d:Nat) {S S':Nat->Prop} {ts:List T} {v v':Value} {w:World},Nd d S ts v w->Nd d S' ts v' w->Calls Try.prog 24 #[v,v'] w fun e w'=>e=.returned (.bool true)/\Below w.heap.size w w'
 |0=>Ny 0 fun d' h=>by omega
 |d+1=>Ny (d+1) fun d' h=>by obtain rfl:d'=d:=(by omega);exact uV d'
end
end Go.Proofs.Ytbjnhllkdilpfaa
