/- Part 44 of the proof. No conditions. -/
import Derived.Test.YtbjnhllkdilpfaaZb43
import Derived.Test.YtbjnhllkdilpfaaZb18
namespace Go.Proofs.Ytbjnhllkdilpfaa
open Go.RowKit
set_option linter.unusedSimpArgs false
set_option linter.unusedVariables false
theorem JL {w w2:World} {B B2:Nat}:∀{d:Nat} {x y:ax},yB d x w B->yB d y w2 B2->OC d x y->bV d x=bV d y
 |0,_,_,h,_,_=>h.elim
 |d+1,.mk op kind A c args vk vb pos a,.mk op' kind' A' c' args' vk' vb' pos' a',h,h',hs=>by
  obtain⟨h1,h2,h3,h4,h5,h6,h7,h8⟩:=hs
  show T.mk _ _ _ _ _ _ _=T.mk _ _ _ _ _ _ _
  have:args.map (bV d)=args'.map (bV d):=by
   apply List.ext_getElem (by simpa using h7)
   intro i h9 h10;simp only[List.length_map]at h9 h10;rw[List.getElem_map,List.getElem_map];exact JL (h.2.2.2 _ (List.getElem_mem h9)) (h'.2.2.2 _ (List.getElem_mem h10)) (h8 i _ _ (List.getElem?_eq_getElem h9) (List.getElem?_eq_getElem h10))
  rw[this,h1,h2,h3,h4,h5,h6]
structure oL where
 A:Option Addr
 c:Nat
 ns:List ax
def oL.val (x:oL):Value:=.slice x.A x.ns.length x.c
structure oL.ok (S:Nat->Prop) (d:Nat) (x:oL) (w:World):Prop where
 rd:Mc w S x.A (x.ns.flatMap ax.cells)
 len:x.ns.length<=1048576
 kids:∀y∈x.ns,okS S d y w
def ns0:oL:=⟨none,0,[]⟩
structure nO where
 type:Int
 g:oL
def nO.cells (x:nO):List Value:=[.int .i64 x.type,x.g.val]
structure uT where
 branch:Int
 cl:oL
 bA:Option Addr
 bc:Nat
 bars:List nO
def uT.cells (x:uT):List Value:=[.int .i64 x.branch,x.cl.val,.slice x.bA x.bars.length x.bc]
structure pz where
 parent:Int
 type:Int
 many:Bool
 window:Int
 bA:Option Addr
 bc:Nat
 bars:List nO
 lv:oL
 gd:oL
 eA:Option Addr
 ec:Nat
 ends:List uT
def pz.cells (x:pz):List Value:=[.int .i64 x.parent,.int .i64 x.type,.bool x.many,.int .i64 x.window,.slice x.bA x.bars.length x.bc,x.lv.val,x.gd.val,.slice x.eA x.ends.length x.ec]
theorem yI (x:pz):x.cells.length=8:=rfl
structure tu (S:Nat->Prop) (d:Nat) (A:Option Addr) (l:List nO) (w:World):Prop where
 rd:Mc w S A (l.flatMap nO.cells)
 each:∀b∈l,b.g.ok S d w
structure DY (S:Nat->Prop) (d:Nat) (e:uT) (w:World):Prop where
 cl:e.cl.ok S d w
 bars:tu S d e.bA e.bars w
structure Ls (S:Nat->Prop) (d:Nat) (s:pz) (w:World):Prop where
 bars:tu S d s.bA s.bars w
 lv:s.lv.ok S d w
 gd:s.gd.ok S d w
 ends:Mc w S s.eA (s.ends.flatMap uT.cells)
 each:∀e∈s.ends,DY S d e w
section
variable {S S':Nat->Prop} {d:Nat} {w w':World}
theorem oL.ok.keep {x:oL} (h:x.ok S d w) (hk:∀b,S b->b<w.heap.size->S' b/\b<w'.heap.size/\w'.heap[b]? =w.heap[b]?):x.ok S' d w':=⟨h.rd.keep hk,h.len,fun y hy=>(h.kids y hy).keep hk⟩
theorem tu.keep {A:Option Addr} {l:List nO} (h:tu S d A l w) (hk:∀b,S b->b<w.heap.size->S' b/\b<w'.heap.size/\w'.heap[b]? =w.heap[b]?):tu S' d A l w':=⟨h.rd.keep hk,fun b hb=>(h.each b hb).keep hk⟩
theorem DY.keep {e:uT} (h:DY S d e w) (hk:∀b,S b->b<w.heap.size->S' b/\b<w'.heap.size/\w'.heap[b]? =w.heap[b]?):DY S' d e w':=⟨h.cl.keep hk,h.bars.keep hk⟩
theorem Ls.keep {s:pz} (h:Ls S d s w) (hk:∀b,S b->b<w.heap.size->S' b/\b<w'.heap.size/\w'.heap[b]? =w.heap[b]?):Ls S' d s w':=⟨h.bars.keep hk,h.lv.keep hk,h.gd.keep hk,h.ends.keep hk,fun e he=>(h.each e he).keep hk⟩
end
theorem DZ (S:Nat->Prop) (d:Nat) (w:World):ns0.ok S d w:=⟨.inl rfl,by simp[ns0],fun y hy=>absurd hy (by simp[ns0])⟩
structure Tj where
 type:Int
 gs:List T
structure EndT where
 branch:Int
 cs:List T
 bars:List Tj
structure UI where
 parent:Int
 type:Int
 many:Bool
 window:Int
 bars:List Tj
 lv:List T
 gs:List T
 ends:List EndT
def UJ (d:Nat) (x:oL):List T:=x.ns.map (bV d)
def barT (d:Nat) (x:nO):Tj:=⟨x.type,UJ d x.g⟩
def Xo (d:Nat) (x:uT):EndT:=⟨x.branch,UJ d x.cl,x.bars.map (barT d)⟩
def rP (d:Nat) (x:pz):UI:=⟨x.parent,x.type,x.many,x.window,x.bars.map (barT d),UJ d x.lv,UJ d x.gd,x.ends.map (Xo d)⟩
structure Yf where
 parent:Int
 bars:List Tj
 lv:List T
 dK:List UI
def qx (win:Int) (p:oU) (x:Yf):Option Yf:=
 if p.form=3 then some {x with bars:=x.bars++[⟨p.type,p.gs⟩]}
 else if x.dK.length=32 then none
 else some ⟨x.dK.length,[],p.cs,x.dK++[⟨x.parent,p.type,p.form==2,win,x.bars,x.lv,p.gs,[]⟩]⟩
def mM (win:Int):List oU->Yf->Option Yf
 |[],x=>some x
 |p::l,x=>match qx win p x with
  |none=>none
  |some y=>mM win l y
def Gt (id:Int) (x:Yf):List UI:=if 0<=x.parent then x.dK.modify x.parent.toNat (fun s=>{s with ends:=s.ends++[⟨id,x.lv,x.bars⟩]})else x.dK
def uU:List qj->List UI->Option (List UI)
 |[],dK=>some dK
 |b::l,dK=>match mM b.window b.ps ⟨-1,[],[],dK⟩with
  |none=>none
  |some y=>uU l (Gt b.id y)
structure uV where
 aS:Int
 keys:List Int
 states:List UI
def iL (p:lW):uV×Int:=
 match uU p.branches []with
 |none=>(⟨0,[],[]⟩,4)
 |some dK=>(⟨p.aS,p.keys,dK⟩,0)
structure UK (d:Nat) (v:Value) (ns:List ax) (w:World):Prop where
 ex:∃(A:Option Addr) (c:Nat),v=.slice A ns.length c/\Rd w w.heap.size A (ns.flatMap ax.cells)
 len:ns.length<=1048576
 kids:∀y∈ns,yB d y w w.heap.size
structure PtI (D:Nat) (p:bW) (w:World):Prop where
 g:UK D p.g p.gs w
 c:UK D p.c p.cs w
structure Yg (D:Nat) (kv bv:Value) (ks:List Int) (bs:List fB) (w:World):Prop where
 keys:∃A c,kv=.slice A ks.length c/\Rd w w.heap.size A (aI ks)
 dC:∃A c,bv=.slice A bs.length c/\Rd w w.heap.size A (bs.flatMap fB.cells)
 prt:∀b∈bs,∃A c,b.parts=.slice A b.ps.length c/\Rd w w.heap.size A (b.ps.flatMap bW.cells)
 Bo:∀b∈bs,∀p∈b.ps,PtI D p w
 klen:ks.length<=17592186044416
 blen:bs.length<=17592186044416
 plen:∀b∈bs,b.ps.length<=1000000
theorem Rd.oldR {w w':World} {A:Option Addr} {xs:List Value} (h:Rd w w.heap.size A xs) (hb:Below w.heap.size w w'):Rd w' w'.heap.size A xs:=(h.below hb).more hb.size
theorem UK.old {d:Nat} {v:Value} {ns:List ax} {w w':World} (h:UK d v ns w) (hb:Below w.heap.size w w'):UK d v ns w':=by
 obtain⟨A,c,h1,h2⟩:=h.ex;exact⟨⟨A,c,h1,h2.oldR hb⟩,h.len,fun y hy=>(h.kids y hy).old hb⟩
theorem Yg.old {D:Nat} {kv bv:Value} {ks:List Int} {bs:List fB} {w w':World} (h:Yg D kv bv ks bs w) (hb:Below w.heap.size w w'):Yg D kv bv ks bs w':=by
 obtain⟨A,c,h1,h2⟩:=h.keys;obtain⟨A',c',h3,h4⟩:=h.dC;refine⟨⟨A,c,h1,h2.oldR hb⟩,⟨A',c',h3,h4.oldR hb⟩,fun b hb'=>?_,fun b hb' p hp=>⟨(h.Bo b hb' p hp).g.old hb,(h.Bo b hb' p hp).c.old hb⟩,h.klen,h.blen,h.plen⟩;obtain⟨A2,c2,h5,h6⟩:=h.prt b hb';exact⟨A2,c2,h5,h6.oldR hb⟩
def kM (B1:Nat) (v1 v2:Value) (q:Nat):Prop:=B1<=q/\some q≠v1.ownBlock/\some q≠v2.ownBlock
structure tV (B1 D ga gr:Nat) (bg:Int) (kv:Value) (ks:List Int) (As:Option Addr) (ns cs:Nat) (dK:List pz) (Ab:Option Addr) (nb cb:Nat) (bars:List nO) (lv:oL) (w W:World):Prop where
 ka:Bk W ga 34 #[.int .i64 bg,kv,.slice As ns cs]
 kr:Bk W gr 34 #[.int .i64 0,.slice none 0 0,.slice none 0 0]
 UL:W.ownsRow w.heap.size 3 1 kv ks.length (aI ks)
 own:W.ownsRow B1 44 8 (.slice As ns cs) ns (dK.flatMap pz.cells)
 bar:W.ownsRow B1 52 2 (.slice Ab nb cb) nb (bars.flatMap nO.cells)
 okb:∀b∈bars,b.g.ok (kM B1 (.slice As ns cs) (.slice Ab nb cb)) D W
 lvo:lv.ok (kM B1 (.slice As ns cs) (.slice Ab nb cb)) D W
 oks:∀st∈dK,Ls (kM B1 (.slice As ns cs) (.slice Ab nb cb)) D st W
 bel:Below w.heap.size w W
 sz:B1<=W.heap.size
section
variable {B1 D ga gr:Nat} {bg:Int} {kv:Value} {ks:List Int} {As:Option Addr} {ns cs:Nat} {dK:List pz} {Ab:Option Addr} {nb cb:Nat} {bars:List nO} {lv:oL} {w W W':World}
theorem tV.old (h:tV B1 D ga gr bg kv ks As ns cs dK Ab nb cb bars lv w W) (hb:Below W.heap.size W W'):tV B1 D ga gr bg kv ks As ns cs dK Ab nb cb bars lv w W':=
 have hk:∀q,kM B1 (.slice As ns cs) (.slice Ab nb cb) q->q<W.heap.size->kM B1 (.slice As ns cs) (.slice Ab nb cb) q/\q<W'.heap.size/\W'.heap[q]? =W.heap[q]? :=fun q hS hlt=>⟨hS,Nat.lt_of_lt_of_le hlt hb.size,hb.block q hlt⟩
 ⟨h.ka.old hb,h.kr.old hb,aP h.UL hb,aP h.own hb,aP h.bar hb,fun b hb'=>(h.okb b hb').keep hk,h.lvo.keep hk,fun st hs=>(h.oks st hs).keep hk,h.bel.trans (hb.mono h.bel.size),Nat.le_trans h.sz hb.size⟩
theorem Tm {d Wn:Nat} {A:Option Addr} {n c:Nat} {l:List ax} {v1 v2:Value} (hl:l.length=n) (hn:n<=1048576) (hown:W.ownsRow Wn 76 7 (.slice A n c) n (l.flatMap ax.cells)) (hok:∀y∈l,okS (fun b=>Wn<=b/\some b≠(Value.slice A n c).ownBlock) d y W) (hB:B1<=Wn) (h1:∀k,v1.ownBlock=some k->k<Wn) (h2:∀k,v2.ownBlock=some k->k<Wn):oL.ok (kM B1 v1 v2) d ⟨A,c,l⟩ W:=by
 subst hl;have hs:∀q,Wn<=q->kM B1 v1 v2 q:=fun q hq=>⟨by omega,fun e=>by have:=h1 q e.symm;omega,fun e=>by have:=h2 q e.symm;omega⟩
 exact⟨(Dz hown).keep fun q hq hlt=>⟨hs q hq,hlt,rfl⟩,hn,fun y hy=>(hok y hy).keep fun q hq hlt=>⟨hs q hq.1,hlt,rfl⟩⟩
theorem tV.bar1 (h : tV B1 D ga gr bg kv ks As ns cs dK Ab nb cb bars lv w W) (hga : ga < B1) (hgr : gr < B1) (hwB : w.heap.size ≤ B1) {b : nO} (hb : b.g.ok (kM B1 (.slice As ns cs) (.slice Ab nb cb)) D W) {A' : Option Addr} {c' : Nat} (hown : W'.ownsRow B1 52 2 (.slice A' (nb + 1) c') (nb + 1) (bars.flatMap nO.cells ++ b.cells)) (hg : W.grownBy W' (Value.slice Ab nb cb).ownBlock)
  (hwh:(Value.slice A' (nb+1) c').ownBlock=(Value.slice Ab nb cb).ownBlock\/(Value.slice A' (nb+1) c').ownBlock=some W.heap.size):tV B1 D ga gr bg kv ks As ns cs dK A' (nb+1) c' (bars++[b]) lv w W':=by
 have lo:∀q,q<B1->some q≠(Value.slice Ab nb cb).ownBlock:=fun q hq e=>by have:=(h.bar.lt q e.symm).1;omega
 have hk:∀q,kM B1 (.slice As ns cs) (.slice Ab nb cb) q->q<W.heap.size->kM B1 (.slice As ns cs) (.slice A' (nb+1) c') q/\q<W'.heap.size/\W'.heap[q]? =W.heap[q]? :=fun q hS hlt=>⟨⟨hS.1,hS.2.1,by
  rcases hwh with e|e
  ·rw[e];exact hS.2.2
  ·rw[e];intro he;injection he with he;omega⟩,by have:=hg.size;omega,hg.block q hlt hS.2.2⟩
 refine⟨h.ka.grown hg (lo ga hga),h.kr.grown hg (lo gr hgr),dB h.UL h.bar (by decide) hg,dB h.own h.bar (by decide) hg,by rw[List.flatMap_append];simpa using hown,fun x hx=>?_,h.lvo.keep hk,fun st hs=>(h.oks st hs).keep hk,h.bel.grown hg h.bel.size (fun k hk=>by have:=(h.bar.lt k hk).1;omega),by have:=hg.size;have:=h.sz;omega⟩;rcases List.mem_append.1 hx with hx|hx
 ·exact(h.okb x hx).keep hk
 ·simp only[List.mem_cons,List.not_mem_nil,or_false]at hx;subst hx;exact hb.keep hk
theorem tV.st1 (h : tV B1 D ga gr bg kv ks As ns cs dK Ab nb cb bars lv w W) (hga : ga < B1) (hgr : gr < B1) (hgg : gr ≠ ga) (hgw : w.heap.size ≤ ga) (hwB : w.heap.size ≤ B1) (hlb : bars.length = nb) {pa ty win : Int} {many : Bool} {gd : oL} (hgd : gd.ok (kM B1 (.slice As ns cs) (.slice Ab nb cb)) D W) {A' : Option Addr} {c' : Nat}
  (hown:W'.ownsRow B1 44 8 (.slice A' (ns+1) c') (ns+1) (dK.flatMap pz.cells++[.int .i64 pa,.int .i64 ty,.bool many,.int .i64 win,.slice Ab nb cb,lv.val,gd.val,.slice none 0 0])) (hg:W.grownBy W' (Value.slice As ns cs).ownBlock)
  (hwh:(Value.slice A' (ns+1) c').ownBlock=(Value.slice As ns cs).ownBlock\/(Value.slice A' (ns+1) c').ownBlock=some W.heap.size):tV B1 D ga gr bg kv ks A' (ns+1) c' (dK++[⟨pa,ty,many,win,Ab,cb,bars,lv,gd,none,0,[]⟩]) none 0 0 [] ns0 w (W'.setCell ⟨ga,2,none⟩ (.slice A' (ns+1) c')):=by
 subst hlb;have lo:∀q,q<B1->some q≠(Value.slice As ns cs).ownBlock:=fun q hq e=>by have:=(h.own.lt q e.symm).1;omega
 have lo':∀q,q<B1->(Value.slice A' (ns+1) c').ownBlock≠some q:=fun q hq e=>by have:=(hown.lt q e).1;omega
 have hkp:∀q,B1<=q->some q≠(Value.slice As ns cs).ownBlock->q<W.heap.size->kM B1 (.slice A' (ns+1) c') (.slice none 0 0) q/\q<(W'.setCell ⟨ga,2,none⟩ (.slice A' (ns+1) c')).heap.size/\(W'.setCell ⟨ga,2,none⟩ (.slice A' (ns+1) c')).heap[q]? =W.heap[q]? :=fun q h1 h2 hlt=>⟨⟨h1,by
  rcases hwh with e|e
  ·rw[e];exact h2
  ·rw[e];intro he;injection he with he;omega,by simp[Value.ownBlock]⟩,by have:=hg.size;simp;omega,(Below.heap_setCell W' _ _ q (by show q≠ga;omega)).trans (hg.block q hlt h2)⟩
 have hk:∀q,kM B1 (.slice As ns cs) (.slice Ab bars.length cb) q->q<W.heap.size->kM B1 (.slice A' (ns+1) c') (.slice none 0 0) q/\q<(W'.setCell ⟨ga,2,none⟩ (.slice A' (ns+1) c')).heap.size/\(W'.setCell ⟨ga,2,none⟩ (.slice A' (ns+1) c')).heap[q]? =W.heap[q]? :=fun q hS hlt=>hkp q hS.1 hS.2.1 hlt
 have hbr:tu (kM B1 (.slice A' (ns+1) c') (.slice none 0 0)) D Ab bars (W'.setCell ⟨ga,2,none⟩ (.slice A' (ns+1) c')):=by
  refine⟨?_,fun b hb=>(h.okb b hb).keep hk⟩
  have hrd:Mc W (fun q=>B1<=q/\some q≠(Value.slice As ns cs).ownBlock) Ab (bars.flatMap nO.cells):=by
   rcases h.bar.2 with⟨_,h0⟩|⟨g,cap,cur,hv,hb0,hh,_⟩
   ·have:bars=[]:=List.eq_nil_of_length_eq_zero h0;subst this;exact .inl rfl
   ·have hA:Ab=some ⟨g,0,none⟩:=by injection hv
    subst hA;have hk':Bk W g 52 cur:=hh;have hrd:=bP h.bar;rcases hrd with h0|⟨b,o,hA,hlt,hc⟩
    ·exact .inl h0
    ·injection hA with hA
     injection hA with hA1 hA2
     subst hA1;subst hA2;exact .inr ⟨g,0,rfl,⟨hb0,aF h.own hk' (by decide)⟩,hlt,hc⟩
  exact hrd.keep fun q hq hlt=>hkp q hq.1 hq.2 hlt
 refine⟨(h.ka.grown hg (lo ga hga)).put 2 _,(h.kr.grown hg (lo gr hgr)).far (by exact hgg) _,?_,?_,World.ownsRow_nil _ _ _ _,fun b hb=>absurd hb (by simp),DZ _ _ _,fun st hs=>?_,?_,by have:=hg.size;have:=h.sz;simp;omega⟩
 ·exact mg (dB h.UL h.own (by decide) hg) (h.ka.grown hg (lo ga hga)) (by decide) 2 _
 ·rw[List.flatMap_append];have:=ownsRow_setCell_other hown (lo' ga hga) (.slice A' (ns+1) c') (a:=⟨ga,2,none⟩)
  simpa[pz.cells]using this
 ·rcases List.mem_append.1 hs with hs|hs
  ·exact(h.oks st hs).keep hk
  ·simp only[List.mem_cons,List.not_mem_nil,or_false]at hs;subst hs;exact⟨hbr,h.lvo.keep hk,hgd.keep hk,.inl rfl,fun e he=>absurd he (by simp)⟩
 ·exact(h.bel.grown hg h.bel.size (fun k hk=>by have:=(h.own.lt k hk).1;omega)).setCell hgw _
theorem tV.lv1 (h:tV B1 D ga gr bg kv ks As ns cs dK none 0 0 [] ns0 w W) {l:oL} (hl:l.ok (kM B1 (.slice As ns cs) (.slice none 0 0)) D W):tV B1 D ga gr bg kv ks As ns cs dK none 0 0 [] l w W:=
 ⟨h.ka,h.kr,h.UL,h.own,h.bar,h.okb,hl,h.oks,h.bel,h.sz⟩
theorem tV.reset (h:tV B1 D ga gr bg kv ks As ns cs dK Ab nb cb bars lv w W):tV B1 D ga gr bg kv ks As ns cs dK none 0 0 [] ns0 w W:=
 ⟨h.ka,h.kr,h.UL,h.own,World.ownsRow_nil _ _ _ _,fun b hb=>absurd hb (by simp),DZ _ _ _,fun st hs=>(h.oks st hs).keep fun q hq hlt=>⟨⟨hq.1,hq.2.1,by simp[Value.ownBlock]⟩,hlt,rfl⟩,h.bel,h.sz⟩
theorem tV.end1 (h : tV B1 D ga gr bg kv ks As ns cs dK Ab nb cb bars lv w W) (hwB : w.heap.size ≤ B1) (hlb : bars.length = nb) {s1 s2 : List pz} {st : pz} (hsp : dK = s1 ++ st :: s2) {gS : Nat} (QI : (Value.slice As ns cs).ownBlock = some gS) (hgaS : ga < B1) (hgrS : gr < B1) {id : Int} {ge ce : Nat}
  (hend:W.ownsRow B1 55 3 (.slice (some ⟨ge,0,none⟩) 1 ce) 1 [.int .i64 id,lv.val,.slice Ab nb cb]):
  tV B1 D ga gr bg kv ks As ns cs (s1++{st with eA:=some ⟨ge,0,none⟩,ec:=ce,ends:=[⟨id,lv,Ab,cb,bars⟩]}::s2) none 0 0 [] ns0 w (W.setCell ⟨gS,s1.length*8+7,none⟩ (.slice (some ⟨ge,0,none⟩) 1 ce)):=by
 subst hlb;have hgS1:=(h.own.lt gS QI).1
 have far:∀{e k n:Nat} {v:Value} {xs:List Value} {B:Nat},44≠e->W.ownsRow B e k v n xs->(W.setCell ⟨gS,s1.length*8+7,none⟩ (.slice (some ⟨ge,0,none⟩) 1 ce)).ownsRow B e k v n xs:=fun {e k n v xs B} hne hr=>ownsRow_setCell_other hr (fun e'=>by
  rcases own_ne h.own hr hne with e0|e0
  ·rw[QI]at e0;cases e0
  ·exact e0 (QI.trans e'.symm)) _
 have hkp:∀q,B1<=q->some q≠(Value.slice As ns cs).ownBlock->q<W.heap.size->kM B1 (.slice As ns cs) (.slice none 0 0) q/\q<(W.setCell ⟨gS,s1.length*8+7,none⟩ (.slice (some ⟨ge,0,none⟩) 1 ce)).heap.size/\(W.setCell ⟨gS,s1.length*8+7,none⟩ (.slice (some ⟨ge,0,none⟩) 1 ce)).heap[q]? =W.heap[q]? :=fun q h1 h2 hlt=>⟨⟨h1,h2,by simp[Value.ownBlock]⟩,by simpa using hlt,Below.heap_setCell W _ _ q (by show q≠gS;intro e;exact h2 (by rw[QI,e]))⟩
 have hk:∀q,kM B1 (.slice As ns cs) (.slice Ab bars.length cb) q->q<W.heap.size->kM B1 (.slice As ns cs) (.slice none 0 0) q/\q<(W.setCell ⟨gS,s1.length*8+7,none⟩ (.slice (some ⟨ge,0,none⟩) 1 ce)).heap.size/\(W.setCell ⟨gS,s1.length*8+7,none⟩ (.slice (some ⟨ge,0,none⟩) 1 ce)).heap[q]? =W.heap[q]? :=fun q hS hlt=>hkp q hS.1 hS.2.1 hlt
 have rowS:∀{e k n c:Nat} {A:Option Addr} {xs:List Value},44≠e->W.ownsRow B1 e k (.slice A n c) n xs->Mc W (fun q=>B1<=q/\some q≠(Value.slice As ns cs).ownBlock) A xs:=fun {e k n c A xs} hne hr=>by
  have hrd:=bP hr;rcases hr.2 with⟨hv,h0⟩|⟨g,cap,cur,hv,hb0,hh,_⟩
  ·refine .inl ?_;have:=hr.1;rw[h0,Nat.zero_mul]at this;exact List.eq_nil_of_length_eq_zero this
  ·have hA:A=some ⟨g,0,none⟩:=by injection hv
   subst hA;have hk':Bk W g e cur:=hh;rcases hrd with h0|⟨b,o,hA,hlt,hc⟩
   ·exact .inl h0
   ·injection hA with hA
    injection hA with hA1 hA2
    subst hA1;subst hA2;exact .inr ⟨g,0,rfl,⟨hb0,aF h.own hk' hne⟩,hlt,hc⟩
 have hbr:tu (kM B1 (.slice As ns cs) (.slice none 0 0)) D Ab bars (W.setCell ⟨gS,s1.length*8+7,none⟩ (.slice (some ⟨ge,0,none⟩) 1 ce)):=
  ⟨(rowS (by decide) h.bar).keep fun q hq hlt=>hkp q hq.1 hq.2 hlt,fun b hb=>(h.okb b hb).keep hk⟩
 have hst:st∈dK:=by rw[hsp];simp
 refine⟨h.ka.far (by show ga≠gS;omega) _,h.kr.far (by show gr≠gS;omega) _,far (by decide) h.UL,?_,World.ownsRow_nil _ _ _ _,fun b hb=>absurd hb (by simp),DZ _ _ _,fun x hx=>?_,h.bel.setCell (by show w.heap.size<=gS;omega) _,by simpa using h.sz⟩
 ·have h0:=lu h.own QI (s1.length*8+7) (by rw[nK _ _ yI,hsp];simp;omega) (.slice (some ⟨ge,0,none⟩) 1 ce)
  have e2:(s1++{st with eA:=some ⟨ge,0,none⟩,ec:=ce,ends:=[⟨id,lv,Ab,cb,bars⟩]}::s2).flatMap pz.cells=(dK.flatMap pz.cells).set (s1.length*8+7) (.slice (some ⟨ge,0,none⟩) 1 ce):=by
   rw[hsp];exact(ql pz.cells 8 yI s1 st {st with eA:=some ⟨ge,0,none⟩,ec:=ce,ends:=[⟨id,lv,Ab,cb,bars⟩]} s2 7 (.slice (some ⟨ge,0,none⟩) 1 ce) (by decide) rfl).symm
  rw[e2];exact h0
 ·rcases List.mem_append.1 hx with hx|hx
  ·exact(h.oks x (by rw[hsp];simp[hx])).keep hk
  ·rcases List.mem_cons.1 hx with rfl|hx
   ·have ho:=h.oks st hst;refine⟨ho.bars.keep hk,ho.lv.keep hk,ho.gd.keep hk,(rowS (by decide) hend).keep fun q hq hlt=>hkp q hq.1 hq.2 hlt,fun e he=>?_⟩;simp only[List.mem_cons,List.not_mem_nil,or_false]at he;subst he;exact⟨h.lvo.keep hk,hbr⟩
   ·exact(h.oks x (by rw[hsp];simp[hx])).keep hk
end
end Go.Proofs.Ytbjnhllkdilpfaa
