/- Part 9 of the proof. No conditions. -/
import Derived.Test.YtbjnhllkdilpfaaZb08
namespace Go.Proofs.Ytbjnhllkdilpfaa
open Go.RowKit
set_option linter.unusedSimpArgs false
set_option linter.unusedVariables false
set_option maxHeartbeats 16000000
set_option maxRecDepth 100000
def dL (L:List aA):Prop:=∃M e,L=M++[e]/\e.kind=0
structure gm (L:List aA) (s:PS):Prop where
 lt:s.i<L.length
 opn:s.opn<=s.i
structure bn (L:List aA) (s s':PS):Prop where
 ok:gm L s'
 le:s.i<=s'.i
 opn:s'.opn=s.opn
theorem bn.refl {L:List aA} {s:PS} (h:gm L s):bn L s s:=⟨h,Nat.le_refl _,rfl⟩
theorem bn.trans {L:List aA} {s s' s'':PS} (h:bn L s s') (h2:bn L s' s''):bn L s s'':=⟨h2.ok,Nat.le_trans h.le h2.le,h2.opn.trans h.opn⟩
section
variable {L:List aA} {s:PS}
theorem ED (he:dL L) (h:s.i<L.length) (hk:(bf L s).kind≠0):s.i+1<L.length:=by
 obtain⟨M,e,rfl,h0⟩:=he;rcases Nat.lt_or_ge (s.i+1) (M++[e]).length with h1|h1
 ·exact h1
 ·exfalso
  apply hk
  have hi:s.i=M.length:=by simp at h h1;omega
  rw[qE h];simp only[hi];simp[h0]
theorem bG {x:Str} (h:eQ L s x=true):(bf L s).kind≠0:=by
 rw[yl]at h;simp at h;omega
theorem bn.next (he:dL L) (h:gm L s) (hk:(bf L s).kind≠0):bn L s (aO s):=⟨⟨ED he h.lt hk,by show s.opn<=s.i+1;have:=h.opn;omega⟩,Nat.le_succ _,rfl⟩
theorem bn.fail (e:Nat) (h:gm L s):bn L s (aW L e s):=by
 unfold aW
 split
 ·exact⟨⟨h.lt,h.opn⟩,Nat.le_refl _,rfl⟩
 ·exact bn.refl h
theorem bn.need (he:dL L) (w:Str) (h:gm L s):bn L s (ay L w s):=by
 unfold ay
 split
 ·exact bn.refl h
 ·split
  ·rename_i hi
   exact bn.next he h (bG hi)
  ·exact bn.fail _ h
theorem bn.name (he:dL L) (h:gm L s):bn L s (fZ L s).2:=by
 unfold fZ
 split
 ·exact bn.refl h
 ·split
  ·rename_i hk
   exact bn.next he h (by rw[hk];decide)
  ·exact bn.fail _ h
theorem BJ (L:List aA) (s:PS):fE L s=if(ay L [46] (fZ L s).2).err=0/\eQ L (ay L [46] (fZ L s).2) iq=true then((fZ L s).1,iq,aO (ay L [46] (fZ L s).2))else((fZ L s).1,fZ L (ay L [46] (fZ L s).2)):=rfl
theorem bn.field (he:dL L) (h:gm L s):bn L s (fE L s).2.2:=by
 rw[BJ];have h1:=bn.name he h;have h2:=h1.trans (bn.need he [46] h1.ok)
 split
 ·rename_i hi
  exact h2.trans (bn.next he h2.ok (bG hi.2))
 ·exact h2.trans (bn.name he h2.ok)
theorem iH (he:dL L) (h:gm L s) (hk:(bf L s).kind≠0):gm L (aQ L s)/\(aQ L s).i=s.i+1/\(aQ L s).opn=s.opn+1:=by
 have h1:=ED he h.lt hk;have h2:=h.opn;have hf:(aW L 14 s).i=s.i/\(aW L 14 s).opn=s.opn:=by unfold aW;split<;>exact⟨rfl,rfl⟩
 unfold aQ
 split
 ·exact⟨⟨by show(aW L 14 s).i+1<_;rw[hf.1];exact h1,by show(aW L 14 s).opn+1<=(aW L 14 s).i+1;rw[hf.1,hf.2];omega⟩,by show(aW L 14 s).i+1=_;rw[hf.1],by show(aW L 14 s).opn+1=_;rw[hf.2]⟩
 ·exact⟨⟨h1,by show s.opn+1<=s.i+1;omega⟩,rfl,rfl⟩
theorem bn.shut {s':PS} (he:dL L) (h:gm L s) (hk:(bf L s).kind≠0) (hg:bn L (aQ L s) s'):bn L s (pI s'):=by
 obtain⟨h1,h2,h3⟩:=iH he h hk;have h4:=hg.opn;have h5:=hg.le;exact⟨⟨hg.ok.lt,by show s'.opn-1<=s'.i;have:=hg.ok.opn;omega⟩,by show s.i<=s'.i;omega,by show s'.opn-1=s.opn;omega⟩
end
section
variable (b:Nat) (t:TypeId) (rest:List Value) (L:List aA) (LA:Option Addr) (Lc:Nat) (s:PS) (w:World)
theorem BK (h : di b t rest L LA Lc s w) (he : dL L) (hi : gm L s) (hL : L.length ≤ 4001) :
  Calls Try.prog 99 #[.pointer (some ⟨b,0,none⟩)] w fun r w'=>r=.returned (.tuple #[.string (bytes (fE L s).1),.string (bytes (fE L s).2.1)])/\Steps b t rest L LA Lc (fE L s).2.2 w w':=by
 have g1:=bn.name he hi;have g2:=g1.trans (bn.need he [46] g1.ok);have xJ:=zH (name_any b t rest L LA Lc s w h hi.lt hL)
 have lX:Hid (∀W:World,di b t rest L LA Lc (fZ L s).2 W->Calls Try.prog 37 #[.pointer (some ⟨b,0,none⟩),.string ⟨#[46]⟩] W fun r w'=>r=.returned (.tuple #[])/\Steps b t rest L LA Lc (ay L [46] (fZ L s).2) W w'):=zH fun W h=>by
  have:=fM b t rest L LA Lc (fZ L s).2 W ⟨#[46]⟩ h g1.ok.lt hL
  rwa [show(⟨#[46]⟩:ByteArray).toList=[46] by rw[ByteArray.toList_eq]]at this
 rw[BJ];generalize fZ L s=r1 at *;obtain⟨n1,s1⟩:=r1;simp only at *;generalize ay L [46] s1=s2 at *
 have HIS:Hid (∀W:World,di b t rest L LA Lc s2 W->Calls Try.prog 39 #[.pointer (some ⟨b,0,none⟩),.string ⟨#[84,73,77,69]⟩] W fun r w'=>r=.returned (.bool (eQ L s2 iq))/\Below W.heap.size W w'):=zH fun W h=>by
  have:=kL b t rest L LA Lc s2 W ⟨#[84,73,77,69]⟩ h g2.ok.lt hL
  rwa [show(⟨#[84,73,77,69]⟩:ByteArray).toList=iq by rw[ByteArray.toList_eq];rfl]at this
 have QR:Hid (∀W:World,di b t rest L LA Lc s2 W->Calls Try.prog 104 #[.pointer (some ⟨b,0,none⟩)] W fun r w'=>r=.returned (.string (bytes (fZ L s2).1))/\Steps b t rest L LA Lc (fZ L s2).2 W w'):=zH fun W h=>name_any b t rest L LA Lc s2 W h g2.ok.lt hL
 have hi2:=g2.ok.lt;clear h g1 g2 hi;have FIN:Hid (∀(n a:Str) (x:PS) (W:World),Steps b t rest L LA Lc x w W->((n,a,x)=(n,a,x))):=zH fun _ _ _ _ _=>rfl
 clear FIN
 by_cases h0:s2.err=0
 case neg=>
  have iQ:((s2.err:Int)==0)=false:=by rw[beq_eq_false_iff_ne];omega
  rw[if_neg (by simp[h0])];clear h0 HIS
  go_enter Try.func99,Try.ntmps99
  go_wp2_with fail
  refine xJ.out.mono ?_;rintro r w2 ⟨rfl,hs2,hg2⟩;go_wp2_with fail
  refine(lX.out _ hs2).mono ?_;rintro r w3 ⟨rfl,hs3,hg3⟩;have c3:=hs3.c3;have hg:=hg2.trans hg3;clear hs2 hg2 hg3 xJ lX;go_wp2_with fail
  refine(QR.out _ hs3).mono ?_;rintro r w4 ⟨rfl,hs4,hg4⟩;have hgg:=hg.trans hg4;clear hs3 hg4 QR c3 hg;go_wp2
  go_ret2
  exact⟨rfl,hs4,hgg⟩
 case pos=>
  have iQ:((s2.err:Int)==0)=true:=by rw[h0];rfl
  obtain⟨bi,hbi⟩:∃x,eQ L s2 iq=x:=⟨_,rfl⟩
  rw[hbi]at HIS⊢;clear hbi;cases bi
  ·as_aux_lemma=>
   rw[if_neg (by simp)];clear h0
   go_enter Try.func99,Try.ntmps99
   go_wp2_with fail
   refine xJ.out.mono ?_;rintro r w2 ⟨rfl,hs2,hg2⟩;go_wp2_with fail
   refine(lX.out _ hs2).mono ?_;rintro r w3 ⟨rfl,hs3,hg3⟩;have c3:=hs3.c3;have hg:=hg2.trans hg3;clear hs2 hg2 hg3 xJ lX;go_wp2_with fail
   refine(HIS.out _ hs3).mono ?_;rintro r w4 ⟨rfl,hb4⟩;have hs4:=hs3.old hb4;have hg4:=hg.trans (below_grown hb4 (some b));clear hs3 hb4 hg HIS c3;go_wp2_with fail
   refine(QR.out _ hs4).mono ?_;rintro r w5 ⟨rfl,hs5,hg5⟩;have hgg:=hg4.trans hg5;clear hs4 hg5 QR hg4;go_wp2
   go_ret2
   exact⟨rfl,hs5,hgg⟩
  ·as_aux_lemma=>
   rw[if_pos ⟨h0,rfl⟩];clear h0
   go_enter Try.func99,Try.ntmps99
   go_wp2_with fail
   refine xJ.out.mono ?_;rintro r w2 ⟨rfl,hs2,hg2⟩;go_wp2_with fail
   refine(lX.out _ hs2).mono ?_;rintro r w3 ⟨rfl,hs3,hg3⟩;have c3:=hs3.c3;have hg:=hg2.trans hg3;clear hs2 hg2 hg3 xJ lX QR;go_wp2_with fail
   refine(HIS.out _ hs3).mono ?_;rintro r w4 ⟨rfl,hb4⟩;have hs4:=hs3.old hb4;have hg4:=hg.trans (below_grown hb4 (some b));have d1:=hs4.c1;have f1:=hs4.fr 1;have hn:=step_next b t rest L LA Lc s2 w4 hs4;have hgg:=hg4.trans hn.grown;replace hn:=hn.st;clear hs3 hb4 hg HIS c3 hs4 hg4;go_wp2
   go_ret2
   exact⟨rfl,hn,hgg⟩
end
theorem ui {w0 w:World} {b g o:Nat} {v:Value} (h:w0.grownBy w (some b)) (hg:w0.heap.size<=g):w0.grownBy (w.setCell ⟨g,o,none⟩ v) (some b):=
 ⟨h.os,h.tape,h.output,by simpa using h.size,fun k hk hne=>(Below.heap_setCell w _ v k (by show k≠g;omega)).trans (h.block k hk hne)⟩
theorem Hq {w0 w:World} {b:Nat} (h:w0.grownBy w (some b)) (o:Obj):w0.grownBy (w.alloc o) (some b):=h.trans (below_grown (zR.alloc zL o) _)
theorem di.far {b g o:Nat} {t:TypeId} {rest:List Value} {L:List aA} {LA:Option Addr} {Lc:Nat} {s:PS} {w:World} (h:di b t rest L LA Lc s w) (hg:b<g) (v:Value):di b t rest L LA Lc s (w.setCell ⟨g,o,none⟩ v):=
 ⟨h.bk.far (p:=⟨g,o,none⟩) (by show b≠g;omega) v,h.rd.below ((Below.refl b w).setCell (p:=⟨g,o,none⟩) (Nat.le_of_lt hg) v)⟩
def iC (op n scale:Nat) (name attr:Str) (pos:Nat):List Value:=[.int .i64 op,.slice none 0 0,.int .i64 n,.int .i64 scale,.string (bytes name),.string (bytes attr),.int .i64 pos]
theorem yY (L:List aA) (pos i:Nat) (w:Str) (l:List Str) (op:Nat) (n a:Str) (s:PS):iU L pos i (w::l) (op,n,a,s)=iU L pos (i+1) l (if op=0/\eQ L s w=true then(25+i,MK L s i)else(op,n,a,s)):=rfl
theorem EE (L:List aA) (s:PS) (i:Nat):MK L s i=if i=0 then((fZ L (ay L [40] (aO s))).1,[],ay L [41] (fZ L (ay L [40] (aO s))).2)else((fE L (ay L [40] (aO s))).1,(fE L (ay L [40] (aO s))).2.1,ay L [41] (fE L (ay L [40] (aO s))).2.2):=by
 unfold MK
 split<;>rfl
theorem EF (w:World):Calls Try.prog 95 #[] w fun e w'=>∃g,e=.returned (.slice (some ⟨g,0,none⟩) 7 7)/\(∀k (h:k<je.length),w'.cell? ⟨g,k,none⟩=some (.string (bytes je[k])))/\w.heap.size<=g/\g<w'.heap.size/\Below w.heap.size w w':=by
 go_enter Try.func95,Try.ntmps95
 go_wp2
 go_ret
 have y0:=Bk.new w 9 (je.map fun x=>Value.string (bytes x)).toArray;have Yx:Below w.heap.size w (w.alloc (.cells (je.map fun x=>Value.string (bytes x)).toArray 9)):=zR.alloc zL _;refine⟨w.heap.size,rfl,fun k h=>?_,Nat.le_refl _,y0.lt,Yx⟩;refine(y0.cell k).trans ?_;rw[List.getElem?_toArray,List.getElem?_map,List.getElem?_eq_getElem h];rfl
structure LW (b:Nat) (t:TypeId) (rest:List Value) (L:List aA) (LA:Option Addr) (Lc:Nat) (gx ga:Nat) (AL:List Str) (w w1:World) (cs:List Value) (x:PS) (W:World):Prop where
 st:di b t rest L LA Lc x W
 bk:Bk W gx 118 cs.toArray
 ag:∀k (h:k<AL.length),W.cell? ⟨ga,k,none⟩=some (.string (bytes AL[k]))
 fr:∀w0:World,w0.grownBy w (some b)->w0.heap.size<=gx->w0.grownBy W (some b)
 sz:w1.heap.size<=W.heap.size
 ws:w.heap.size<=w1.heap.size
 ot:∀k,k<w.heap.size->k≠b->k≠gx->W.heap[k]? =w.heap[k]?
section
variable {b:Nat} {t:TypeId} {rest:List Value} {L:List aA} {LA:Option Addr} {Lc gx ga:Nat} {AL:List Str} {w w1 W W':World} {cs:List Value} {x x':PS}
theorem LW.old (h:LW b t rest L LA Lc gx ga AL w w1 cs x W) (hga:ga<w1.heap.size) (hb:Below W.heap.size W W'):LW b t rest L LA Lc gx ga AL w w1 cs x W':=
 ⟨h.st.old hb,h.bk.old hb,fun k hk=>(hb.cell (p:=⟨ga,k,none⟩) (Nat.lt_of_lt_of_le hga h.sz)).trans (h.ag k hk),fun w0 h1 h2=>(h.fr w0 h1 h2).trans (below_grown hb _),Nat.le_trans h.sz hb.size,h.ws,fun k h1 h2 h3=>(hb.block k (by have:=h.sz;have:=h.ws;omega)).trans (h.ot k h1 h2 h3)⟩
theorem LW.steps (h:LW b t rest L LA Lc gx ga AL w w1 cs x W) (hga:ga<w1.heap.size) (hbx:b<gx) (hxa:gx<ga) (hs:Steps b t rest L LA Lc x' W W'):LW b t rest L LA Lc gx ga AL w w1 cs x' W':=
 ⟨hs.st,h.bk.grown hs.grown (by intro e;injection e with e;omega),fun k hk=>by
  have e:W'.heap[ga]? =W.heap[ga]? :=hs.grown.block ga (Nat.lt_of_lt_of_le hga h.sz) (by intro e;injection e with e;omega)
  rw[<-h.ag k hk];simp[World.cell?,e],fun w0 h1 h2=>(h.fr w0 h1 h2).trans hs.grown,Nat.le_trans h.sz hs.grown.size,h.ws,fun k h1 h2 h3=>(hs.grown.block k (by have:=h.sz;have:=h.ws;omega) (by intro e;injection e with e;omega)).trans (h.ot k h1 h2 h3)⟩
theorem LW.put (h:LW b t rest L LA Lc gx ga AL w w1 cs x W) (hbx:b<gx) (hxa:gx<ga) (i:Nat) (v:Value):LW b t rest L LA Lc gx ga AL w w1 (cs.set i v) x (W.setCell ⟨gx,i,none⟩ v):=
 ⟨h.st.far hbx v,by simpa using h.bk.put i v,fun k hk=>by
  have e:(W.setCell ⟨gx,i,none⟩ v).heap[ga]? =W.heap[ga]? :=Below.heap_setCell W _ v ga (by show ga≠gx;omega)
  rw[<-h.ag k hk];simp[World.cell?,e],fun w0 h1 h2=>ui (h.fr w0 h1 h2) h2,by simpa using h.sz,h.ws,fun k h1 h2 h3=>(Below.heap_setCell W _ v k (by show k≠gx;omega)).trans (h.ot k h1 h2 h3)⟩
end
section
variable (b:Nat) (t:TypeId) (rest:List Value) (L:List aA) (LA:Option Addr) (Lc:Nat) (s:PS) (w:World)
def NaOk (op:Nat) (n a:Str):Prop:=op=0->n=[]/\a=[]
def YG (gx pos:Nat) (r:au×PS) (w w':World):Prop:=
 ∃op n a,r.1=.leaf op 0 0 n a pos/\Bk w' gx 118 (iC op 0 0 n a pos).toArray/\di b t rest L LA Lc r.2 w'/\(∀w0:World,w0.grownBy w (some b)->w0.heap.size<=gx->w0.grownBy w' (some b))/\w.heap.size<=w'.heap.size/\∀k,k<w.heap.size->k≠b->k≠gx->w'.heap[k]? =w.heap[k]?
theorem AY (gx pos : Nat) (h : di b t rest L LA Lc s w) (he : dL L) (hi : gm L s) (hL : L.length ≤ 4001) (hx : Bk w gx 118 (iC 0 0 0 [] [] pos).toArray) (hbx : b < gx) :
  Calls Try.prog 100 #[.pointer (some ⟨b,0,none⟩),.pointer (some ⟨gx,0,none⟩)] w fun r w'=>r=.returned (.tuple #[])/\bn L s (dP L pos s).2/\YG b t rest L LA Lc gx pos (dP L pos s) w w':=by
 obtain⟨RES,hres⟩:∃RES,iU L pos 0 je (0,[],[],s)=RES:=⟨_,rfl⟩
 have hR:dP L pos s=(.leaf RES.1 0 0 RES.2.1 RES.2.2.1 pos,if RES.1=0 then aW L 13 RES.2.2.2 else RES.2.2.2):=by unfold dP;rw[hres]
 rw[hR];clear hR;have HR:Hid (iU L pos 0 (je.drop 0) (0,[],[],s)=RES):=zH hres;have HS:=zH h;have HX:=zH hx;have HI:=zH hi;clear hres h hx hi
 go_enter Try.func100,Try.ntmps100
 go_wp2_with fail
 refine(EF w).mono ?_;rintro r w1 ⟨ga,rfl,hga,hgb,hgc,hb1⟩;have hs1:=HS.out.old hb1;have hx1:=HX.out.old hb1;have hgx:=HX.out.lt;have HG:=zH hga;have hwl:=hb1.size;have hbl:=HS.out.bk.lt;have HB1:=zH hb1;clear hga hb1 HS HX;have hal:je.length=7:=rfl;generalize je=AL at *;go_wp2
 have hxa:gx<ga:=by omega
 go_loopw[8] (fun i wr=>∃(k op:Nat) (n a:Str) (x:PS),k<=7/\i=.int .i64 k/\Hid (iU L pos k (AL.drop k) (op,n,a,x)=RES)/\Hid (LW b t rest L LA Lc gx ga AL w w1 (iC op 0 0 n a pos) x wr)/\Hid (bn L s x)/\Hid (NaOk op n a)) (fun i _=>7-(intOf i).toNat)
 case atStart=>exact⟨0,0,[],[],s,Nat.zero_le _,rfl,HR,zH ⟨hs1,hx1,HG.out,fun w0 h1 _=>h1.trans (below_grown HB1.out _),Nat.le_refl _,hwl,fun k h1 _ _=>HB1.out.block k h1⟩,zH (bn.refl HI.out),zH (fun _=>⟨rfl,rfl⟩)⟩
 case round=>
  clear HR hs1 hx1 HG HB1 HI;obtain⟨k,op,n,a,x,hk,rfl,hrec,HV,yZ,Dj⟩:=hrel;obtain⟨wo,rfl⟩:∃wo:World,wo=wr:=⟨_,rfl⟩
  have hx0:wo.cell? ⟨gx,0,none⟩=some (.int .i64 op):=HV.out.bk.cell 0
  by_cases hlt:k<7
  ·have hkl:k<AL.length:=by omega
   have hck:=HV.out.ag k hkl;have hst:=hrec.out;rw[List.drop_eq_getElem_cons hkl,yY]at hst;obtain⟨X,hX⟩:∃X,bytes AL[k]=X:=⟨_,rfl⟩
   have Qk:X.toList=AL[k]:=by rw[<-hX,aJ]
   rw[hX]at hck;have XR:=fun W h=>kL b t rest L LA Lc x W X h yZ.out.ok.lt hL
   rw[Qk]at XR;clear hrec hX Qk;generalize AL[k]=wd at *
   by_cases h0:op=0
   case neg=>
    as_aux_lemma=>
    have iQ:((op:Int)==0)=false:=by rw[beq_eq_false_iff_ne];omega
    rw[if_neg (by simp[h0])]at hst;have HST:=zH hst;clear hst XR h0;go_wp2
    go_roundw
    case rel=>exact⟨k+1,op,n,a,x,by omega,by go_num,HST,HV,yZ,Dj⟩
    case measure=>simp[intOf];omega
   case pos=>
   subst h0;obtain⟨bi,hbi⟩:∃z,eQ L x wd=z:=⟨_,rfl⟩
   rw[hbi]at hst XR;have HIS:=zH XR;cases bi
   case false=>
    as_aux_lemma=>
    rw[if_neg (by simp)]at hst;have HST:=zH hst;clear hst XR hbi;go_wp2_with fail
    refine(HIS.out _ HV.out.st).mono ?_;rintro r w2 ⟨rfl,hb2⟩;have iM:=zH (HV.out.old hgc hb2);clear HV hb2 HIS hck hx0;go_wp2
    go_roundw
    case rel=>exact⟨k+1,0,n,a,x,by omega,by go_num,HST,iM,yZ,Dj⟩
    case measure=>simp[intOf];omega
   case true=>
   obtain⟨rfl,rfl⟩:=Dj.out rfl;clear Dj;rw[if_pos ⟨rfl,rfl⟩,EE]at hst;have hkd:=bG hbi;have g1:=yZ.out.trans (bn.next he yZ.out.ok hkd);have g2:=g1.trans (bn.need he [40] g1.ok)
   have lX:Hid (∀W:World,di b t rest L LA Lc (aO x) W->Calls Try.prog 37 #[.pointer (some ⟨b,0,none⟩),.string ⟨#[40]⟩] W fun r w'=>r=.returned (.tuple #[])/\Steps b t rest L LA Lc (ay L [40] (aO x)) W w'):=zH fun W h=>by
    have:=fM b t rest L LA Lc (aO x) W ⟨#[40]⟩ h g1.ok.lt hL
    rwa [show(⟨#[40]⟩:ByteArray).toList=[40] by rw[ByteArray.toList_eq]]at this
   have Hr:Hid (∀(y:PS),gm L y->∀W:World,di b t rest L LA Lc y W->Calls Try.prog 37 #[.pointer (some ⟨b,0,none⟩),.string ⟨#[41]⟩] W fun r w'=>r=.returned (.tuple #[])/\Steps b t rest L LA Lc (ay L [41] y) W w'):=zH fun y hy W h=>by
    have:=fM b t rest L LA Lc y W ⟨#[41]⟩ h hy.lt hL
    rwa [show(⟨#[41]⟩:ByteArray).toList=[41] by rw[ByteArray.toList_eq]]at this
   have rJ:Hid (∀(y:PS),gm L y->∀W:World,di b t rest L LA Lc y W->Calls Try.prog 104 #[.pointer (some ⟨b,0,none⟩)] W fun r w'=>r=.returned (.string (bytes (fZ L y).1))/\Steps b t rest L LA Lc (fZ L y).2 W w'):=zH fun y hy W h=>name_any b t rest L LA Lc y W h hy.lt hL
   have xK:Hid (∀(y:PS),gm L y->∀W:World,di b t rest L LA Lc y W->Calls Try.prog 99 #[.pointer (some ⟨b,0,none⟩)] W fun r w'=>r=.returned (.tuple #[.string (bytes (fE L y).1),.string (bytes (fE L y).2.1)])/\Steps b t rest L LA Lc (fE L y).2.2 W w'):=zH fun y hy W h=>BK b t rest L LA Lc y W h he hy hL
   have hi1:=yZ.out.ok.lt;clear XR hbi hkd;go_wp2_with fail
   refine(HIS.out _ HV.out.st).mono ?_;rintro r w2 ⟨rfl,hb2⟩;have hv2:=HV.out.old hgc hb2;have d1:=hv2.st.c1;have f1:=hv2.st.fr 1;have hv3:=hv2.steps hgc hbx hxa (step_next b t rest L LA Lc x w2 hv2.st);clear hb2 HV HIS hck hx0 hv2;go_wp2_with fail
   refine(lX.out _ hv3.st).mono ?_;rintro r w4 ⟨rfl,Nq⟩;have hv4:=hv3.steps hgc hbx hxa Nq;generalize ay L [40] (aO x)=x2 at *;have hcl:wo.heap.size<=w4.heap.size\/True:=.inr trivial;clear Nq hv3 lX d1 f1 g1 hcl;have e0:w4.cell? ⟨gx,0,none⟩=some (.int .i64 0):=hv4.bk.cell 0;have f0:=hv4.bk.frozen 0;have hv5:=hv4.put hbx hxa 0 (.int .i64 (25+(k:Int)))
   by_cases hk0:k=0
   case pos=>
    as_aux_lemma=>
    subst hk0;rw[if_pos rfl]at hst;go_wp2_with fail
    refine(rJ.out x2 g2.ok _ hv5.st).mono ?_;rintro r w6 ⟨rfl,y7⟩;have hv6:=hv5.steps hgc hbx hxa y7;have g3:=g2.trans (bn.name he g2.ok);generalize fZ L x2=rr at *;obtain⟨n6,x6⟩:=rr;simp only at *;clear y7 hv4 hv5 e0 f0 rJ xK;have e4:w6.cell? ⟨gx,4,none⟩=some (.string (bytes [])):=hv6.bk.cell 4;have f4:=hv6.bk.frozen 4;have hv7:=hv6.put hbx hxa 4 (.string (bytes n6));go_wp2_with fail
    refine(Hr.out x6 g3.ok _ hv7.st).mono ?_;rintro r w8 ⟨rfl,y8⟩;have YH:=hv7.steps hgc hbx hxa y8;have U7:=zH (g3.trans (bn.need he [41] g3.ok));have HST:=zH hst;have qH:Hid (LW b t rest L LA Lc gx ga AL w w1 (iC 25 0 0 n6 [] pos) (ay L [41] x6) w8):=zH YH;clear y8 hv6 hv7 YH e4 f4 hst g2 g3 Hr;generalize ay L [41] x6=x8 at *;go_wp2
    go_roundw
    case rel=>exact⟨1,25,n6,[],x8,by omega,by go_num,HST,qH,U7,zH (fun h=>by cases h)⟩
    case measure=>simp[intOf]
   case neg=>
    as_aux_lemma=>
    rw[if_neg hk0]at hst;have hk0I:((k:Int)==0)=false:=by rw[beq_eq_false_iff_ne];omega
    go_wp2_with fail
    refine(xK.out x2 g2.ok _ hv5.st).mono ?_;rintro r w6 ⟨rfl,y7⟩;have hv6:=hv5.steps hgc hbx hxa y7;have g3:=g2.trans (bn.field he g2.ok);generalize fE L x2=rr at *;obtain⟨n6,a6,x6⟩:=rr;simp only at *;clear y7 hv4 hv5 e0 f0 rJ xK;have e4:w6.cell? ⟨gx,4,none⟩=some (.string (bytes [])):=hv6.bk.cell 4;have f4:=hv6.bk.frozen 4;have hv7:=hv6.put hbx hxa 4 (.string (bytes n6));have e5:(w6.setCell ⟨gx,4,none⟩ (.string (bytes n6))).cell? ⟨gx,5,none⟩=some (.string (bytes [])):=hv7.bk.cell 5;have f5:=hv7.bk.frozen 5;have U8:=hv7.put hbx hxa 5 (.string (bytes a6));go_wp2_with fail
    refine(Hr.out x6 g3.ok _ U8.st).mono ?_;rintro r w8 ⟨rfl,y8⟩;have YH:=U8.steps hgc hbx hxa y8;have U7:=zH (g3.trans (bn.need he [41] g3.ok));have HST:=zH hst;have qH:Hid (LW b t rest L LA Lc gx ga AL w w1 (iC (25+k) 0 0 n6 a6 pos) (ay L [41] x6) w8):=zH YH;clear y8 hv6 hv7 U8 YH e4 f4 e5 f5 hst g2 g3 Hr;generalize ay L [41] x6=x8 at *;go_wp2
    go_roundw
    case rel=>exact⟨k+1,25+k,n6,a6,x8,by omega,by go_num,HST,qH,U7,zH (fun h=>by omega)⟩
    case measure=>simp[intOf];omega
  ·as_aux_lemma=>
   obtain rfl:k=7:=by omega
   have hst:=hrec.out;rw[List.drop_eq_nil_of_le (by omega)]at hst;have hst:(op,n,a,x)=RES:=hst;subst hst;clear hrec
   by_cases h0:op=0
   ·subst h0;have jG:Hid (∀W:World,di b t rest L LA Lc x W->Calls Try.prog 42 #[.pointer (some ⟨b,0,none⟩),.int .i64 13] W fun r w'=>r=.returned (.tuple #[])/\Steps b t rest L LA Lc (aW L 13 x) W w'):=zH fun W h=>ku b t rest L LA Lc x W 13 h yZ.out.ok.lt hL
    go_wp2_with fail
    refine(jG.out _ HV.out.st).mono ?_;rintro r w2 ⟨rfl,hs2⟩;have hv2:=HV.out.steps hgc hbx hxa hs2;clear HV jG hx0;go_wp2
    first|go_end0|refine bodyPost_end (v:=.tuple #[]) (by simp[results,Try.results100,go_sem]) rfl ?_
    exact⟨rfl,yZ.out.trans (bn.fail _ yZ.out.ok),0,n,a,rfl,hv2.bk,hv2.st,hv2.fr,Nat.le_trans hv2.ws hv2.sz,hv2.ot⟩
   ·have iQ:((op:Int)==0)=false:=by rw[beq_eq_false_iff_ne];omega
    go_wp2
    first|go_end0|refine bodyPost_end (v:=.tuple #[]) (by simp[results,Try.results100,go_sem]) rfl ?_
    exact⟨rfl,yZ.out,op,n,a,rfl,HV.out.bk,HV.out.st,HV.out.fr,Nat.le_trans HV.out.ws HV.out.sz,HV.out.ot⟩
end
def opC (op g k pos:Nat):List Value:=[.int .i64 op,.slice (some ⟨g,0,none⟩) k k,.int .i64 0,.int .i64 0,.string ⟨#[]⟩,.string ⟨#[]⟩,.int .i64 pos]
def kN (P:Nat->Prop) (w:World):au->List Value->Prop
 |.leaf op n sc nm a p,cs=>cs=iC op n sc nm a p
 |.un op x p,cs=>∃g xs,cs=opC op g 1 p/\P g/\Bk w g 118 xs.toArray/\kN P w x xs
 |.bin op x y p,cs=>∃g xs ys,cs=opC op g 2 p/\P g/\Bk w g 118 (xs++ys).toArray/\kN P w x xs/\kN P w y ys
theorem kN.keep {P P':Nat->Prop} {w w':World} (hk:∀g,P g->g<w.heap.size->P' g/\w'.heap[g]? =w.heap[g]?):∀{e:au} {cs:List Value},kN P w e cs->kN P' w' e cs
 |.leaf ..,_,h=>h
 |.un _ x _,_,⟨g,xs,h1,h2,h3,h4⟩=>⟨g,xs,h1,(hk g h2 h3.lt).1,(hk g h2 h3.lt).2.trans h3,h4.keep hk⟩
 |.bin _ x y _,_,⟨g,xs,ys,h1,h2,h3,h4,h5⟩=>⟨g,xs,ys,h1,(hk g h2 h3.lt).1,(hk g h2 h3.lt).2.trans h3,h4.keep hk,h5.keep hk⟩
theorem kN.old {P:Nat->Prop} {w w':World} {e:au} {cs:List Value} (h:kN P w e cs) (hb:Below w.heap.size w w'):kN P w' e cs:=h.keep fun g hP hg=>⟨hP,hb.block g hg⟩
theorem kN.grown {b B:Nat} {w w':World} {e:au} {cs:List Value} (h:kN (fun g=>B<=g) w e cs) (hb:w.grownBy w' (some b)) (hlt:b<B):kN (fun g=>B<=g) w' e cs:=h.keep fun g hP hg=>⟨hP,hb.block g hg (by intro e;injection e with e;omega)⟩
theorem kN.put {q B:Nat} {t:TypeId} {ds:Array Value} {w w':World} {e:au} {cs:List Value} (h:kN (fun g=>B<=g) w e cs) (hp:lY w q t ds w') (hlt:q<B):kN (fun g=>B<=g) w' e cs:=h.keep fun g hP hg=>⟨hP,hp.other g (by omega)⟩
theorem kN.more {B B':Nat} {w:World} {e:au} {cs:List Value} (h:kN (fun g=>B<=g) w e cs) (hB:B'<=B):kN (fun g=>B'<=g) w e cs:=h.keep fun g hP hg=>⟨by omega,rfl⟩
theorem kN.set {q B o:Nat} {v:Value} {w:World} {e:au} {cs:List Value} (h:kN (fun g=>B<=g) w e cs) (hlt:q<B):kN (fun g=>B<=g) (w.setCell ⟨q,o,none⟩ v) e cs:=h.keep fun g hP hg=>⟨hP,Below.heap_setCell w _ v g (by show g≠q;omega)⟩
theorem kN.seven {P:Nat->Prop} {w:World}:∀{e:au} {cs:List Value},kN P w e cs->∃c0 c1 c2 c3 c4 c5 c6,cs=[c0,c1,c2,c3,c4,c5,c6]/\[c0,c1,c2,c3,c4,c5,c6].all Value.oneCell'=true
 |.leaf ..,_,h=>⟨_,_,_,_,_,_,_,h,rfl⟩
 |.un ..,_,⟨g,xs,h1,_⟩=>⟨_,_,_,_,_,_,_,h1,rfl⟩
 |.bin ..,_,⟨g,xs,ys,h1,_⟩=>⟨_,_,_,_,_,_,_,h1,rfl⟩
theorem Nr:(Try.prog.info? 118).map (fun i=>(i.zero,i.size,i.bytes))=some (some (.agg #[.int .i64 0,.slice none 0 0,.int .i64 0,.int .i64 0,.string ⟨#[]⟩,.string ⟨#[]⟩,.int .i64 0]),7,88):=by kernel_rfl
theorem aV (w:World):(sizeOf 118).run Try.prog w=.ok 7 w:=by
 obtain⟨i,hi,h0,h1,h2⟩:=info_parts Nr;simp[sizeOf,typeInfo,hi,h1]
theorem EG (c0 c1 c2 c3 c4 c5 c6:Value) (w:World):(Instr.buildSlice 78 1 #[(0,.agg #[c0,c1,c2,c3,c4,c5,c6])]).run Try.prog w=.ok (.slice (some ⟨w.heap.size,0,none⟩) 1 1) (w.alloc (.cells #[c0,c1,c2,c3,c4,c5,c6] 118)):=by kernel_rfl
theorem fO {w : World} {ops : Array Oper} {rest : List Oper} {o : Oper} {a : Act} {Q : Exit → Act → World → Prop} {c0 c1 c2 c3 c4 c5 c6 : Value} (hgd : o.guard = none) (x : Operand) (ho : o.op = .buildSlice 78 1 #[(0, x)]) (hx : a.eval x = .agg #[c0, c1, c2, c3, c4, c5, c6])
  (h:wpList Try.prog ops Q rest (a.put o.dst (.slice (some ⟨w.heap.size,0,none⟩) 1 1)) (w.alloc (.cells #[c0,c1,c2,c3,c4,c5,c6] 118))):wpList Try.prog ops Q (o::rest) a w:=
 wpList_plain hgd fun _ hK=>by
  unfold Oper.wp execOp;simp only[ho,List.map_toArray,List.map_cons,List.map_nil,hx,Sem.run_bind,EG,Result.andThen_ok,Sem.run_pure];exact hK _ _ h
section
variable {L:List aA}
theorem Jm (he:dL L) (lv:PS->au×PS) (hlv:∀s,gm L s->bn L s (lv s).2) (level:Nat):∀(k:Nat) (x:au) (s:PS),gm L s->bn L s (pJ L lv level k x s).2
 |0,x,s,h=>bn.refl h
 |k+1,x,s,h=>by
  unfold pJ
  split
  ·exact bn.refl h
  ·split
   ·exact bn.refl h
   ·rename_i h0 h1
    have hk:(bf L s).kind≠0:=by
     intro e
     apply h1
     have hno:∀w,eQ L s w=false:=fun w=>by rw[yl,e];rfl
     have key:∀(l:List Str) (first i op:Nat),mQ L s first i l op=op:=by
      intro l
      induction l with
      |nil=>intro _ _ _;rfl
      |cons x l ih=>intro f i op;show mQ L s f (i+1) l (if eQ L s x=true then f+i else op)=op;rw[hno x];exact ih _ _ _
     exact key _ _ _ _
    have g1:=bn.next he h hk;have g2:=g1.trans (hlv _ g1.ok)
    show bn L s (if level=4 then(_,(lv (aO s)).2)else pJ L lv level k _ (lv (aO s)).2).2
    split
    ·exact g2
    ·exact g2.trans (Jm he lv hlv level k _ _ g2.ok)
theorem Dk (he:dL L) (pos:Nat):∀(l:List Str) (i op:Nat) (n a:Str) (x s:PS),bn L s x->bn L s (iU L pos i l (op,n,a,x)).2.2.2
 |[],i,op,n,a,x,s,h=>h
 |w::l,i,op,n,a,x,s,h=>by
  rw[yY]
  split
  ·rename_i hc
   have g1:=h.trans (bn.next he h.ok (bG hc.2));have g2:=g1.trans (bn.need he [40] g1.ok);rw[EE]
   split
   ·have g3:=g2.trans (bn.name he g2.ok);exact Dk he pos l _ _ _ _ _ s (g3.trans (bn.need he [41] g3.ok))
   ·have g3:=g2.trans (bn.field he g2.ok);exact Dk he pos l _ _ _ _ _ s (g3.trans (bn.need he [41] g3.ok))
  ·exact Dk he pos l _ _ _ _ _ s h
theorem QS (he:dL L) (pos:Nat) (s:PS) (h:gm L s):bn L s (dP L pos s).2:=by
 unfold dP;generalize je=AL;have g1:=Dk he pos AL 0 0 [] [] s s (bn.refl h);generalize iU L pos 0 AL (0,[],[],s)=r at *;obtain⟨op,n,a,x⟩:=r
 show bn L s (if op=0 then aW L 13 x else x)
 split
 ·exact g1.trans (bn.fail _ g1.ok)
 ·exact g1
theorem QT (he:dL L) (lv:PS->au×PS) (hlv:∀s,gm L s->bn L s (lv s).2) (s:PS) (h:gm L s):bn L s (pK L lv s).2:=by
 unfold pK;simp only[]
 split
 ·rename_i hk;exact bn.next he h (by rw[hk];decide)
 split
 ·rename_i hk;exact bn.next he h (by rw[hk];decide)
 split
 ·rename_i hk;exact bn.next he h (by rw[hk];decide)
 split
 ·exact bn.field he h
 split
 ·rename_i hc
  have hk:=bG hc;have g1:=hlv _ (iH he h hk).1;exact bn.shut he h hk (g1.trans (bn.need he [41] g1.ok))
 split
 ·rename_i hc
  have hk:(bf L s).kind≠0:=by
   rcases Bool.or_eq_true_iff.1 hc with hc|hc<;>exact bG hc
  exact bn.next he h hk
 split
 ·rename_i hc
  have hk:(bf L s).kind≠0:=by
   rcases Bool.or_eq_true_iff.1 hc with hc|hc<;>exact bG hc
  have o1:=(iH he h hk).1;have g0:=bn.need he [40] o1;have g1:=g0.trans (hlv _ g0.ok);exact bn.shut he h hk (g1.trans (bn.need he [41] g1.ok))
 ·show bn L s (dP L _ s).2
  exact QS he _ s h
theorem dV (he:dL L):∀(f level:Nat) (s:PS),gm L s->bn L s (aB L f level s).2
 |0,_,s,h=>bn.refl h
 |f+1,level,s,h=>by
  unfold aB
  split
  ·exact bn.refl h
  ·split
   ·split
    ·rename_i hc
     have hk:=bG hc;exact bn.shut he h hk (dV he f level _ (iH he h hk).1)
    ·exact dV he f _ s h
   ·split
    ·exact QT he _ (fun s h=>dV he f 1 s h) s h
    ·have g1:=dV he f (level+1) s h;exact g1.trans (Jm he _ (fun s h=>dV he f (level+1) s h) level _ _ _ g1.ok)
end
def Dl (level:Nat) (w:World) (e:Ending) (w':World):Prop:=
 ∃(A:Option Addr) (c:Nat),e=.returned (.tuple #[.slice A (dG level).1.length c,.int .i64 ((dG level).2:Nat)])/\Rd w' w'.heap.size A ((dG level).1.map fun x=>Value.string (bytes x))/\Below w.heap.size w w'
theorem BL (level:Nat) (h:level<=8) (w:World):Calls Try.prog 83 #[.int .i64 level] w (Dl level w):=by
 match level,h with
 |1,_=>
  go_enter Try.func83,Try.ntmps83
  go_wp2
  go_ret2
  exact⟨_,_,rfl,Rd.bk (Bk.new w 9 _) (Bk.new w 9 _).lt,zR.alloc zL _⟩
 |2,_=>
  go_enter Try.func83,Try.ntmps83
  go_wp2
  go_ret2
  exact⟨_,_,rfl,Rd.bk (Bk.new w 9 _) (Bk.new w 9 _).lt,zR.alloc zL _⟩
 |4,_=>
  go_enter Try.func83,Try.ntmps83
  go_wp2
  go_ret2
  exact⟨_,_,rfl,Rd.bk (Bk.new w 9 _) (Bk.new w 9 _).lt,zR.alloc zL _⟩
 |5,_=>
  go_enter Try.func83,Try.ntmps83
  go_wp2
  go_ret2
  exact⟨_,_,rfl,Rd.bk (Bk.new w 9 _) (Bk.new w 9 _).lt,zR.alloc zL _⟩
 |6,_=>
  go_enter Try.func83,Try.ntmps83
  go_wp2
  go_ret2
  exact⟨_,_,rfl,Rd.bk (Bk.new w 9 _) (Bk.new w 9 _).lt,zR.alloc zL _⟩
 |0,_=>
  go_enter Try.func83,Try.ntmps83
  go_wp2
  go_ret2
  exact⟨none,0,rfl,Rd.nil,Below.refl _ _⟩
 |3,_=>
  go_enter Try.func83,Try.ntmps83
  go_wp2
  go_ret2
  exact⟨none,0,rfl,Rd.nil,Below.refl _ _⟩
 |7,_=>
  go_enter Try.func83,Try.ntmps83
  go_wp2
  go_ret2
  exact⟨none,0,rfl,Rd.nil,Below.refl _ _⟩
 |8,_=>
  go_enter Try.func83,Try.ntmps83
  go_wp2
  go_ret2
  exact⟨none,0,rfl,Rd.nil,Below.refl _ _⟩
end Go.Proofs.Ytbjnhllkdilpfaa
