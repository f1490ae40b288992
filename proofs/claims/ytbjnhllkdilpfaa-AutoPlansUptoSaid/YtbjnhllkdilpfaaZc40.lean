/- Part 40 of the proof. No conditions. -/
import Derived.Test.YtbjnhllkdilpfaaZc39
namespace Go.Proofs.Ytbjnhllkdilpfaa
open Go.RowKit
set_option maxRecDepth 100000
set_option maxHeartbeats 16000000
set_option linter.unusedVariables false
set_option linter.unusedSimpArgs false
def OO:ax->Nat
 |.leaf _ _ _ _ _ p=>p
 |.un _ _ p=>p
 |.bin _ _ _ p=>p
theorem kZ.pos {P:Nat->Prop} {w:World}:∀{e:ax} {cs:List Value},kZ P w e cs->∃c0 c1 c2 c3 c4 c5:Value,cs=[c0,c1,c2,c3,c4,c5,.int .i64 (OO e)]/\[c0,c1,c2,c3,c4,c5,.int .i64 (OO e)].all Value.oneCell'=true
 |.leaf ..,cs,h=>⟨_,_,_,_,_,_,h,rfl⟩
 |.un ..,cs,⟨g,xs,h,_⟩=>⟨_,_,_,_,_,_,h,rfl⟩
 |.bin ..,cs,⟨g,xs,ys,h,_⟩=>⟨_,_,_,_,_,_,h,rfl⟩
def oz:bP->List bP->bP
 |y,[]=>y
 |y,z::l=>oz (if y.part<z.part then z else y) l
def BF (l0:bP) (l:List bP):Bool:=l.all fun y=>y.br==l0.br
def cnt3:List bP->Nat
 |[]=>0
 |y::l=>(if y.form=3 then 1 else 0)+cnt3 l
def O8 (nm:Str) (l:List bP):Bool:=l.all fun y=>y.form !=3||y.name==nm
def ok2 (z:Bool) (nm:Str) (l:List bP):Bool:=l.all fun y=>y.form !=2||(z&&y.name==nm)
def CU (l:List bP):Bool:=l.any fun y=>y.form==2
def mY (l0:bP) (l lp:List bP):Bool×Bool×bP:=
 (((BF l0 l&&O8 (oz l0 l).name l)&&ok2 (cnt3 l==0) (oz l0 l).name lp),((oz l0 l).form !=2||CU lp),oz l0 l)
def VY (t:T) (b:bQ):bQ:={b with ps:=b.ps.modify 0 (KP true t)}
def wM (k:Nat) (t:T) (bs:List bQ):List bQ:=(bs.take k).map (VY t)++bs.drop k
def mZ (s:ai) (x:ax) (bs:List bQ) (m:MS):List bQ×MS:=
 if m.err≠0 then(bs,m)
 else if(dW s x m).1≠2 then(bs,dC 11 (OO x) (dW s x m).2)
 else if(dW s x m).2.err≠0 then(bs,(dW s x m).2)
 else match cO m.items false x with
  |[]=>(wM bs.length (MO s m [] x) bs,m)
  |l0::l=>
   if(mY l0 (l0::l) (cO m.items true x)).1=false then(bs,dC 15 (OO x) m)
   else(BC bs (mY l0 (l0::l) (cO m.items true x)).2.2.br (mY l0 (l0::l) (cO m.items true x)).2.2.part (mY l0 (l0::l) (cO m.items true x)).2.1
    (MO s m (if(mY l0 (l0::l) (cO m.items true x)).2.1=true then(mY l0 (l0::l) (cO m.items true x)).2.2.name else[]) x),m)
def InT (bs:List bQ) (y:bP):Prop:=∃br,bs[y.br]? =some br/\y.part<br.ps.length
def kG (bs:List bQ) (n:Nat):Prop:=∀br∈bs,∀p∈br.ps,p.gs.length<=n/\p.cs.length<=n
theorem Na (nm:Str):∀l:List bP,(dV nm l).1∈l\/(dV nm l).1=Kr
 |[]=>.inr rfl
 |x::l=>by
  unfold dV
  split
  ·exact .inl (by simp)
  ·rcases Na nm l with h|h
   ·exact .inl (by simp[h])
   ·exact .inr h
theorem SI (items:List bP) (plain:Bool):∀(e:ax),∀y∈cO items plain e,y∈items\/y=Kr:=by
 have hF:∀op nm,∀y∈eQ items op nm plain,y∈items\/y=Kr:=by
  intro op nm y hy;unfold eQ at hy
  split at hy
  ·simp only[List.mem_cons,List.not_mem_nil,or_false]at hy;subst hy;exact Na nm items
  ·simp at hy
 intro e
 induction e with
 |leaf op n sc nm a p=>exact hF op nm
 |un op x p ih=>
  intro y hy;rcases List.mem_append.1 hy with hy|hy
  ·exact hF _ _ y hy
  ·exact ih y hy
 |bin op x z p ih1 ih2=>
  intro y hy;rcases List.mem_append.1 hy with hy|hy
  ·exact hF _ _ y hy
  ·rcases List.mem_append.1 hy with hy|hy
   ·exact ih1 y hy
   ·exact ih2 y hy
theorem Nb:∀(l:List bP) (y:bP),oz y l=y\/oz y l∈l
 |[],y=>.inl rfl
 |z::l,y=>by
  unfold oz;rcases Nb l (if y.part<z.part then z else y)with h|h
  ·rw[h]
   split
   ·exact .inr (by simp)
   ·exact .inl rfl
  ·exact .inr (by simp[h])
theorem DZ (t:T) (bs:List bQ) (k:Nat) (h:k<bs.length):BC (wM k t bs) k 0 true t=wM (k+1) t bs:=by
 unfold BC wM;rw[List.drop_eq_getElem_cons h];have e:k=((bs.take k).map (VY t)).length:=by simp;omega
 conv=>lhs;arg 2;rw[e]
 rw[mF,List.take_succ_eq_append_getElem h,List.map_append,List.append_assoc];rfl
theorem VZ (t:T) (bs:List bQ) (k:Nat) (hk:k<bs.length):(wM k t bs)[k]? =some bs[k]:=by
 unfold wM;rw[List.getElem?_append_right (by simp;omega),List.getElem?_drop];have e:k+(k-((bs.take k).map (VY t)).length)=k:=by simp;omega
 rw[e,List.getElem?_eq_getElem hk]
structure uo (b:Nat) (bv:Value) (bs bs':List iR) (w w':World):Prop where
 os:w'.os=w.os
 tape:w'.tape=w.tape
 output:w'.output=w.output
 size:w.heap.size<=w'.heap.size
 block:∀q,q<w.heap.size->q≠b->fP bv bs q->w'.heap[q]? =w.heap[q]?
 ap:∀q,q<w.heap.size->fP bv bs q->fP bv bs' q
theorem uo.of {b:Nat} {bv:Value} {bs bs':List iR} {w w':World} (h:wL bv bs bs' w w'):uo b bv bs bs' w w':=⟨h.os,h.tape,h.output,h.size,fun q hq _ ha=>h.block q hq ha,h.ap⟩
theorem uo.grown {b:Nat} {bv:Value} {bs:List iR} {w w':World} (h:w.grownBy w' (some b)):uo b bv bs bs w w':=⟨h.os,h.tape,h.output,h.size,fun q hq hb _=>h.block q hq (aA hb),fun _ _ h=>h⟩
theorem uo.trans {b:Nat} {bv:Value} {bs XA SH:List iR} {w w1 w2:World} (h:uo b bv bs XA w w1) (h2:uo b bv XA SH w1 w2):uo b bv bs SH w w2:=
 ⟨h2.os.trans h.os,h2.tape.trans h.tape,h2.output.trans h.output,Nat.le_trans h.size h2.size,fun q hq hb ha=>(h2.block q (Nat.lt_of_lt_of_le hq h.size) hb (h.ap q hq ha)).trans (h.block q hq hb ha),fun q hq ha=>h2.ap q (Nat.lt_of_lt_of_le hq h.size) (h.ap q hq ha)⟩
structure V9 (b B B1 D gp:Nat) (s:ai) (iv:Value) (m':MS) (aC:Int) (kv bv:Value) (bs bs':List iR) (pt:List bQ) (w w':World):Prop where
 st:jg b B s iv m' w'
 pl:kJ B1 D bv bs' w'
 kp:Bk w' gp 25 #[.int .i64 aC,kv,bv]
 tr:bs'.map (mJ D)=pt
 fr:uo b bv bs bs' w w'
theorem kJ.low {B1 D:Nat} {bv:Value} {bs:List iR} {w:World} (h:kJ B1 D bv bs w) {q:Nat} (hq:q<B1):fP bv bs q:=
 ⟨fun e=>by have:=(h.dI.lt q e.symm).1;omega,fun x hx e=>by have:=((h.prt x hx).lt q e.symm).1;omega,fun z hz e=>by have:=((h.Cf z hz).lt q e.symm).1;omega⟩
theorem kJ.hi {B1 D:Nat} {bv:Value} {bs:List iR} {w:World} (h:kJ B1 D bv bs w) (q:Nat) (hq:¬fP bv bs q):q<w.heap.size:=by
 rcases Nat.lt_or_ge q w.heap.size with hlt|hge
 ·exact hlt
 ·refine absurd ⟨fun e=>?_,fun x hx e=>?_,fun z hz e=>?_⟩ hq
  ·have:=(h.dI.lt q e.symm).2;omega
  ·have:=((h.prt x hx).lt q e.symm).2;omega
  ·have:=((h.Cf z hz).lt q e.symm).2;omega
theorem ru {w:World} {B e k n:Nat} {v:Value} {xs:List Value} (h:w.ownsRow B e k v n xs) (hn:0<n):∃g c,v=.slice (some ⟨g,0,none⟩) n c/\n<=c/\c<=maxLen:=by
 rcases h.2 with⟨_,h0⟩|⟨g,c,cur,hv,_,_,hc,hm,_⟩
 ·omega
 ·exact⟨g,c,hv,hc,hm⟩
theorem yL.out {its:List bP} {w:World} {e:Ending} {w':World} (h:yL its w e w'):∃(A:Option Addr) (c:Nat),e=.returned (.slice A its.length c)/\w'.ownsRow w.heap.size 141 6 (.slice A its.length c) its.length (its.flatMap bP.cells)/\Below w.heap.size w w':=h
structure OQ (b B B1 D gp bx:Nat) (s:ai) (iv:Value) (m:MS) (aC:Int) (kv bv:Value) (bs:List iR) (x:ax) (cs:List Value) (W:World):Prop where
 st:jg b B s iv m W
 pl:kJ B1 D bv bs W
 kp:Bk W gp 25 #[.int .i64 aC,kv,bv]
 ex:kZ (fun g=>g<B1/\g≠b) W x cs
 kx:Bk W bx 118 cs.toArray
theorem OQ.old {b B B1 D gp bx:Nat} {s:ai} {iv:Value} {m:MS} {aC:Int} {kv bv:Value} {bs:List iR} {x:ax} {cs:List Value} {W W':World} (h:OQ b B B1 D gp bx s iv m aC kv bv bs x cs W) (hb:Below W.heap.size W W'):OQ b B B1 D gp bx s iv m aC kv bv bs x cs W':=
 ⟨h.st.old hb,h.pl.old hb,h.kp.old hb,h.ex.old hb,h.kx.old hb⟩
theorem kJ.wO {B1 D:Nat} {bv:Value} {bs:List iR} {w:World} (h:kJ B1 D bv bs w) {q t:Nat} {cs:Array Value} (hk:Bk w q t cs) (h1:28≠t) (h2:31≠t) (h3:76≠t):fP bv bs q:=
 ⟨aO h.dI hk h1,fun x hx=>aO (h.prt x hx) hk h2,fun z hz=>aO (h.Cf z hz) hk h3⟩
theorem jg.XB {b B B1 D:Nat} {s:ai} {iv:Value} {m:MS} {bv:Value} {bs bs':List iR} {W W':World} (h:jg b B s iv m W) (hp:kJ B1 D bv bs W) (hf:wL bv bs bs' W W') (hb:b<B1):jg b B s iv m W':=by
 refine⟨(hf.block b h.bk.lt (hp.low hb)).trans h.bk,h.CG.jf ⟨hf.os,hf.tape,hf.output,hf.size,fun q hq=>hf.block q (Nat.lt_of_lt_of_le hq (Nat.le_of_lt h.bk.lt)) (hp.low (by omega))⟩,?_⟩;refine⟨h.own.1,?_⟩;rcases h.own.2 with h0|⟨g,cap,cur,hv,hb0,hh,hr⟩
 ·exact .inl h0
 ·have hk:Bk W g 141 cur:=hh;exact .inr ⟨g,cap,cur,hv,hb0,(hf.block g hk.lt (hp.wO hk (by decide) (by decide) (by decide))).trans hh,hr⟩
theorem OQ.XB {b B B1 D gp bx:Nat} {s:ai} {iv:Value} {m:MS} {aC:Int} {kv bv:Value} {bs bs':List iR} {x:ax} {cs:List Value} {W W':World} (h:OQ b B B1 D gp bx s iv m aC kv bv bs x cs W) (hf:wL bv bs bs' W W') (hp':kJ B1 D bv bs' W') (hb:b<B1) (hg:gp<B1):OQ b B B1 D gp bx s iv m aC kv bv bs' x cs W':=
 ⟨h.st.XB h.pl hf hb,hp',(hf.block gp h.kp.lt (h.pl.low hg)).trans h.kp,h.ex.keep fun q hq hlt=>⟨hq,hf.block q hlt (h.pl.low hq.1)⟩,(hf.block bx h.kx.lt (h.pl.wO h.kx (by decide) (by decide) (by decide))).trans h.kx⟩
theorem sU {op : Oper} {a : Act} {K : Act → World → Prop} {Q : Exit → Act → World → Prop} {w : World} {g o : Nat} {t : TypeId} {cs : Array Value} {t0 : TypeId} {n : Nat} (hsz : ∀ w, (sizeOf t0).run Try.prog w = .ok n w)
  (x y:Operand) (hop:op.op=Op.store t0 x y) (hx:a.eval x=.pointer (some ⟨g,o,none⟩)) (ds:List Value) (hy:a.eval y=.agg ds.toArray) (h:Bk w g t cs) (hn:ds.length=n) (ho:o+n<=cs.size)
  (h1:ds.all Value.oneCell'=true) (hK:∀w':World,lH w g t (uA cs o ds) w'->K (a.put op.dst undef) w'):op.wp Try.prog a w K Q:=by
 obtain⟨w',hr,hp⟩:=vw hsz h ds hn ho h1;unfold Oper.wp;simp[execOp,hop,hx,hy,hr,Result.andThen];exact hK _ hp
theorem dR {o:Oper} {y:Nat->Option Bool} {A B:Prop} (h:o.guard=none) (hA:A):if Region.wanted o y=true then A else B:=by
 rw[if_pos (by unfold Region.wanted;rw[h])];exact hA
theorem row_block {w:World} {B e k n c g:Nat} {xs:List Value} (h:w.ownsRow B e k (.slice (some ⟨g,0,none⟩) n c) n xs):∃cur,Bk w g e cur/\n*k<=cur.size:=by
 rcases h.2 with⟨h0,_⟩|⟨g',cap,cur,hv,hb,hh,hn,hm,hs,ht⟩
 ·cases h0
 ·injection hv with hv1 hv2 hv3
  injection hv1 with hv1
  injection hv1 with hv1
  subst hv1 hv3;exact⟨cur,hh,by rw[hs];exact Nat.mul_le_mul_right _ hn⟩
theorem wP {w:World} {g:Nat} {t u:TypeId} {cs ds:Array Value} (h:Bk w g t cs) (h2:Bk w g u ds):t=u:=by
 unfold Bk at h h2;rw[h]at h2;injection h2 with h2
 injection h2
theorem OT (b B B1 D gp : Nat) (s : ai) (iv : Value) (m : MS) (aC : Int) (kv bv : Value) (bs : List iR) (pt : List bQ) (x : ax) (cs : List Value) (w : World) (hM : jg b B s iv m w) (hbB : b < B) (hb1 : b < B1) (hg1 : gp < B1) (hBw : B1 ≤ w.heap.size) (hpl : kJ B1 D bv bs w) (hkp : Bk w gp 25 #[.int .i64 aC, kv, bv]) (hx : kZ (fun g => g < B1 ∧ g ≠ b) w x cs)
  (hpt:bs.map (mJ D)=pt) (hn:m.items.length<=1000) (hnum:Ox x) (hops:opsE x) (KR:aB x<=100000) (hdep:zg x<=D) (hin:∀y∈m.items,InT pt y) (hin0:InT pt Kr) (h0:∀br∈pt,0<br.ps.length) (hrl:kG pt 10000):
  Calls Try.prog 48 #[.pointer (some ⟨b,0,none⟩),.pointer (some ⟨gp,0,none⟩),.agg cs.toArray] w fun r w'=>r=.returned (.tuple #[])/\∃bs',V9 b B B1 D gp s iv (mZ s x pt m).2 aC kv bv bs bs' (mZ s x pt m).1 w w':=by
 obtain⟨⟨PT,MF⟩,hres⟩:∃z,mZ s x pt m=z:=⟨_,rfl⟩
 rw[hres];simp only[];have aG:=zH hres;have HM:=zH hM;have xm:=zH hpt;have OU:=zH (And.intro hnum (And.intro hops (And.intro KR hdep)));have HIN:=zH hin;have HIN0:=zH hin0;have HH0:=zH h0;have HRL:=zH hrl;have HN:=zH hn;have hbl:=hM.bk.lt;have hgpl:=hkp.lt
 have hgb:gp≠b:=by
  intro e;subst e;exact absurd (wP hkp hM.bk) (by decide)
 obtain⟨c0,c1,c2,c3,c4,c5,hcs,hone⟩:=hx.pos;obtain⟨po,hpo⟩:∃z,OO x=z:=⟨_,rfl⟩
 rw[hpo]at hcs hone;have HPO:=zH hpo;have HONE:=zH hone;have HX:=zH (And.intro hx (And.intro hpl hkp));subst hcs;have HPw:∀g,(g<B1/\g≠b)->g≠b:=fun g h=>h.2
 clear hres hM hpt hnum hops KR hdep hin hin0 h0 hrl hn hpo hx hpl hkp;rw[show[c0,c1,c2,c3,c4,c5,Value.int .i64 po].toArray=#[c0,c1,c2,c3,c4,c5,.int .i64 po]from rfl]
 go_enter Try.func48,Try.ntmps48
 have kb:=Bk.new w 118 #[c0,c1,c2,c3,c4,c5,.int .i64 po];have hb0:Below w.heap.size w (w.alloc (.cells #[c0,c1,c2,c3,c4,c5,.int .i64 po] 118)):=zR.alloc zL _;go_upto_region 1 with fail
 obtain⟨w0,hw0⟩:∃z,w.alloc (.cells #[c0,c1,c2,c3,c4,c5,.int .i64 po] 118)=z:=⟨_,rfl⟩
 rw[hw0]at kb hb0⊢;clear hw0;obtain⟨bx,hbx⟩:∃z,w.heap.size=z:=⟨_,rfl⟩
 have jw:=zH hbx;rw[hbx]at kb⊢;have hbxl:=kb.lt;have hbxb:bx≠b:=by omega
 have HB0:=zH hb0;have qL:Hid (OQ b B B1 D gp bx s iv m aC kv bv bs x [c0,c1,c2,c3,c4,c5,.int .i64 po] w0):=zH ⟨HM.out.old hb0,HX.out.2.1.old hb0,HX.out.2.2.old hb0,HX.out.1.old hb0,kb⟩;clear kb hb0 hbx HM HX;have e3:w0.cell? ⟨b,3,none⟩=some (.int .i64 m.err):=qL.out.st.c3
 by_cases her:m.err=0
 case neg=>
  as_aux_lemma=>
  have iV:((m.err:Int) !=0)=true:=by rw[bne_iff_ne];omega
  have hR:=aG.out;unfold mZ at hR;rw[if_pos her]at hR;injection hR with h1 h2
  subst h1;subst h2;clear her aG;go_wp2
  first|go_end0|refine bodyPost_ret (v:=.tuple #[]) (by simp[results,Try.results48,go_sem]) rfl ?_|refine bodyPost_end (v:=.tuple #[]) (by simp[results,Try.results48,go_sem]) rfl ?_
  exact⟨rfl,bs,qL.out.st,qL.out.pl,qL.out.kp,xm.out,uo.of (wL.ja HB0.out)⟩
 case pos=>
 have iV:((m.err:Int) !=0)=false:=by rw[bne_eq_false_iff_eq];omega
 have hR:=aG.out;unfold mZ at hR;rw[if_neg (by omega)]at hR;have HR1:=zH hR;have HER:=zH her;have MN:=zH (jZ (P:=fun g=>g<B1/\g≠b) b B s iv hbB HPw x _ m w0 HN.out qL.out.st qL.out.ex);have HFN:=zH (fun h=>pq s x m h);obtain⟨⟨kx,mk⟩,hkd⟩:∃z,dW s x m=z:=⟨_,rfl⟩
 rw[hkd]at MN HR1 HFN;simp only[]at HR1 MN HFN;rw[show[c0,c1,c2,c3,c4,c5,Value.int .i64 po].toArray=#[c0,c1,c2,c3,c4,c5,.int .i64 po]from rfl]at MN;obtain⟨q0,q1,q2,q3,q4,q5,q6⟩:=zc7 qL.out.kx;simp only[List.getElem?_toArray,List.getElem?_cons_zero,List.getElem?_cons_succ]at q0 q1 q2 q3 q4 q5 q6;have HKE:=zH hkd;clear hR aG her hkd;go_wp2_with fail
 refine MN.out.mono ?_;rintro r w1 ⟨rfl,hs1⟩;have hz1:=hs1.grown.size;have zF:=zH hs1;clear hs1 MN q0 q1 q2 q3 q4 q5 q6 e3 iV
 by_cases hk2:kx=2
 case neg=>
  as_aux_lemma=>
  have QM:(kx !=2)=true:=by rw[bne_iff_ne];exact hk2
  have hR:=HR1.out;rw[if_pos hk2]at hR;injection hR with h1 h2
  rw[HPO.out]at h2
  have q6:w1.cell? ⟨bx,6,none⟩=some (.int .i64 po):=by
   have:=(qL.out.kx.grown zF.out.grown (aA hbxb)).cell 6
   simpa using this
  have HF:=zH (jr b B s iv mk w1 11 po zF.out.st hbB);rw[h2]at HF;subst h1;have hme:MF.err≠0:=by rw[<-h2];exact oh (by decide)
  clear hk2 HR1 h2;go_wp2_with fail
  refine HF.out.mono ?_;rintro r w2 ⟨rfl,hs2⟩;have e3:=hs2.st.c3;have iV:((MF.err:Int) !=0)=true:=by rw[bne_iff_ne];omega
  have HG:Hid (V9 b B B1 D gp s iv MF aC kv bv bs bs pt w w2):=zH
   ⟨hs2.st,(qL.out.pl.grown zF.out.grown hb1).grown hs2.grown hb1,(qL.out.kp.grown zF.out.grown (aA hgb)).grown hs2.grown (aA hgb),xm.out,(uo.of (wL.ja HB0.out)).trans (uo.grown (zF.out.grown.trans hs2.grown))⟩
  clear hs2 HF q6 hme;go_wp2
  first|go_end0|refine bodyPost_ret (v:=.tuple #[]) (by simp[results,Try.results48,go_sem]) rfl ?_|refine bodyPost_end (v:=.tuple #[]) (by simp[results,Try.results48,go_sem]) rfl ?_
  exact⟨rfl,bs,HG.out⟩
 case pos=>
 have QM:(kx !=2)=false:=by rw[bne_eq_false_iff_eq];exact hk2
 have hR:=HR1.out;rw[if_neg (by omega)]at hR;have HR2:=zH hR;have e3:=zF.out.st.c3;clear hR HR1
 by_cases hme:mk.err=0
 case neg=>
  as_aux_lemma=>
  have iV:((mk.err:Int) !=0)=true:=by rw[bne_iff_ne];omega
  have hR:=HR2.out;rw[if_pos hme]at hR;injection hR with h1 h2
  subst h1;subst h2
  have HG:Hid (V9 b B B1 D gp s iv mk aC kv bv bs bs pt w w1):=zH
   ⟨zF.out.st,qL.out.pl.grown zF.out.grown hb1,qL.out.kp.grown zF.out.grown (aA hgb),xm.out,(uo.of (wL.ja HB0.out)).trans (uo.grown zF.out.grown)⟩
  clear hk2 HR2 hme;go_wp2
  first|go_end0|refine bodyPost_ret (v:=.tuple #[]) (by simp[results,Try.results48,go_sem]) rfl ?_|refine bodyPost_end (v:=.tuple #[]) (by simp[results,Try.results48,go_sem]) rfl ?_
  exact⟨rfl,bs,HG.out⟩
 case pos=>
 have iV:((mk.err:Int) !=0)=false:=by rw[bne_eq_false_iff_eq];omega
 have hR:=HR2.out;rw[if_neg (by omega)]at hR;obtain⟨hmk,hfi⟩:=HFN.out hme;have hmk2:=hmk.symm;subst hmk2;have zC:=zH hfi;have HB1:Hid (Below w0.heap.size w0 w1):=zH (gW.below qL.out.st zF.out);have yF:Hid (OQ b B B1 D gp bx s iv m aC kv bv bs x [c0,c1,c2,c3,c4,c5,.int .i64 po] w1):=zH (qL.out.old HB1.out);have yH:Hid (Below w.heap.size w w1):=zH (HB0.out.trans (HB1.out.mono HB0.out.size));have HR3:=zH hR
 have pR:Hid (∀(AS:ByteArray) (bs':List iR) (W:World),OQ b B B1 D gp bx s iv m aC kv bv bs' x [c0,c1,c2,c3,c4,c5,.int .i64 po] W->Calls Try.prog 72 #[.pointer (some ⟨b,0,none⟩),.agg #[c0,c1,c2,c3,c4,c5,.int .i64 po],.string AS] W (wG D (MO s m AS.toList x) W)):=zH fun AS bs' W hV=>
  (wI (P:=fun g=>g<B1/\g≠b) b B s iv m AS hbB HPw HER.out HN.out x _ W hV.st hV.ex OU.out.1 zC.out OU.out.2.1).mono fun _ _=>wG.upTo OU.out.2.2.2
 have tJ:Hid (∀(pl:Bool) (W:World),OQ b B B1 D gp bx s iv m aC kv bv bs x [c0,c1,c2,c3,c4,c5,.int .i64 po] W->Calls Try.prog 71 #[.pointer (some ⟨b,0,none⟩),.agg #[c0,c1,c2,c3,c4,c5,.int .i64 po],.bool pl] W (yL (cO m.items pl x) W)):=zH fun pl W hV=>
  sD (P:=fun g=>g<B1/\g≠b) b B s iv m pl HN.out x _ W hV.st hV.ex OU.out.2.2.1
 obtain⟨q0,q1,q2,q3,q4,q5,q6⟩:=zc7 yF.out.kx;simp only[List.getElem?_toArray,List.getElem?_cons_zero,List.getElem?_cons_succ]at q0 q1 q2 q3 q4 q5 q6;have hN1:=tJ.out false w1 yF.out;have hle1:=kW m.items false x;have hin1:=SI m.items false x;obtain⟨L,hL⟩:∃z,cO m.items false x=z:=⟨_,rfl⟩
 rw[hL]at hN1 hR hle1 hin1;have HR3:=zH hR;have HIN1:=zH hin1;obtain⟨n,Uw⟩:∃z,L.length=z:=⟨_,rfl⟩
 have hn5:n<=100000:=by have:=OU.out.2.2.1;omega
 have UC:=zH Uw;have tK:=zH hN1;clear hR hfi hN1 hL hle1 hin1 Uw HR2 HFN hme hk2;go_wp2_with fail
 refine tK.out.mono ?_;rintro r w2 hi;obtain⟨A,c,rfl,hown2,hb2⟩:=hi.out;rw[UC.out]at hown2⊢;clear hi;have iy:=zH (yF.out.old hb2);have HO2:=zH hown2;have Zv:=zH (yH.out.trans (hb2.mono yH.out.size));clear tK hown2 hb2 q0 q1 q2 q3 q4 q5 q6 e3 yF yH zF hz1
 have hpos:0<bs.length:=by
  obtain⟨br,h1,_⟩:=HIN0.out;have h2:=(List.getElem?_eq_some_iff.1 h1).1;rw[<-xm.out]at h2;simp at h2;omega
 obtain⟨gv,cv,hbv,hcv,hmv⟩:=ru iy.out.pl.dI hpos;obtain⟨nb,hnb⟩:∃z,bs.length=z:=⟨_,rfl⟩
 have xu:=zH hnb;rw[hnb]at hbv hpos hcv;subst hbv;clear hnb;obtain⟨iN,hN,hN0,hN1,U0⟩:=info_parts FO;have hnbm:nb<=9223372036854775807:=by unfold maxLen at hmv;omega
 by_cases hn0:n=0
 case pos=>
  have nI:((n:Int)==0)=true:=by rw[beq_iff_eq];omega
  have hLn:L=[]:=List.eq_nil_of_length_eq_zero (by rw[UC.out];exact hn0);have hR:=HR3.out;rw[hLn]at hR;injection hR with h1 h2
  obtain⟨t,ht⟩:∃z,MO s m [] x=z:=⟨_,rfl⟩
  rw[ht]at h1;have HND0:Hid (∀(W:World),OQ b B B1 D gp bx s iv m aC kv (.slice (some ⟨gv,0,none⟩) nb cv) bs x [c0,c1,c2,c3,c4,c5,.int .i64 po] W->True):=zH fun _ _=>trivial
  subst h2;have pM:=zH h1;have HT:=zH ht;have k2:w2.cell? ⟨gp,2,none⟩=some (.slice (some ⟨gv,0,none⟩) nb cv):=iy.out.kp.cell 2;clear h1 ht HR3 hLn hn0 tJ HND0;go_upto_region 8 with fail
  go_wp2_with fail
  clear k2 nI
  go_loopw[51] (fun i wr=>∃(k:Nat) (bs':List iR),k<=nb/\i=.int .i64 k/\Hid (bs'.map (mJ D)=wM k t pt)/\Hid (OQ b B B1 D gp bx s iv m aC kv (.slice (some ⟨gv,0,none⟩) nb cv) bs' x [c0,c1,c2,c3,c4,c5,.int .i64 po] wr/\uo b (.slice (some ⟨gv,0,none⟩) nb cv) bs bs' w wr)) (fun i _=>nb-(intOf i).toNat)
  case atStart=>exact⟨0,bs,Nat.zero_le _,rfl,zH (by rw[xm.out];rfl),zH ⟨iy.out,uo.of (wL.ja Zv.out)⟩⟩
  case round=>
   clear iy;obtain⟨k,bs',hk,rfl,HR,HV⟩:=hrel;obtain⟨W,rfl⟩:∃W:World,W=wr:=⟨_,rfl⟩
   by_cases hlt:k<nb
   ·
    have hlp:bs'.length=nb:=by
     have h1:=congrArg List.length HR.out;rw[List.length_map]at h1;rw[h1,<-xu.out];unfold wM;rw[<-xm.out];simp;omega
    have hkb:k<bs'.length:=by omega
    have hpk:k<pt.length:=by rw[<-xm.out,List.length_map,xu.out];exact hlt
    have hbk:mJ D bs'[k]=pt[k]:=by
     have hq1:=VZ t pt k hpk;rw[<-HR.out,List.getElem?_map,List.getElem?_eq_getElem hkb]at hq1;injection hq1
    have hpl2:pt[k].ps.length=bs'[k].ps.length:=by rw[<-hbk];simp[mJ]
    have hps0:0<bs'[k].ps.length:=by
     rw[<-hpl2];exact HH0.out _ (List.getElem_mem hpk)
    obtain⟨b1,b2,IE,p1,p2,pp,g2,n2,c2',hat,Zw,hpp⟩:=HV.out.1.pl.at hlp hkb hps0;obtain⟨A1,IG,D5,hrow0⟩:=hat.own true;obtain⟨n1,hn1⟩:∃z,(ji true pp).length=z:=⟨_,rfl⟩
    rw[hn1]at D5 hrow0;rw[D5]at hrow0
    have hn1b:n1<=10000:=by
     have hq:pt[k].ps[0]'(by omega)=partT D pp:=by
      rw[hpp]
      have h3:(pt[k].ps)[0]? =some (partT D bs'[k].ps[0]):=by
       rw[<-hbk];unfold mJ;simp only[List.getElem?_map,List.getElem?_eq_getElem hps0,Option.map_some]
      rw[List.getElem?_eq_getElem (by omega)]at h3;injection h3
     have hle:=(HRL.out _ (List.getElem_mem hpk) _ (List.getElem_mem (by omega:0<pt[k].ps.length))).1;rw[hq]at hle;rw[<-hn1]
     simpa[partT,ji]using hle
    have HAT:=zH hat;have k2:W.cell? ⟨gp,2,none⟩=some (.slice (some ⟨gv,0,none⟩) nb cv):=HV.out.1.kp.cell 2;have e2:W.cell? ⟨gv,k*3+2,none⟩=some (.slice (some ⟨g2,0,none⟩) n2 c2'):=hat.c2;have hn2:0<n2:=hat.lt
    have pc:W.cell? ⟨g2,2,none⟩=some (.slice A1 n1 IG):=by
     have h1:=hat.cell true;rw[D5]at h1;exact h1
    obtain⟨gg,hgg⟩:∃z,true=z:=⟨_,rfl⟩
    have II:=zH hgg;rw[hgg]at D5 hrow0;have Gn:=zH pc;have IJ:=zH D5;have eY:Hid (∀wr,Below W.heap.size W wr->wr.ownsRow B1 76 7 (.slice A1 n1 IG) n1 ((ji gg pp).flatMap au.cells)):=zH fun wr hB=>aQ hrow0 hB
    have tK:Hid ((ji gg pp).length=n1):=zH (by rw[<-hgg];exact hn1);have zK:Hid (OQ b B B1 D gp bx s iv m aC kv (.slice (some ⟨gv,0,none⟩) nb cv) bs' x [c0,c1,c2,c3,c4,c5,.int .i64 po] W):=zH HV.out.1
    have SK:Hid (∀W',Below W.heap.size W W'->Calls Try.prog 72 #[.pointer (some ⟨b,0,none⟩),.agg #[c0,c1,c2,c3,c4,c5,.int .i64 po],.string ⟨#[]⟩] W' (wG D t W')):=zH fun W' hW=>by
     have h1:=pR.out ⟨#[]⟩ bs' W' (zK.out.old hW);rw[show(⟨#[]⟩:ByteArray).toList=[] by rw[ByteArray.toList_eq],HT.out]at h1;exact h1
    obtain⟨x0,x1,x2,x3,x4,x5,x6⟩:=zc7 zK.out.kx;simp only[List.getElem?_toArray,List.getElem?_cons_zero,List.getElem?_cons_succ]at x0 x1 x2 x3 x4 x5 x6;obtain⟨wz,hwz⟩:∃z,W.heap.size=z:=⟨_,rfl⟩
    have Nc:=zH HV.out.2;have HPK:=zH hpk;have hBW:B1<=wz:=by have:=HV.out.2.size;omega
    clear hlp hpk hps0 hat Zw hpp hrow0 D5 hn1 hgg hbk hpl2;go_upto_region 12 with fail
    refine wu (fun k => false) [.is (.pointer (some ⟨g2, 2, none⟩)),
      .is (.pointer (some ⟨g2,2,none⟩)),
      .is (.slice A1 n1 IG),
      .is (.pointer (some ⟨b,0,none⟩)),
      .is (.agg #[c0,c1,c2,c3,c4,c5,.int .i64 po]),
      .st (fun v w=>∃cs:List Value,v=.agg cs.toArray/\eu (fun q=>wz<=q) D t cs w) (fun _ _ _ hb ⟨cs,h1,h2⟩=>⟨cs,h1,h2.old hb⟩),
      .is (.int .i64 (n1:Nat)),
      .st (fun v w=>∃g,v=.slice (some ⟨g,0,none⟩) 1 1/\Bk w g 76 #[.int .i64 0,.int .i64 0,.slice none 0 0,.int .i64 0,.int .u64 0,.int .i64 0,.int .i64 0]) (fun _ _ _ hb ⟨g,h1,h2⟩=>⟨g,h1,h2.old hb⟩)] [4,5,6,7] 5 #[true,true,true,true,true,true,true,true,false,false,false,false,false] (by kernel_rfl) (by kernel_rfl) (by kernel_rfl) (by kernel_rfl) (by kernel_rfl)
      (fun C=>.c (px C rfl (fun _ _=>rfl)) <|
      .c (px C rfl (fun _ _=>rfl)) <|
      .c (px C rfl (fun _ h=>bW (mM (bc h pc)))) <|
      .c (px C rfl (fun _ _=>rfl)) <|
      .c (pz [] [5] (by kernel_rfl) fun qK qa wr hB qO qF hK=>?_) <|
      .c (pz [3,4] [] (by kernel_rfl) fun qK qa wr hB qO qF hK=>?_) <|
      .c (pz [2] [] (by kernel_rfl) fun qK qa wr hB qO qF hK=>?_) <|
      .c (pz [] [] (by kernel_rfl) fun qK qa wr hB qO qF hK=>?_) <| .nil) ?_
    ·have e5:qa.tmps[5]? =some (.pointer (some ⟨bx,0,none⟩)):=qO.1.trans rfl;clear qO qF;have hx0:=zE hB x0;have hx1:=zE hB x1;have hx2:=zE hB x2;have hx3:=zE hB x3;have hx4:=zE hB x4;have hx5:=zE hB x5;have hx6:=zE hB x6;go_simp;exact hK _ _ zR rfl
    ·have e67:=ay qF.1 rfl rfl;have e68:=ay qF.2.1 rfl rfl;clear qO qF;go_simp
     go_at_call 72
     refine(SK.out wr hB).mono ?_;rintro r w9 ⟨JF,rfl,hn9,dO⟩;exact hK _ _ dO ⟨JF,rfl,hn9.keep fun q hq hlt=>⟨Nat.le_trans (by have:=hB.size;omega) hq,hlt,rfl⟩⟩
    ·have e66:=ay qF.1 rfl rfl;clear qO qF;go_simp;exact hK _ _ zR rfl
    ·clear qO qF;refine lT (.const (.agg #[.int .i64 0,.int .i64 0,.slice none 0 0,.int .i64 0,.int .u64 0,.int .i64 0,.int .i64 0])) rfl rfl ?_;exact hK _ _ (zR.alloc zL _) ⟨_,rfl,Bk.new _ _ _⟩
    intro f qx wr hB hR hS;have r5:(fun v w=>∃cs:List Value,v=.agg cs.toArray/\eu (fun q=>wz<=q) D t cs w) (qx 5) wr:=hR 5 rfl rfl;have r7:∃g,qx 7=.slice (some ⟨g,0,none⟩) 1 1/\Bk wr g 76 #[.int .i64 0,.int .i64 0,.slice none 0 0,.int .i64 0,.int .u64 0,.int .i64 0,.int .i64 0]:=hR 7 rfl rfl;clear hR hS;simp only[bJ,List.take_succ_cons,List.take_zero,List.drop_succ_cons,List.drop_zero,List.toList_toArray,List.length_cons,List.length_nil,Act.put,List.setIfInBounds_toArray,List.set_cons_zero,List.set_cons_succ];generalize qx 5=z69 at r5⊢;generalize qx 7=z71 at r7⊢;obtain⟨g71,r7,k71⟩:=r7;subst r7;obtain⟨JF,r5a,SN⟩:=r5;subst r5a;obtain⟨yP,rfl,wR,ql⟩:=SN;have hsp:=HAT.out.sp;subst hsp;have Nh:Hid (∀q,¬fP _ (b1++IE::b2) q->q<wz):=zH fun q hq=>by have:=zK.out.pl.hi q hq;omega
    have rC:=zK.out.pl.old hB;have hrow:wr.ownsRow B1 76 7 (.slice A1 n1 IG) n1 ((ji gg pp).flatMap au.cells):=eY.out wr hB;refine wpAny_ready (rs:=[8]) (by kernel_rfl) (by simp) (AllReady.cons rfl (fun K hK=>?_) AllReady.nil);refine dR (by rfl) ?_;refine dJ (.tmp 66) (.tmp 71) 29 rfl B1 76 iN _ 7 72 Try.underlying29 hN hN0 hN1 U0 rfl (by decide) (.slice A1 n1 IG) n1 _ rfl hrow wr.heap.size (some ⟨g71,0,none⟩) 1 1 _ rfl (Rd.bk k71 k71.lt) rfl (by intro u hu;simp at hu;rcases hu with rfl|rfl|rfl|rfl|rfl|rfl|rfl<;>rfl) (by unfold maxLen;omega) (by omega) (by have:=hB.size;omega) ?_;intro A9 c9 w9 bI jG IK;refine hK _ _ ?_;clear hK K
    obtain⟨g9,NP⟩:∃g9,A9=some ⟨g9,0,none⟩:=by
     rcases bI.2 with⟨_,h0⟩|⟨g,cap,cur,hv,_⟩
     ·omega
     ·injection hv with hv
      exact⟨g,hv⟩
    subst NP
    have hwh:some g9=(pG gg pp).ownBlock\/g9=wr.heap.size:=by
     rw[IJ.out];rcases IK with e|e
     ·exact .inl e
     ·exact .inr (by injection e)
    obtain⟨cur,jh,hcsz⟩:=row_block bI;rw[Nat.succ_mul]at hcsz;have rq:=rC.prt IE (by simp);rw[HAT.out.parts,HAT.out.n2e]at rq;obtain⟨cur0,hc0,_⟩:=row_block rq;have hne0:=aO hrow hc0 (by decide);have yQ:=dN rq hrow (by decide) jG;obtain⟨cur2,hc2,_⟩:=row_block yQ
    have hne:g2≠g9:=by
     intro e;subst e;exact absurd (wP hc2 jh) (by decide)
    have BG:w9.frozen? ⟨g2,2,none⟩=false:=hc2.frozen _;have rD:∃u,w9.cell? ⟨g2,2,none⟩=some u:=⟨_,(World.cell?_of_block (jG.block g2 hc0.lt hne0)).trans (zE hB Gn.out)⟩
    obtain⟨u9,rD⟩:=rD;clear rq hc0 hne0 yQ IK;simp only[Act.put,List.getElem_toArray,List.getElem_cons_zero,List.getElem_cons_succ,List.setIfInBounds_toArray,List.set_cons_zero,List.set_cons_succ];refine wpAny_take (i:=9) (v:=.pointer (some ⟨g9,n1*7,none⟩)) rfl (by kernel_rfl) (by kernel_rfl) (by kernel_rfl) (fun _ _ _ h=>h) (Or.inl ⟨by rfl,?_⟩) ?_
    ·intro w;go_simp
     all_goals first|(intro h;exfalso;omega)|skip
    refine wpAny_take (i:=11) (v:=.pointer (some ⟨g2,2,none⟩)) rfl (by kernel_rfl) (by kernel_rfl) (by kernel_rfl) (fun _ _ _ h=>h) (Or.inl ⟨by rfl,?_⟩) ?_
    ·intro w;go_simp
    simp only[Act.put,List.getElem_toArray,List.getElem_cons_zero,List.getElem_cons_succ,List.setIfInBounds_toArray,List.set_cons_zero,List.set_cons_succ];refine wpAny_ready (rs:=[10,12]) (by kernel_rfl) (by simp) (AllReady.cons rfl (fun K hK=>?_) (AllReady.cons rfl (fun K hK=>?_) AllReady.nil))
    ·refine dR (by rfl) ?_;refine sU dA (.tmp 73) (.tmp 69) (by rfl) (by rfl) yP.cells (by rfl) jh (au.pF yP) hcsz (by obtain⟨_,_,_,_,_,_,_,_,_⟩:=yP;rfl) (fun w3 hp3=>?_);refine hK _ _ ?_;clear hK K;have hfr3:w3.frozen? ⟨g2,2,none⟩=false:=(World.frozen?_of_block (hp3.other g2 hne)).trans BG;have SQ:w3.cell? ⟨g2,2,none⟩=some u9:=(World.cell?_of_block (hp3.other g2 hne)).trans rD;simp only[Act.put,List.getElem_toArray,List.getElem_cons_zero,List.getElem_cons_succ,List.setIfInBounds_toArray,List.set_cons_zero,List.set_cons_succ];refine wpAny_ready (rs:=[12]) (by kernel_rfl) (by simp) (AllReady.cons rfl (fun K hK=>?_) AllReady.nil);refine dR (by rfl) ?_;go_simp;refine hK _ _ ?_;clear hK K;refine wpAny_done (by kernel_rfl) ?_ _;have hput:=kJ.VX rC HAT.out.ps (by rw[HAT.out.parts];rfl) tK.out hBW Nh.out (by have:=hB.size;omega) ql bI (by rw[IJ.out];exact jG) hwh jh hp3;have hoff:p1.length*4+zk gg=2:=by rw[HAT.out.l2,<-II.out];rfl
     rw[hoff]at hput;have hmap:=ou D b1 b2 IE p1 p2 pp HAT.out.ps gg (.slice (some ⟨g9,0,none⟩) (n1+1) c9) yP;rw[HAT.out.l1,HAT.out.l2,wR]at hmap;have rE:=zH (And.intro hmap (And.intro ((zK.out.old hB).XB hput.2 hput.1 hb1 hg1) (uo.trans Nc.out (uo.of ((wL.ja hB).trans hput.2)))));clear hput hmap hoff;clear SQ hfr3 hp3 jh rD BG hwh bI jG ql rC hrow hne hc2 wR;obtain⟨hm,hc⟩:=rE.out;have HR2:Hid (List.map (mJ D) _=wM (k+1) t pt):=zH (hm.trans (by rw[HR.out,<-II.out,DZ t pt k HPK.out]));have iy:=zH hc;clear rE hm hc Nh zK SK eY IJ Gn HAT Nc HR HV;go_wp2
     go_roundw
     case rel=>exact⟨k+1,_,by omega,by go_num,HR2,iy⟩
     case measure=>simp[intOf];omega
    ·refine dR (by rfl) ?_;go_simp;refine hK _ _ ?_;clear hK K;have yR:=jh.far (p:=⟨g2,2,none⟩) (by show g9≠g2;exact fun e=>hne e.symm) (.slice (some ⟨g9,0,none⟩) (n1+1) c9);simp only[Act.put,List.getElem_toArray,List.getElem_cons_zero,List.getElem_cons_succ,List.setIfInBounds_toArray,List.set_cons_zero,List.set_cons_succ];refine wpAny_ready (rs:=[10]) (by kernel_rfl) (by simp) (AllReady.cons rfl (fun K hK=>?_) AllReady.nil);refine dR (by rfl) ?_;refine sU dA (.tmp 73) (.tmp 69) (by rfl) (by rfl) yP.cells (by rfl) yR (au.pF yP) hcsz (by obtain⟨_,_,_,_,_,_,_,_,_⟩:=yP;rfl) (fun w3 hp3=>?_);refine hK _ _ ?_;clear hK K;refine wpAny_done (by kernel_rfl) ?_ _;have yS:p1.length*4+zk gg=2:=by rw[HAT.out.l2,<-II.out];rfl
     have hput:=kJ.Zu rC HAT.out.ps (by rw[HAT.out.parts];rfl) tK.out hBW Nh.out (by have:=hB.size;omega) ql bI (by rw[IJ.out];exact jG) hwh jh hne (by rw[yS];exact hp3);clear yS;have hmap:=ou D b1 b2 IE p1 p2 pp HAT.out.ps gg (.slice (some ⟨g9,0,none⟩) (n1+1) c9) yP;rw[HAT.out.l1,HAT.out.l2,wR]at hmap;have rE:=zH (And.intro hmap (And.intro ((zK.out.old hB).XB hput.2 hput.1 hb1 hg1) (uo.trans Nc.out (uo.of ((wL.ja hB).trans hput.2)))));clear hput hmap;clear yR hp3 jh rD BG hwh bI jG ql rC hrow hne hc2 wR;obtain⟨hm,hc⟩:=rE.out;have HR2:Hid (List.map (mJ D) _=wM (k+1) t pt):=zH (hm.trans (by rw[HR.out,<-II.out,DZ t pt k HPK.out]));have iy:=zH hc;clear rE hm hc Nh zK SK eY IJ Gn HAT Nc HR HV;go_wp2
     go_roundw
     case rel=>exact⟨k+1,_,by omega,by go_num,HR2,iy⟩
     case measure=>simp[intOf];omega
   ·as_aux_lemma=>
    obtain rfl:k=nb:=by omega
    have hr:bs'.map (mJ D)=PT:=by
     rw[HR.out,<-pM.out];have:k=pt.length:=by rw[<-xm.out,List.length_map,xu.out]
     rw[this]
    have HF:Hid (V9 b B B1 D gp s iv m aC kv (.slice (some ⟨gv,0,none⟩) k cv) bs bs' PT w W):=zH ⟨HV.out.1.st,HV.out.1.pl,HV.out.1.kp,hr,HV.out.2⟩;clear hr HR HV;go_wp2
    first|go_end0|refine bodyPost_ret (v:=.tuple #[]) (by simp[results,Try.results48,go_sem]) rfl ?_|refine bodyPost_end (v:=.tuple #[]) (by simp[results,Try.results48,go_sem]) rfl ?_
    exact⟨rfl,bs',HF.out⟩
 case neg=>
 have nI:((n:Int)==0)=false:=zB (by omega)
 obtain⟨gq,cq,hvq,-,-⟩:=ru HO2.out (by omega:0<n);injection hvq with hq1 hq2 hq3
 subst hq1;have vg:=zH (dG HO2.out);have hln:0<L.length:=by rw[UC.out];omega
 obtain⟨l0,hl0⟩:∃z,L[0]=z:=⟨_,rfl⟩
 have hLc:∃L',L=l0::L':=by
  cases hL:L with
  |nil=>rw[hL]at hln;simp at hln
  |cons a l=>exact⟨l,by simp only[hL,List.getElem_cons_zero]at hl0;rw[hl0]⟩
 obtain⟨LP,hlp⟩:∃z,cO m.items true x=z:=⟨_,rfl⟩
 obtain⟨LA,hla⟩:∃z,oz l0 L=z:=⟨_,rfl⟩
 obtain⟨OK1,hok1⟩:∃z,BF l0 L=z:=⟨_,rfl⟩
 obtain⟨Zx,hok2⟩:∃z,(OK1&&O8 LA.name L)=z:=⟨_,rfl⟩
 obtain⟨CN,hcn⟩:∃z,cnt3 L=z:=⟨_,rfl⟩
 obtain⟨We,pY⟩:∃z,(Zx&&ok2 (CN==0) LA.name LP)=z:=⟨_,rfl⟩
 obtain⟨ASK,hask⟩:∃z,(LA.form !=2||CU LP)=z:=⟨_,rfl⟩
 have hR:(if We=false then(pt,dC 15 po m)else(BC pt LA.br LA.part ASK (MO s m (if ASK=true then LA.name else[]) x),m))=(PT,MF):=by
  obtain⟨L',hL'⟩:=hLc;have h1:=HR3.out;rw[hL']at h1
  have h2:(if(mY l0 (l0::L') (cO m.items true x)).1=false then(pt,dC 15 (OO x) m)
   else(BC pt (mY l0 (l0::L') (cO m.items true x)).2.2.br (mY l0 (l0::L') (cO m.items true x)).2.2.part (mY l0 (l0::L') (cO m.items true x)).2.1
    (MO s m (if(mY l0 (l0::L') (cO m.items true x)).2.1=true then(mY l0 (l0::L') (cO m.items true x)).2.2.name else[]) x),m))=(PT,MF):=h1
  rw[<-hL',hlp,HPO.out]at h2
  have h3:mY l0 L LP=(We,ASK,LA):=by
   unfold mY;rw[hla,hok1,hok2,hcn,pY,hask]
  rw[h3]at h2;exact h2
 have hLA:InT pt LA:=by
  have h1:LA∈L:=by
   obtain⟨L',hL'⟩:=hLc;rcases Nb L l0 with h|h
   ·rw[<-hla,h,hL'];simp
   ·rw[<-hla];exact h
  rcases HIN1.out LA h1 with h|h
  ·exact HIN.out LA h
  ·rw[h];exact HIN0.out
 have HR4:=zH hR;have HLA:=zH hLA;have HLP:=zH hlp;have vP:Hid (oz l0 (L.drop 0)=LA/\(true&&BF l0 (L.drop 0))=OK1):=zH ⟨by rw[List.drop_zero];exact hla,by rw[List.drop_zero,Bool.true_and];exact hok1⟩;have Oc:=zH hok2;have HCN:=zH hcn;have Oe:=zH pY;have HASK:=zH hask;obtain⟨g,o,hA,hg,hc⟩:=vg.out.elem (n:=6) mW (by omega) hln;injection hA with hA
 injection hA with hA1 hA2
 subst hA1;subst hA2;rw[hl0]at hc;obtain⟨⟨lnm,lb,lp,lo,lf,lk⟩,Wh⟩:∃z,l0=z:=⟨_,rfl⟩
 have HL0E:=zH Wh;rw[Wh]at hc;obtain⟨M0,hM0⟩:∃z,bytes lnm=z:=⟨_,rfl⟩
 have r0:w2.cell? ⟨gq,0,none⟩=some (.string M0):=by have:=hc 0 _ rfl;simpa[hM0]using this
 have r1:w2.cell? ⟨gq,1,none⟩=some (.int .i64 lb):=by have:=hc 1 _ rfl;simpa using this
 have r2:w2.cell? ⟨gq,2,none⟩=some (.int .i64 lp):=by have:=hc 2 _ rfl;simpa using this
 have r3:w2.cell? ⟨gq,3,none⟩=some (.int .i64 lo):=by have:=hc 3 _ rfl;simpa using this
 have r4:w2.cell? ⟨gq,4,none⟩=some (.int .i64 lf):=by have:=hc 4 _ rfl;simpa using this
 have r5:w2.cell? ⟨gq,5,none⟩=some (.int .i64 lk):=by have:=hc 5 _ rfl;simpa using this
 have hl0c:l0.cells=[.string M0,.int .i64 lb,.int .i64 lp,.int .i64 lo,.int .i64 lf,.int .i64 lk]:=by rw[Wh,<-hM0];rfl
 have HL0C:=zH hl0c;have HR1:=zH r1;have hnpos:0<n:=by omega
 clear hl0 hLc hlp hla hok1 hok2 hcn pY hask hR hLA HR3 hq2 hq3 hg hc Wh hM0 hl0c hn0 hln;go_upto_region 15 with(first|(refine ae gm rfl _ _ rfl rfl [.string M0,.int .i64 lb,.int .i64 lp,.int .i64 lo,.int .i64 lf,.int .i64 lk] rfl (Bk.new w2 _ _) rfl rfl rfl ?_;intro w3 p3;go_frame))
 have hb3:Below w2.heap.size w2 w3:=p3.below _ _ (zR.alloc zL _) zL;obtain⟨gl,hgl⟩:∃z,w2.heap.size=z:=⟨_,rfl⟩
 have hkl:=p3.bk;rw[hgl]at hkl⊢;have HGL:=zH hgl;have HW3:Hid (Below w2.heap.size w2 w3/\Bk w3 gl 141 l0.cells.toArray):=zH ⟨hb3,by rw[HL0C.out];exact hkl⟩;clear r0 r1 r2 r3 r4 r5 hb3 hkl p3 nI;go_wp2_with fail
 go_loopw[12,81] (fun ok i wr=>∃(k:Nat) (okb:Bool) (ya:bP),k<=n/\ok=.bool okb/\i=.int .i64 k/\Hid (oz ya (L.drop k)=LA/\(okb&&BF l0 (L.drop k))=OK1)/\Hid (Below w2.heap.size w2 wr/\Bk wr gl 141 ya.cells.toArray)) (fun _ i _=>n-(intOf i).toNat)
 case atStart=>exact⟨0,true,l0,Nat.zero_le _,rfl,rfl,vP,HW3⟩
 case round=>
  clear vP HW3;obtain⟨k,okb,ya,hk,rfl,rfl,HR,HW⟩:=hrel;obtain⟨wo,rfl⟩:∃wo:World,wo=wr:=⟨_,rfl⟩
  by_cases hlt:k<n
  ·as_aux_lemma=>
   have hkl:k<L.length:=by rw[UC.out];exact hlt
   obtain⟨g,o,hA,hg,hc⟩:=vg.out.elem (n:=6) mW (by omega) hkl;injection hA with hA
   injection hA with hA1 hA2
   subst hA1;subst hA2;have hr:=HR.out;rw[List.drop_eq_getElem_cons hkl]at hr;obtain⟨z,hz⟩:∃z,L[k]=z:=⟨_,rfl⟩
   rw[hz]at hc hr;obtain⟨⟨nm,xb,xp,xo,xf,xk⟩,hze⟩:∃y,z=y:=⟨_,rfl⟩
   have hr1:oz (if ya.part<z.part then z else ya) (L.drop (k+1))=LA:=hr.1;have hr2:(okb&&(z.br==l0.br&&BF l0 (L.drop (k+1))))=OK1:=hr.2;obtain⟨yb,hyb⟩:∃y,(if ya.part<z.part then z else ya)=y:=⟨_,rfl⟩
   rw[hyb]at hr1;have HYB:=zH hyb;obtain⟨eb,heb⟩:∃y,(z.br==l0.br)=y:=⟨_,rfl⟩
   have wU:Hid (oz yb (L.drop (k+1))=LA/\((okb&&eb)&&BF l0 (L.drop (k+1)))=OK1):=zH ⟨hr1,by rw[heb]at hr2;rw[Bool.and_assoc];exact hr2⟩
   have heI:((xb:Int)==(lb:Int))=eb:=by
    rw[<-heb,hze,HL0E.out];exact Ef xb lb
   obtain⟨M,hM⟩:∃M,bytes nm=M:=⟨_,rfl⟩
   have hcc:∀(j:Nat) (u:Value),z.cells[j]? =some u->wo.cell? ⟨gq,k*6+j,none⟩=some u:=fun j u h=>by
    have h1:=hc j u h;rw[Nat.zero_add]at h1;exact(aT HW.out.1 gq _ (by first|exact hg|(rw[HGL.out];exact hg))).trans h1
   rw[hze]at hcc;have r0:wo.cell? ⟨gq,k*6,none⟩=some (.string M):=(hcc 0 _ rfl).trans (by rw[hM]);have r1:wo.cell? ⟨gq,k*6+1,none⟩=some (.int .i64 xb):=hcc 1 _ rfl;have r2:wo.cell? ⟨gq,k*6+2,none⟩=some (.int .i64 xp):=hcc 2 _ rfl;have r3:wo.cell? ⟨gq,k*6+3,none⟩=some (.int .i64 xo):=hcc 3 _ rfl;have r4:wo.cell? ⟨gq,k*6+4,none⟩=some (.int .i64 xf):=hcc 4 _ rfl;have r5:wo.cell? ⟨gq,k*6+5,none⟩=some (.int .i64 xk):=hcc 5 _ rfl;have hzc:z.cells.toArray=#[.string M,.int .i64 xb,.int .i64 xp,.int .i64 xo,.int .i64 xf,.int .i64 xk]:=by rw[hze,<-hM];rfl
   have XC:=zH hzc;have hzp:z.part=xp:=by rw[hze]
   obtain⟨⟨yn,y1,y2,y3,y4,y5⟩,hye⟩:∃y,ya=y:=⟨_,rfl⟩
   have hyp:ya.part=y2:=by rw[hye]
   have HYP:=zH (And.intro hzp hyp);have Yv:Hid (gq<w2.heap.size):=zH (by first|exact hg|(rw[HGL.out];exact hg));clear hc hcc hr hr1 hr2 hz hze hyb heb hM hg HR hzc hzp hyp;go_upto_region 19 with(first|(refine ae gm rfl _ _ rfl rfl [.string M,.int .i64 xb,.int .i64 xp,.int .i64 xo,.int .i64 xf,.int .i64 xk] rfl (Bk.new wo _ _) rfl rfl rfl ?_;intro w4 p4;go_frame))
   have hb4:Below wo.heap.size wo w4:=p4.below _ _ (zR.alloc zL _) zL;obtain⟨gy,L8⟩:∃z,wo.heap.size=z:=⟨_,rfl⟩
   have hky:=p4.bk;have hgg:gy≠gl:=by have:=HW.out.2.lt;omega
   rw[L8]at hky⊢;have SS:Hid (Below w2.heap.size w2 w4/\Bk w4 gl 141 ya.cells.toArray/\Bk w4 gy 141 z.cells.toArray):=zH ⟨HW.out.1.trans (hb4.mono HW.out.1.size),HW.out.2.old hb4,by rw[XC.out];exact hky⟩;have e2:w4.cell? ⟨gy,2,none⟩=some (.int .i64 xp):=hky.cell 2;have l2:w4.cell? ⟨gl,2,none⟩=some (.int .i64 y2):=by have:=SS.out.2.1.cell 2;rw[hye]at this;exact this
   clear r0 r1 r2 r3 r4 r5 hb4 p4 hky L8 HW hye;go_upto_if 89 with fail
   go_cut[] (fun wx=>Hid (Below w2.heap.size w2 wx/\Bk wx gl 141 yb.cells.toArray/\Bk wx gy 141 z.cells.toArray))
   case first=>
    as_aux_lemma=>
    have hyb:=HYB.out;rw[HYP.out.1,HYP.out.2]at hyb
    by_cases hc:y2<xp
    ·have hI:(y2:Int)<(xp:Int):=by omega
     rw[if_pos hc]at hyb;subst hyb;have u0:w4.cell? ⟨gy,0,none⟩=some (.string M):=by have:=SS.out.2.2.cell 0;rw[XC.out]at this;exact this
     have u1:w4.cell? ⟨gy,1,none⟩=some (.int .i64 xb):=by have:=SS.out.2.2.cell 1;rw[XC.out]at this;exact this
     have u3:w4.cell? ⟨gy,3,none⟩=some (.int .i64 xo):=by have:=SS.out.2.2.cell 3;rw[XC.out]at this;exact this
     have u4:w4.cell? ⟨gy,4,none⟩=some (.int .i64 xf):=by have:=SS.out.2.2.cell 4;rw[XC.out]at this;exact this
     have u5:w4.cell? ⟨gy,5,none⟩=some (.int .i64 xk):=by have:=SS.out.2.2.cell 5;rw[XC.out]at this;exact this
     have hkl4:=SS.out.2.1;clear hc;go_wp2_with (first|(refine ae gm rfl _ _ rfl rfl [.string M,.int .i64 xb,.int .i64 xp,.int .i64 xo,.int .i64 xf,.int .i64 xk] rfl hkl4 rfl rfl rfl ?_;intro w5 p5))
     go_meet
     exact zH ⟨p5.below _ _ SS.out.1 (by have:=HGL.out;omega),by rw[XC.out];exact p5.bk,p5.BQ SS.out.2.2 hgg⟩
    ·have hI:¬(y2:Int)<(xp:Int):=by omega
     rw[if_neg hc]at hyb;subst hyb;clear hc;go_wp2_with fail
     go_meet
     exact SS
   case rest=>
   rename World=>EO
   have HK5:=hcut;clear SS hcut e2 l2;obtain⟨w5,rfl⟩:∃z:World,z=EO:=⟨_,rfl⟩
   have e1:w5.cell? ⟨gy,1,none⟩=some (.int .i64 xb):=by have:=HK5.out.2.2.cell 1;rw[XC.out]at this;exact this
   have q1:w5.cell? ⟨gq,1,none⟩=some (.int .i64 lb):=(aT HK5.out.1 gq _ Yv.out).trans HR1.out;go_upto_region 21 with fail
   cases okb
   all_goals
    as_aux_lemma=>
    go_quiet (fail)
    have hd:Below w5.heap.size w5 (w5.drewN nq):=below_drewN zR nq;have HN5:Hid (Below w2.heap.size w2 (w5.drewN nq)/\Bk (w5.drewN nq) gl 141 yb.cells.toArray):=zH ⟨HK5.out.1.trans (hd.mono HK5.out.1.size),HK5.out.2.1.old hd⟩;clear hd HK5 e1 q1;go_wp2
    go_roundw
    case rel=>exact⟨k+1,_,yb,by omega,rfl,by go_num,wU,HN5⟩
    case measure=>simp[intOf];omega
  ·
   obtain rfl:k=n:=by omega
   have hr:=HR.out;rw[List.drop_eq_nil_of_le (by rw[UC.out];exact Nat.le_refl _)]at hr;have hya:ya=LA:=hr.1;have hok:okb=OK1:=by have:=hr.2;simpa[BF]using this
   subst hya;subst hok;obtain⟨⟨an,ab,ap,ao,af,ak⟩,hae⟩:∃z,ya=z:=⟨_,rfl⟩
   obtain⟨MA,hMA⟩:∃z,bytes an=z:=⟨_,rfl⟩
   have hac:ya.cells.toArray=#[.string MA,.int .i64 ab,.int .i64 ap,.int .i64 ao,.int .i64 af,.int .i64 ak]:=by rw[hae,<-hMA];rfl
   have UF:=zH hac;have HAE:=zH hae;have VI:=zH hMA;have g4:wo.cell? ⟨gl,4,none⟩=some (.int .i64 af):=by have:=HW.out.2.cell 4;rw[hac]at this;exact this
   obtain⟨as0,Zy⟩:∃z,(ya.form !=2)=z:=⟨_,rfl⟩
   have has1:((af:Int) !=2)=as0:=by rw[<-Zy,hae];exact U4 af 2
   have HL2:Hid (0+cnt3 (L.drop 0)=CN/\(okb&&O8 ya.name (L.drop 0))=Zx):=zH ⟨by rw[List.drop_zero,Nat.zero_add];exact HCN.out,by rw[List.drop_zero];exact Oc.out⟩;have XD:Hid ((as0||CU LP)=ASK):=zH (by rw[<-Zy];exact HASK.out);clear hr hac hae hMA Zy HR HASK HCN Oc hlt hk;go_wp2_with fail
   clear g4
   go_loopw[11,12,107] (fun nn ok i wr=>∃(j q:Nat) (okb:Bool),j<=k/\q<=j/\nn=.int .i64 q/\ok=.bool okb/\i=.int .i64 j/\Hid (q+cnt3 (L.drop j)=CN/\(okb&&O8 ya.name (L.drop j))=Zx)/\Hid (Below w2.heap.size w2 wr/\Bk wr gl 141 ya.cells.toArray)) (fun _ _ i _=>k-(intOf i).toNat)
   case atStart=>exact⟨0,0,okb,Nat.zero_le _,Nat.le_refl _,rfl,rfl,rfl,HL2,HW⟩
   case round=>
    clear HL2 HW;obtain⟨j,q,okb,hj,hq,rfl,rfl,rfl,HR,HW⟩:=hrel;obtain⟨wo,rfl⟩:∃wo:World,wo=wr:=⟨_,rfl⟩
    by_cases hlt:j<k
    ·as_aux_lemma=>
     have hkl:j<L.length:=by rw[UC.out];exact hlt
     obtain⟨g,o,hA,hg,hc⟩:=vg.out.elem (n:=6) mW (by omega) hkl;injection hA with hA
     injection hA with hA1 hA2
     subst hA1;subst hA2;have hr:=HR.out;rw[List.drop_eq_getElem_cons hkl]at hr;obtain⟨z,hz⟩:∃z,L[j]=z:=⟨_,rfl⟩
     rw[hz]at hc hr;obtain⟨⟨nm,xb,xp,xo,xf,xk⟩,hze⟩:∃y,z=y:=⟨_,rfl⟩
     have hr1:q+((if z.form=3 then 1 else 0)+cnt3 (L.drop (j+1)))=CN:=hr.1;have hr2:(okb&&((z.form !=3||z.name==ya.name)&&O8 ya.name (L.drop (j+1))))=Zx:=hr.2;have HR1:=zH hr1;have HR2:=zH hr2;obtain⟨M,hM⟩:∃M,bytes nm=M:=⟨_,rfl⟩
     have hcc:∀(i:Nat) (u:Value),z.cells[i]? =some u->wo.cell? ⟨gq,j*6+i,none⟩=some u:=fun i u h=>by
      have h1:=hc i u h;rw[Nat.zero_add]at h1;exact(aT HW.out.1 gq _ (by first|exact hg|(rw[HGL.out];exact hg))).trans h1
     rw[hze]at hcc;have r0:wo.cell? ⟨gq,j*6,none⟩=some (.string M):=(hcc 0 _ rfl).trans (by rw[hM]);have r1:wo.cell? ⟨gq,j*6+1,none⟩=some (.int .i64 xb):=hcc 1 _ rfl;have r2:wo.cell? ⟨gq,j*6+2,none⟩=some (.int .i64 xp):=hcc 2 _ rfl;have r3:wo.cell? ⟨gq,j*6+3,none⟩=some (.int .i64 xo):=hcc 3 _ rfl;have r4:wo.cell? ⟨gq,j*6+4,none⟩=some (.int .i64 xf):=hcc 4 _ rfl;have r5:wo.cell? ⟨gq,j*6+5,none⟩=some (.int .i64 xk):=hcc 5 _ rfl;obtain⟨en,hen⟩:∃y,(z.name==ya.name)=y:=⟨_,rfl⟩
     have wV:(M.toList==MA.toList)=en:=by
      rw[<-hen,hze,HAE.out,<-hM,<-VI.out,aF,aF]
     have HZF:Hid (z.form=xf):=zH (by rw[hze]);have Jb:=zH hen;have Zz:=zH wV;clear hc hcc hr hr1 hr2 hz hze hM hg HR hen wV;go_upto_region 27 with(first|(refine ae gm rfl _ _ rfl rfl [.string M,.int .i64 xb,.int .i64 xp,.int .i64 xo,.int .i64 xf,.int .i64 xk] rfl (Bk.new wo _ _) rfl rfl rfl ?_;intro w4 p4;go_frame))
     have hb4:Below wo.heap.size wo w4:=p4.below _ _ (zR.alloc zL _) zL;obtain⟨gy,L8⟩:∃z,wo.heap.size=z:=⟨_,rfl⟩
     have hky:=p4.bk;rw[L8]at hky⊢;have XE:Hid (Below w2.heap.size w2 w4/\Bk w4 gl 141 ya.cells.toArray):=zH ⟨HW.out.1.trans (hb4.mono HW.out.1.size),HW.out.2.old hb4⟩;have e4:w4.cell? ⟨gy,4,none⟩=some (.int .i64 xf):=hky.cell 4;have e0:w4.cell? ⟨gy,0,none⟩=some (.string M):=hky.cell 0;have l0':w4.cell? ⟨gl,0,none⟩=some (.string MA):=by have:=XE.out.2.cell 0;rw[UF.out]at this;exact this
     have hq9:q<=100000:=by omega
     clear r0 r1 r2 r3 r4 r5 hb4 p4 hky L8 HW
     by_cases h3:xf=3
     ·as_aux_lemma=>
      have e3:((xf:Int)==3)=true:=by rw[beq_iff_eq];omega
      have hr1:=HR1.out;have hr2:=HR2.out;rw[HZF.out,h3]at hr1 hr2;rw[if_pos rfl]at hr1;rw[Jb.out]at hr2;have wU:Hid (q+1+cnt3 (L.drop (j+1))=CN/\((okb&&en)&&O8 ya.name (L.drop (j+1)))=Zx):=zH ⟨by omega,by rw[<-hr2,Bool.and_assoc];rfl⟩;have wV:=Zz.out;clear h3 hr1 hr2 HR1 HR2 Jb Zz;cases okb
      ·clear wV;go_wp2
       go_roundw
       case rel=>exact⟨j+1,q+1,_,by omega,by omega,by go_num,rfl,by go_num,wU,XE⟩
       case measure=>simp[intOf];omega
      ·cases en
       ·have hs:¬M.toList=MA.toList:=by simpa using wV
        go_wp2
        go_roundw
        case rel=>exact⟨j+1,q+1,_,by omega,by omega,by go_num,rfl,by go_num,wU,XE⟩
        case measure=>simp[intOf];omega
       ·have hs:M.toList=MA.toList:=by simpa using wV
        go_wp2
        go_roundw
        case rel=>exact⟨j+1,q+1,_,by omega,by omega,by go_num,rfl,by go_num,wU,XE⟩
        case measure=>simp[intOf];omega
     ·as_aux_lemma=>
      have e3:((xf:Int)==3)=false:=zB (by omega)
      have hr1:=HR1.out;have hr2:=HR2.out;rw[HZF.out]at hr1 hr2;rw[if_neg h3]at hr1;have hb:(xf !=3)=true:=by simpa using h3
      rw[hb]at hr2;have wU:Hid (q+cnt3 (L.drop (j+1))=CN/\(okb&&O8 ya.name (L.drop (j+1)))=Zx):=zH ⟨by omega,by rw[<-hr2];simp⟩;clear h3 hr1 hr2 HR1 HR2 Jb Zz hb;go_wp2
      go_roundw
      case rel=>exact⟨j+1,q,okb,by omega,by omega,rfl,rfl,by go_num,wU,XE⟩
      case measure=>simp[intOf];omega
    ·
     obtain rfl:j=k:=by omega
     have hr:=HR.out;rw[List.drop_eq_nil_of_le (by rw[UC.out];exact Nat.le_refl _)]at hr;have hq2:q=CN:=by have:=hr.1;simpa[cnt3]using this
     have hok:okb=Zx:=by have:=hr.2;simpa[O8]using this
     subst hq2;subst hok;have HV:=zH (iy.out.old HW.out.1);have hN1:=tJ.out true wo HV.out;have hle1:=kW m.items true x;rw[HLP.out]at hN1 hle1;obtain⟨np,Gp⟩:∃z,LP.length=z:=⟨_,rfl⟩
     have hnp5:np<=100000:=by have:=OU.out.2.2.1;omega
     have HNP:=zH Gp;have tK:=zH hN1;obtain⟨q0,q1,q2,q3,q4,q5,q6⟩:=zc7 HV.out.kx;simp only[List.getElem?_toArray,List.getElem?_cons_zero,List.getElem?_cons_succ]at q0 q1 q2 q3 q4 q5 q6;have HWo:=HW;clear hr hN1 hle1 Gp HR HLP HW hlt hq hj tJ;go_wp2_with fail
     refine tK.out.mono ?_;rintro r w5 hi;obtain⟨Ap,cp,rfl,hown5,hb5⟩:=hi.out;rw[HNP.out]at hown5⊢;have HRP:=zH (dG hown5);have yT:Hid (Below w2.heap.size w2 w5/\Bk w5 gl 141 ya.cells.toArray):=zH ⟨HWo.out.1.trans (hb5.mono HWo.out.1.size),HWo.out.2.old hb5⟩;have HL3:Hid ((okb&&ok2 (q==0) ya.name (LP.drop 0))=We/\(as0||CU (LP.drop 0))=ASK):=zH ⟨by rw[List.drop_zero];exact Oe.out,by rw[List.drop_zero];exact XD.out⟩;obtain⟨zb,hzb⟩:∃z,(q==0)=z:=⟨_,rfl⟩
     have hzI:((q:Int)==0)=zb:=by rw[<-hzb];exact Ef q 0
     have HL4:Hid ((okb&&ok2 zb ya.name (LP.drop 0))=We/\(as0||CU (LP.drop 0))=ASK):=zH (by rw[<-hzb];exact HL3.out);have HZB:=zH hzI;obtain⟨w5z,hw5z⟩:∃z,w5.heap.size=z:=⟨_,rfl⟩
     have HW5Z:=zH hw5z;clear hi hown5 hb5 hzb hzI tK HL3 Oe XD HWo q0 q1 q2 q3 q4 q5 q6 HV hw5z;go_wp2_with fail
     go_loopw[12,15,129] (fun ok av i wr=>∃(t:Nat) (okb UQ:Bool),t<=np/\ok=.bool okb/\av=.bool UQ/\i=.int .i64 t/\Hid ((okb&&ok2 zb ya.name (LP.drop t))=We/\(UQ||CU (LP.drop t))=ASK)/\Hid (Below w5.heap.size w5 wr/\Below w2.heap.size w2 wr/\Bk wr gl 141 ya.cells.toArray)) (fun _ _ i _=>np-(intOf i).toNat)
     case atStart=>exact⟨0,okb,as0,Nat.zero_le _,rfl,rfl,rfl,HL4,zH ⟨Below.refl _ _,yT.out.1,yT.out.2⟩⟩
     case round=>
      clear HL4 yT;obtain⟨t,okb,UQ,ht,rfl,rfl,rfl,HR,HW⟩:=hrel;obtain⟨wo,rfl⟩:∃wo:World,wo=wr:=⟨_,rfl⟩
      by_cases hlt:t<np
      ·as_aux_lemma=>
       have hkl:t<LP.length:=by rw[HNP.out];exact hlt
       obtain⟨g,o,rfl,hg,hc⟩:=HRP.out.elem (n:=6) mW (by omega) hkl;have hr:=HR.out;rw[List.drop_eq_getElem_cons hkl]at hr;obtain⟨z,hz⟩:∃z,LP[t]=z:=⟨_,rfl⟩
       rw[hz]at hc hr;obtain⟨⟨nm,xb,xp,xo,xf,xk⟩,hze⟩:∃y,z=y:=⟨_,rfl⟩
       have hr1:(okb&&((z.form !=2||(zb&&z.name==ya.name))&&ok2 zb ya.name (LP.drop (t+1))))=We:=hr.1;have hr2:(UQ||(z.form==2||CU (LP.drop (t+1))))=ASK:=hr.2;have HR1:=zH hr1;have HR2:=zH hr2;obtain⟨M,hM⟩:∃M,bytes nm=M:=⟨_,rfl⟩
       have hcc:∀(i:Nat) (u:Value),z.cells[i]? =some u->wo.cell? ⟨g,o+t*6+i,none⟩=some u:=fun i u h=>(aT HW.out.1 g _ (by first|exact hg|(rw[HW5Z.out];exact hg))).trans (hc i u h)
       rw[hze]at hcc;have r0:wo.cell? ⟨g,o+t*6,none⟩=some (.string M):=(hcc 0 _ rfl).trans (by rw[hM]);have r1:wo.cell? ⟨g,o+t*6+1,none⟩=some (.int .i64 xb):=hcc 1 _ rfl;have r2:wo.cell? ⟨g,o+t*6+2,none⟩=some (.int .i64 xp):=hcc 2 _ rfl;have r3:wo.cell? ⟨g,o+t*6+3,none⟩=some (.int .i64 xo):=hcc 3 _ rfl;have r4:wo.cell? ⟨g,o+t*6+4,none⟩=some (.int .i64 xf):=hcc 4 _ rfl;have r5:wo.cell? ⟨g,o+t*6+5,none⟩=some (.int .i64 xk):=hcc 5 _ rfl;obtain⟨en,hen⟩:∃y,(z.name==ya.name)=y:=⟨_,rfl⟩
       have wV:(M.toList==MA.toList)=en:=by
        rw[<-hen,hze,HAE.out,<-hM,<-VI.out,aF,aF]
       have HZF:Hid (z.form=xf):=zH (by rw[hze]);have Jb:=zH hen;have Zz:=zH wV;clear hc hcc hr hr1 hr2 hz hze hM hg HR hen wV;go_upto_region 34 with(first|(refine ae gm rfl _ _ rfl rfl [.string M,.int .i64 xb,.int .i64 xp,.int .i64 xo,.int .i64 xf,.int .i64 xk] rfl (Bk.new wo _ _) rfl rfl rfl ?_;intro w6 p4;go_frame))
       have hb4:Below wo.heap.size wo w6:=p4.below _ _ (zR.alloc zL _) zL;obtain⟨gy,L8⟩:∃z,wo.heap.size=z:=⟨_,rfl⟩
       have hky:=p4.bk;rw[L8]at hky⊢;have HW6:Hid (Below w5.heap.size w5 w6/\Below w2.heap.size w2 w6/\Bk w6 gl 141 ya.cells.toArray):=zH ⟨HW.out.1.trans (hb4.mono HW.out.1.size),HW.out.2.1.trans (hb4.mono HW.out.2.1.size),HW.out.2.2.old hb4⟩;have e4:w6.cell? ⟨gy,4,none⟩=some (.int .i64 xf):=hky.cell 4;have e0:w6.cell? ⟨gy,0,none⟩=some (.string M):=hky.cell 0;have l0':w6.cell? ⟨gl,0,none⟩=some (.string MA):=by have:=HW6.out.2.2.cell 0;rw[UF.out]at this;exact this
       clear r0 r1 r2 r3 r4 r5 hb4 p4 hky L8 HW
       by_cases h3:xf=2
       ·as_aux_lemma=>
        have e3:((xf:Int)==2)=true:=by rw[beq_iff_eq];omega
        have hr1:=HR1.out;have hr2:=HR2.out;rw[HZF.out,h3]at hr1 hr2;rw[Jb.out]at hr1;have wU:Hid ((((okb&&zb)&&en)&&ok2 zb ya.name (LP.drop (t+1)))=We/\(true||CU (LP.drop (t+1)))=ASK):=zH ⟨by rw[<-hr1];cases okb<;>cases zb<;>cases en<;>rfl,by rw[<-hr2];cases UQ<;>rfl⟩;have wV:=Zz.out;have hzI:=HZB.out;clear h3 hr1 hr2 HR1 HR2 Jb Zz HZB;cases okb
        ·clear wV;go_wp2
         go_roundw
         case rel=>exact⟨t+1,_,true,by omega,rfl,rfl,by go_num,wU,HW6⟩
         case measure=>simp[intOf];omega
        ·cases zb
         ·clear wV;go_wp2
          go_roundw
          case rel=>exact⟨t+1,_,true,by omega,rfl,rfl,by go_num,wU,HW6⟩
          case measure=>simp[intOf];omega
         ·cases en
          ·have hs:¬M.toList=MA.toList:=by simpa using wV
           go_wp2
           go_roundw
           case rel=>exact⟨t+1,_,true,by omega,rfl,rfl,by go_num,wU,HW6⟩
           case measure=>simp[intOf];omega
          ·have hs:M.toList=MA.toList:=by simpa using wV
           go_wp2
           go_roundw
           case rel=>exact⟨t+1,_,true,by omega,rfl,rfl,by go_num,wU,HW6⟩
           case measure=>simp[intOf];omega
       ·as_aux_lemma=>
        have e3:((xf:Int)==2)=false:=zB (by omega)
        have hr1:=HR1.out;have hr2:=HR2.out;rw[HZF.out]at hr1 hr2;have hb:(xf !=2)=true:=by simpa using h3
        have hb2:(xf==2)=false:=by simpa using h3
        rw[hb]at hr1;rw[hb2]at hr2;have wU:Hid ((okb&&ok2 zb ya.name (LP.drop (t+1)))=We/\(UQ||CU (LP.drop (t+1)))=ASK):=zH ⟨by rw[<-hr1];simp,by rw[<-hr2];simp⟩;clear h3 hr1 hr2 HR1 HR2 Jb Zz hb hb2 HZB;go_wp2
        go_roundw
        case rel=>exact⟨t+1,okb,UQ,by omega,rfl,rfl,by go_num,wU,HW6⟩
        case measure=>simp[intOf];omega
      ·
       obtain rfl:t=np:=by omega
       have hr:=HR.out;rw[List.drop_eq_nil_of_le (by rw[HNP.out];exact Nat.le_refl _)]at hr;have hok:okb=We:=by have:=hr.1;simpa[ok2]using this
       have has:UQ=ASK:=by have:=hr.2;simpa[CU]using this
       subst hok;subst has;have KT:=zH (iy.out.old HW.out.2.1);have ZA:=zH (Zv.out.trans (HW.out.2.1.mono Zv.out.size));clear hr HR hlt ht HRP HZB;cases okb
       case false=>
        as_aux_lemma=>
        have hR:=HR4.out;rw[if_pos rfl]at hR;injection hR with h1 h2
        have HF:=zH (jr b B s iv m wo 15 po KT.out.st hbB);rw[h2]at HF;subst h1;have q6:wo.cell? ⟨bx,6,none⟩=some (.int .i64 po):=by have:=KT.out.kx.cell 6;simpa using this
        clear h2 HR4;go_wp2_with fail
        refine HF.out.mono ?_;rintro r w6 ⟨rfl,hs6⟩
        have HG:Hid (V9 b B B1 D gp s iv MF aC kv (.slice (some ⟨gv,0,none⟩) nb cv) bs bs pt w w6):=zH
         ⟨hs6.st,KT.out.pl.grown hs6.grown hb1,KT.out.kp.grown hs6.grown (aA hgb),xm.out,(uo.of (wL.ja ZA.out)).trans (uo.grown hs6.grown)⟩
        clear hs6 HF q6;go_wp2
        first|go_end0|refine bodyPost_ret (v:=.tuple #[]) (by simp[results,Try.results48,go_sem]) rfl ?_|refine bodyPost_end (v:=.tuple #[]) (by simp[results,Try.results48,go_sem]) rfl ?_
        exact⟨rfl,bs,HG.out⟩
       case true=>
       have hR:=HR4.out;rw[if_neg (by decide)]at hR;injection hR with h1 h2
       subst h2;obtain⟨AS,hAS⟩:∃z,(if UQ=true then ya.name else[])=z:=⟨_,rfl⟩
       rw[hAS]at h1;obtain⟨t',ht'⟩:∃z,MO s m AS x=z:=⟨_,rfl⟩
       rw[ht']at h1;have pM:=zH h1;have HT:=zH ht';have HASN:=zH hAS;obtain⟨i,hi⟩:∃z,ya.br=z:=⟨_,rfl⟩
       obtain⟨k2,hk2⟩:∃z,ya.part=z:=⟨_,rfl⟩
       have XF:=zH (And.intro hi hk2);obtain⟨brq,hq1,hq2⟩:=HLA.out;rw[hi]at hq1;rw[hk2]at hq2
       have hib:i<bs.length:=by
        have h3:=(List.getElem?_eq_some_iff.1 hq1).1;rw[<-xm.out]at h3
        simpa using h3
       have hbq:mJ D bs[i]=brq:=by
        rw[<-xm.out,List.getElem?_map,List.getElem?_eq_getElem hib]at hq1;injection hq1
       have hkq:k2<bs[i].ps.length:=by
        have h3:brq.ps.length=bs[i].ps.length:=by rw[<-hbq];simp[mJ]
        omega
       obtain⟨b1,b2,IE,p1,p2,pp,g2,n2,c2',hat,Zw,hpp⟩:=KT.out.pl.at xu.out hib hkq
       have hle:pp.gs.length<=10000/\pp.cs.length<=10000:=by
        have h3:brq∈pt:=List.mem_of_getElem? hq1
        have h4:partT D pp∈brq.ps:=by
         rw[<-hbq,hpp];unfold mJ;exact List.mem_map.2 ⟨_,List.getElem_mem hkq,rfl⟩
        have h5:=HRL.out _ h3 _ h4
        simpa[partT]using h5
       have HLE:=zH hle;have HAT:=zH hat;have hi2:i<nb:=by rw[<-xu.out];exact hib
       have hk22:k2<n2:=hat.lt;have hn2m:n2<=9223372036854775807:=hat.le;have z1:wo.cell? ⟨gp,2,none⟩=some (.slice (some ⟨gv,0,none⟩) nb cv):=KT.out.kp.cell 2;have z2:wo.cell? ⟨gv,i*3+2,none⟩=some (.slice (some ⟨g2,0,none⟩) n2 c2'):=hat.c2;have z3:wo.cell? ⟨gl,1,none⟩=some (.int .i64 i):=by have:=HW.out.2.2.cell 1;rw[UF.out]at this;rw[this,<-hi,HAE.out];rfl
       have z4:wo.cell? ⟨gl,2,none⟩=some (.int .i64 k2):=by have:=HW.out.2.2.cell 2;rw[UF.out]at this;rw[this,<-hk2,HAE.out];rfl
       clear h1 hAS ht' hi hk2 hq1 hq2 hbq hkq hib hat Zw hpp hle HR4 HLA;go_upto_region 40 with fail
       go_quiet (fail)
       have hd:Below wo.heap.size wo (wo.drewN nq):=below_drewN zR nq;obtain⟨W,hW⟩:∃z,wo.drewN nq=z:=⟨_,rfl⟩
       rw[hW]at hd⊢;have zK:=zH (KT.out.old hd);have Nc:Hid (uo b (.slice (some ⟨gv,0,none⟩) nb cv) bs bs w W):=zH (uo.of (wL.ja (ZA.out.trans (hd.mono ZA.out.size))));have HGLW:=zH (HW.out.2.2.old hd);obtain⟨x0,x1,x2,x3,x4,x5,x6⟩:=zc7 zK.out.kx;simp only[List.getElem?_toArray,List.getElem?_cons_zero,List.getElem?_cons_succ]at x0 x1 x2 x3 x4 x5 x6;obtain⟨wz,hwz⟩:∃z,W.heap.size=z:=⟨_,rfl⟩
       have hBW:B1<=wz:=by have:=Nc.out.size;omega
       clear z1 z2 z3 z4 hW HW;cases UQ
       case false=>
        obtain⟨A1,IG,D5,hrow0⟩:=HAT.out.own false;obtain⟨n1,hn1⟩:∃z,(ji false pp).length=z:=⟨_,rfl⟩
        rw[hn1]at D5 hrow0;rw[D5]at hrow0;have hn1b:n1<=10000:=by rw[<-hn1];exact HLE.out.2
        have pc:W.cell? ⟨g2,k2*4+3,none⟩=some (.slice A1 n1 IG):=by
         have h1:=HAT.out.cell false;rw[D5]at h1;exact(aT hd g2 _ (World.block_lt_of_cell? _ _ h1)).trans h1
        obtain⟨gg,hgg⟩:∃z,false=z:=⟨_,rfl⟩
        have II:=zH hgg;rw[hgg]at D5 hrow0;have Gn:=zH pc;have IJ:=zH D5;have eY:Hid (∀wr,Below W.heap.size W wr->wr.ownsRow B1 76 7 (.slice A1 n1 IG) n1 ((ji gg pp).flatMap au.cells)):=zH fun wr hB=>aQ (aQ hrow0 hd) hB
        have tK:Hid ((ji gg pp).length=n1):=zH (by rw[<-hgg];exact hn1)
        have SK:Hid (∀W',Below W.heap.size W W'->Calls Try.prog 72 #[.pointer (some ⟨b,0,none⟩),.agg #[c0,c1,c2,c3,c4,c5,.int .i64 po],.string ⟨#[]⟩] W' (wG D t' W')):=zH fun W' hW=>by
         have h1:=pR.out ⟨#[]⟩ bs W' (zK.out.old hW);rw[show(⟨#[]⟩:ByteArray).toList=AS by rw[ByteArray.toList_eq,<-HASN.out];rfl,HT.out]at h1;exact h1
        clear hrow0 D5 hn1 hgg hd;go_upto_region 43 with fail
        refine wu (fun k => false) [.is (.pointer (some ⟨g2, k2 * 4, none⟩)),
          .is (.pointer (some ⟨g2,k2*4,none⟩)),
          .is (.pointer (some ⟨g2,k2*4+3,none⟩)),
          .is (.slice A1 n1 IG),
          .is (.pointer (some ⟨b,0,none⟩)),
          .is (.agg #[c0,c1,c2,c3,c4,c5,.int .i64 po]),
          .st (fun v w=>∃cs:List Value,v=.agg cs.toArray/\eu (fun q=>wz<=q) D t' cs w) (fun _ _ _ hb ⟨cs,h1,h2⟩=>⟨cs,h1,h2.old hb⟩),
          .is (.int .i64 (n1:Nat)),
          .st (fun v w=>∃g,v=.slice (some ⟨g,0,none⟩) 1 1/\Bk w g 76 #[.int .i64 0,.int .i64 0,.slice none 0 0,.int .i64 0,.int .u64 0,.int .i64 0,.int .i64 0]) (fun _ _ _ hb ⟨g,h1,h2⟩=>⟨g,h1,h2.old hb⟩)] [5,6,7,8] 6 #[true,true,true,true,true,true,true,true,true,false,false,false,false,false,false] (by kernel_rfl) (by kernel_rfl) (by kernel_rfl) (by kernel_rfl) (by kernel_rfl)
          (fun C=>.c (px C rfl (fun _ _=>rfl)) <|
          .c (px C rfl (fun _ _=>rfl)) <|
          .c (px C rfl (fun _ _=>rfl)) <|
          .c (px C rfl (fun _ h=>bW (mM (bc h pc)))) <|
          .c (px C rfl (fun _ _=>rfl)) <|
          .c (pz [] [5] (by kernel_rfl) fun qK qa wr hB qO qF hK=>?_) <|
          .c (pz [4,5] [] (by kernel_rfl) fun qK qa wr hB qO qF hK=>?_) <|
          .c (pz [3] [] (by kernel_rfl) fun qK qa wr hB qO qF hK=>?_) <|
          .c (pz [] [] (by kernel_rfl) fun qK qa wr hB qO qF hK=>?_) <| .nil) ?_
        ·have e5:qa.tmps[5]? =some (.pointer (some ⟨bx,0,none⟩)):=qO.1.trans rfl;clear qO qF;have hx0:=zE hB x0;have hx1:=zE hB x1;have hx2:=zE hB x2;have hx3:=zE hB x3;have hx4:=zE hB x4;have hx5:=zE hB x5;have hx6:=zE hB x6;go_simp;exact hK _ _ zR rfl
        ·have e187:=ay qF.1 rfl rfl;have e188:=ay qF.2.1 rfl rfl;clear qO qF;go_simp
         go_at_call 72
         refine(SK.out wr hB).mono ?_;rintro r w9 ⟨JF,rfl,hn9,dO⟩;exact hK _ _ dO ⟨JF,rfl,hn9.keep fun q hq hlt=>⟨Nat.le_trans (by have:=hB.size;omega) hq,hlt,rfl⟩⟩
        ·have e186:=ay qF.1 rfl rfl;clear qO qF;go_simp;exact hK _ _ zR rfl
        ·clear qO qF;refine lT (.const (.agg #[.int .i64 0,.int .i64 0,.slice none 0 0,.int .i64 0,.int .u64 0,.int .i64 0,.int .i64 0])) rfl rfl ?_;exact hK _ _ (zR.alloc zL _) ⟨_,rfl,Bk.new _ _ _⟩
        intro f qx wr hB hR hS;have r6:(fun v w=>∃cs:List Value,v=.agg cs.toArray/\eu (fun q=>wz<=q) D t' cs w) (qx 6) wr:=hR 6 rfl rfl;have r8:∃g,qx 8=.slice (some ⟨g,0,none⟩) 1 1/\Bk wr g 76 #[.int .i64 0,.int .i64 0,.slice none 0 0,.int .i64 0,.int .u64 0,.int .i64 0,.int .i64 0]:=hR 8 rfl rfl;clear hR hS;simp only[bJ,List.take_succ_cons,List.take_zero,List.drop_succ_cons,List.drop_zero,List.toList_toArray,List.length_cons,List.length_nil,Act.put,List.setIfInBounds_toArray,List.set_cons_zero,List.set_cons_succ];generalize qx 6=z189 at r6⊢;generalize qx 8=z191 at r8⊢;obtain⟨g191,r8,k191⟩:=r8;subst r8;obtain⟨JF,r6a,SN⟩:=r6;subst r6a;obtain⟨yP,rfl,wR,ql⟩:=SN;have hsp:=HAT.out.sp;subst hsp;have Nh:Hid (∀q,¬fP _ (b1++IE::b2) q->q<wz):=zH fun q hq=>by have:=zK.out.pl.hi q hq;omega
        have rC:=zK.out.pl.old hB;have hrow:wr.ownsRow B1 76 7 (.slice A1 n1 IG) n1 ((ji gg pp).flatMap au.cells):=eY.out wr hB;refine wpAny_ready (rs:=[9]) (by kernel_rfl) (by simp) (AllReady.cons rfl (fun K hK=>?_) AllReady.nil);refine dR (by rfl) ?_;refine dJ (.tmp 186) (.tmp 191) 29 rfl B1 76 iN _ 7 72 Try.underlying29 hN hN0 hN1 U0 rfl (by decide) (.slice A1 n1 IG) n1 _ rfl hrow wr.heap.size (some ⟨g191,0,none⟩) 1 1 _ rfl (Rd.bk k191 k191.lt) rfl (by intro u hu;simp at hu;rcases hu with rfl|rfl|rfl|rfl|rfl|rfl|rfl<;>rfl) (by unfold maxLen;omega) (by omega) (by have:=hB.size;omega) ?_;intro A9 c9 w9 bI jG IK;refine hK _ _ ?_;clear hK K
        obtain⟨g9,NP⟩:∃g9,A9=some ⟨g9,0,none⟩:=by
         rcases bI.2 with⟨_,h0⟩|⟨g,cap,cur,hv,_⟩
         ·omega
         ·injection hv with hv
          exact⟨g,hv⟩
        subst NP
        have hwh:some g9=(pG gg pp).ownBlock\/g9=wr.heap.size:=by
         rw[IJ.out];rcases IK with e|e
         ·exact .inl e
         ·exact .inr (by injection e)
        obtain⟨cur,jh,hcsz⟩:=row_block bI;rw[Nat.succ_mul]at hcsz;have rq:=rC.prt IE (by simp);rw[HAT.out.parts,HAT.out.n2e]at rq;obtain⟨cur0,hc0,_⟩:=row_block rq;have hne0:=aO hrow hc0 (by decide);have yQ:=dN rq hrow (by decide) jG;obtain⟨cur2,hc2,_⟩:=row_block yQ
        have hne:g2≠g9:=by
         intro e;subst e;exact absurd (wP hc2 jh) (by decide)
        have BG:w9.frozen? ⟨g2,k2*4+3,none⟩=false:=hc2.frozen _;have rD:∃u,w9.cell? ⟨g2,k2*4+3,none⟩=some u:=⟨_,(World.cell?_of_block (jG.block g2 hc0.lt hne0)).trans (zE hB Gn.out)⟩
        obtain⟨u9,rD⟩:=rD;clear rq hc0 hne0 yQ IK;simp only[Act.put,List.getElem_toArray,List.getElem_cons_zero,List.getElem_cons_succ,List.setIfInBounds_toArray,List.set_cons_zero,List.set_cons_succ];refine wpAny_take (i:=10) (v:=.pointer (some ⟨g9,n1*7,none⟩)) rfl (by kernel_rfl) (by kernel_rfl) (by kernel_rfl) (fun _ _ _ h=>h) (Or.inl ⟨by rfl,?_⟩) ?_
        ·intro w;go_simp
         all_goals first|(intro h;exfalso;omega)|skip
        refine wpAny_take (i:=12) (v:=.pointer (some ⟨g2,k2*4,none⟩)) rfl (by kernel_rfl) (by kernel_rfl) (by kernel_rfl) (fun _ _ _ h=>h) (Or.inl ⟨by rfl,?_⟩) ?_
        ·intro w;go_simp
        refine wpAny_take (i:=13) (v:=.pointer (some ⟨g2,k2*4+3,none⟩)) rfl (by kernel_rfl) (by kernel_rfl) (by kernel_rfl) (fun _ _ _ h=>h) (Or.inl ⟨by rfl,?_⟩) ?_
        ·intro w;go_simp
        simp only[Act.put,List.getElem_toArray,List.getElem_cons_zero,List.getElem_cons_succ,List.setIfInBounds_toArray,List.set_cons_zero,List.set_cons_succ];refine wpAny_ready (rs:=[11,14]) (by kernel_rfl) (by simp) (AllReady.cons rfl (fun K hK=>?_) (AllReady.cons rfl (fun K hK=>?_) AllReady.nil))
        ·refine dR (by rfl) ?_;refine sU dA (.tmp 193) (.tmp 189) (by rfl) (by rfl) yP.cells (by rfl) jh (au.pF yP) hcsz (by obtain⟨_,_,_,_,_,_,_,_,_⟩:=yP;rfl) (fun w3 hp3=>?_);refine hK _ _ ?_;clear hK K;have hfr3:w3.frozen? ⟨g2,k2*4+3,none⟩=false:=(World.frozen?_of_block (hp3.other g2 hne)).trans BG;have SQ:w3.cell? ⟨g2,k2*4+3,none⟩=some u9:=(World.cell?_of_block (hp3.other g2 hne)).trans rD;simp only[Act.put,List.getElem_toArray,List.getElem_cons_zero,List.getElem_cons_succ,List.setIfInBounds_toArray,List.set_cons_zero,List.set_cons_succ];refine wpAny_ready (rs:=[14]) (by kernel_rfl) (by simp) (AllReady.cons rfl (fun K hK=>?_) AllReady.nil);refine dR (by rfl) ?_;go_simp;refine hK _ _ ?_;clear hK K;refine wpAny_done (by kernel_rfl) ?_ _;have hput:=kJ.VX rC HAT.out.ps (by rw[HAT.out.parts];rfl) tK.out hBW Nh.out (by have:=hB.size;omega) ql bI (by rw[IJ.out];exact jG) hwh jh hp3;have hoff:p1.length*4+zk gg=k2*4+3:=by rw[HAT.out.l2,<-II.out];rfl
         rw[hoff]at hput;have hmap:=ou D b1 b2 IE p1 p2 pp HAT.out.ps gg (.slice (some ⟨g9,0,none⟩) (n1+1) c9) yP;rw[HAT.out.l1,HAT.out.l2,wR]at hmap;have rE:=zH (And.intro hmap (And.intro ((zK.out.old hB).XB hput.2 hput.1 hb1 hg1) (uo.trans Nc.out (uo.of ((wL.ja hB).trans hput.2)))));clear hput hmap hoff;clear SQ hfr3 hp3 jh rD BG hwh bI jG ql rC hrow hne hc2 wR;obtain⟨hm,hc⟩:=rE.out;have UG:Hid (V9 b B B1 D gp s iv m aC kv (.slice (some ⟨gv,0,none⟩) nb cv) (b1++IE::b2) _ PT w _):=zH ⟨hc.1.st,hc.1.pl,hc.1.kp,hm.trans (by rw[xm.out,<-pM.out,XF.out.1,XF.out.2,<-II.out]),hc.2⟩;clear rE hm hc Nh zK SK eY IJ Gn HAT Nc;go_wp2
         first|go_end0|refine bodyPost_ret (v:=.tuple #[]) (by simp[results,Try.results48,go_sem]) rfl ?_|refine bodyPost_end (v:=.tuple #[]) (by simp[results,Try.results48,go_sem]) rfl ?_
         exact⟨rfl,_,UG.out⟩
        ·refine dR (by rfl) ?_;go_simp;refine hK _ _ ?_;clear hK K;have yR:=jh.far (p:=⟨g2,k2*4+3,none⟩) (by show g9≠g2;exact fun e=>hne e.symm) (.slice (some ⟨g9,0,none⟩) (n1+1) c9);simp only[Act.put,List.getElem_toArray,List.getElem_cons_zero,List.getElem_cons_succ,List.setIfInBounds_toArray,List.set_cons_zero,List.set_cons_succ];refine wpAny_ready (rs:=[11]) (by kernel_rfl) (by simp) (AllReady.cons rfl (fun K hK=>?_) AllReady.nil);refine dR (by rfl) ?_;refine sU dA (.tmp 193) (.tmp 189) (by rfl) (by rfl) yP.cells (by rfl) yR (au.pF yP) hcsz (by obtain⟨_,_,_,_,_,_,_,_,_⟩:=yP;rfl) (fun w3 hp3=>?_);refine hK _ _ ?_;clear hK K;refine wpAny_done (by kernel_rfl) ?_ _;have yS:p1.length*4+zk gg=k2*4+3:=by rw[HAT.out.l2,<-II.out];rfl
         have hput:=kJ.Zu rC HAT.out.ps (by rw[HAT.out.parts];rfl) tK.out hBW Nh.out (by have:=hB.size;omega) ql bI (by rw[IJ.out];exact jG) hwh jh hne (by rw[yS];exact hp3);clear yS;have hmap:=ou D b1 b2 IE p1 p2 pp HAT.out.ps gg (.slice (some ⟨g9,0,none⟩) (n1+1) c9) yP;rw[HAT.out.l1,HAT.out.l2,wR]at hmap;have rE:=zH (And.intro hmap (And.intro ((zK.out.old hB).XB hput.2 hput.1 hb1 hg1) (uo.trans Nc.out (uo.of ((wL.ja hB).trans hput.2)))));clear hput hmap;clear yR hp3 jh rD BG hwh bI jG ql rC hrow hne hc2 wR;obtain⟨hm,hc⟩:=rE.out;have UG:Hid (V9 b B B1 D gp s iv m aC kv (.slice (some ⟨gv,0,none⟩) nb cv) (b1++IE::b2) _ PT w _):=zH ⟨hc.1.st,hc.1.pl,hc.1.kp,hm.trans (by rw[xm.out,<-pM.out,XF.out.1,XF.out.2,<-II.out]),hc.2⟩;clear rE hm hc Nh zK SK eY IJ Gn HAT Nc;go_wp2
         first|go_end0|refine bodyPost_ret (v:=.tuple #[]) (by simp[results,Try.results48,go_sem]) rfl ?_|refine bodyPost_end (v:=.tuple #[]) (by simp[results,Try.results48,go_sem]) rfl ?_
         exact⟨rfl,_,UG.out⟩
       case true=>
        obtain⟨A1,IG,D5,hrow0⟩:=HAT.out.own true;obtain⟨n1,hn1⟩:∃z,(ji true pp).length=z:=⟨_,rfl⟩
        rw[hn1]at D5 hrow0;rw[D5]at hrow0;have hn1b:n1<=10000:=by rw[<-hn1];exact HLE.out.1
        have pc:W.cell? ⟨g2,k2*4+2,none⟩=some (.slice A1 n1 IG):=by
         have h1:=HAT.out.cell true;rw[D5]at h1;exact(aT hd g2 _ (World.block_lt_of_cell? _ _ h1)).trans h1
        obtain⟨gg,hgg⟩:∃z,true=z:=⟨_,rfl⟩
        have II:=zH hgg;rw[hgg]at D5 hrow0;have Gn:=zH pc;have IJ:=zH D5;have eY:Hid (∀wr,Below W.heap.size W wr->wr.ownsRow B1 76 7 (.slice A1 n1 IG) n1 ((ji gg pp).flatMap au.cells)):=zH fun wr hB=>aQ (aQ hrow0 hd) hB
        have tK:Hid ((ji gg pp).length=n1):=zH (by rw[<-hgg];exact hn1)
        have SK:Hid (∀W',Below W.heap.size W W'->Calls Try.prog 72 #[.pointer (some ⟨b,0,none⟩),.agg #[c0,c1,c2,c3,c4,c5,.int .i64 po],.string MA] W' (wG D t' W')):=zH fun W' hW=>by
         have h1:=pR.out MA bs W' (zK.out.old hW);rw[show(MA:ByteArray).toList=AS by rw[<-VI.out,aF,<-HASN.out,if_pos rfl,HAE.out],HT.out]at h1;exact h1
        have g0:W.cell? ⟨gl,0,none⟩=some (.string MA):=by have:=HGLW.out.cell 0;rw[UF.out]at this;exact this
        clear hrow0 D5 hn1 hgg hd;go_upto_region 42 with fail
        refine wu (fun k => false) [.is (.pointer (some ⟨g2, k2 * 4, none⟩)),
          .is (.pointer (some ⟨g2,k2*4,none⟩)),
          .is (.pointer (some ⟨g2,k2*4+2,none⟩)),
          .is (.slice A1 n1 IG),
          .is (.pointer (some ⟨b,0,none⟩)),
          .is (.agg #[c0,c1,c2,c3,c4,c5,.int .i64 po]),
          .is (.pointer (some ⟨gl,0,none⟩)),
          .is (.string MA),
          .st (fun v w=>∃cs:List Value,v=.agg cs.toArray/\eu (fun q=>wz<=q) D t' cs w) (fun _ _ _ hb ⟨cs,h1,h2⟩=>⟨cs,h1,h2.old hb⟩),
          .is (.int .i64 (n1:Nat)),
          .st (fun v w=>∃g,v=.slice (some ⟨g,0,none⟩) 1 1/\Bk w g 76 #[.int .i64 0,.int .i64 0,.slice none 0 0,.int .i64 0,.int .u64 0,.int .i64 0,.int .i64 0]) (fun _ _ _ hb ⟨g,h1,h2⟩=>⟨g,h1,h2.old hb⟩)] [5,8,9,10] 6 #[true,true,true,true,true,true,true,true,true,true,true,false,false,false,false,false,false] (by kernel_rfl) (by kernel_rfl) (by kernel_rfl) (by kernel_rfl) (by kernel_rfl)
          (fun C=>.c (px C rfl (fun _ _=>rfl)) <|
          .c (px C rfl (fun _ _=>rfl)) <|
          .c (px C rfl (fun _ _=>rfl)) <|
          .c (px C rfl (fun _ h=>bW (mM (bc h pc)))) <|
          .c (px C rfl (fun _ _=>rfl)) <|
          .c (pz [] [5] (by kernel_rfl) fun qK qa wr hB qO qF hK=>?_) <|
          .c (px C rfl (fun _ _=>rfl)) <|
          .c (px C rfl (fun _ h=>bW (Gf (bc h g0)))) <|
          .c (pz [4,5,7] [] (by kernel_rfl) fun qK qa wr hB qO qF hK=>?_) <|
          .c (pz [3] [] (by kernel_rfl) fun qK qa wr hB qO qF hK=>?_) <|
          .c (pz [] [] (by kernel_rfl) fun qK qa wr hB qO qF hK=>?_) <| .nil) ?_
        ·have e5:qa.tmps[5]? =some (.pointer (some ⟨bx,0,none⟩)):=qO.1.trans rfl;clear qO qF;have hx0:=zE hB x0;have hx1:=zE hB x1;have hx2:=zE hB x2;have hx3:=zE hB x3;have hx4:=zE hB x4;have hx5:=zE hB x5;have hx6:=zE hB x6;go_simp;exact hK _ _ zR rfl
        ·have e172:=ay qF.1 rfl rfl;have e173:=ay qF.2.1 rfl rfl;have e175:=ay qF.2.2.1 rfl rfl;clear qO qF;go_simp
         go_at_call 72
         refine(SK.out wr hB).mono ?_;rintro r w9 ⟨JF,rfl,hn9,dO⟩;exact hK _ _ dO ⟨JF,rfl,hn9.keep fun q hq hlt=>⟨Nat.le_trans (by have:=hB.size;omega) hq,hlt,rfl⟩⟩
        ·have e171:=ay qF.1 rfl rfl;clear qO qF;go_simp;exact hK _ _ zR rfl
        ·clear qO qF;refine lT (.const (.agg #[.int .i64 0,.int .i64 0,.slice none 0 0,.int .i64 0,.int .u64 0,.int .i64 0,.int .i64 0])) rfl rfl ?_;exact hK _ _ (zR.alloc zL _) ⟨_,rfl,Bk.new _ _ _⟩
        intro f qx wr hB hR hS;have r8:(fun v w=>∃cs:List Value,v=.agg cs.toArray/\eu (fun q=>wz<=q) D t' cs w) (qx 8) wr:=hR 8 rfl rfl;have r10:∃g,qx 10=.slice (some ⟨g,0,none⟩) 1 1/\Bk wr g 76 #[.int .i64 0,.int .i64 0,.slice none 0 0,.int .i64 0,.int .u64 0,.int .i64 0,.int .i64 0]:=hR 10 rfl rfl;clear hR hS;simp only[bJ,List.take_succ_cons,List.take_zero,List.drop_succ_cons,List.drop_zero,List.toList_toArray,List.length_cons,List.length_nil,Act.put,List.setIfInBounds_toArray,List.set_cons_zero,List.set_cons_succ];generalize qx 8=z176 at r8⊢;generalize qx 10=z178 at r10⊢;obtain⟨g178,r10,k178⟩:=r10;subst r10;obtain⟨JF,r8a,SN⟩:=r8;subst r8a;obtain⟨yP,rfl,wR,ql⟩:=SN;have hsp:=HAT.out.sp;subst hsp;have Nh:Hid (∀q,¬fP _ (b1++IE::b2) q->q<wz):=zH fun q hq=>by have:=zK.out.pl.hi q hq;omega
        have rC:=zK.out.pl.old hB;have hrow:wr.ownsRow B1 76 7 (.slice A1 n1 IG) n1 ((ji gg pp).flatMap au.cells):=eY.out wr hB;refine wpAny_ready (rs:=[11]) (by kernel_rfl) (by simp) (AllReady.cons rfl (fun K hK=>?_) AllReady.nil);refine dR (by rfl) ?_;refine dJ (.tmp 171) (.tmp 178) 29 rfl B1 76 iN _ 7 72 Try.underlying29 hN hN0 hN1 U0 rfl (by decide) (.slice A1 n1 IG) n1 _ rfl hrow wr.heap.size (some ⟨g178,0,none⟩) 1 1 _ rfl (Rd.bk k178 k178.lt) rfl (by intro u hu;simp at hu;rcases hu with rfl|rfl|rfl|rfl|rfl|rfl|rfl<;>rfl) (by unfold maxLen;omega) (by omega) (by have:=hB.size;omega) ?_;intro A9 c9 w9 bI jG IK;refine hK _ _ ?_;clear hK K
        obtain⟨g9,NP⟩:∃g9,A9=some ⟨g9,0,none⟩:=by
         rcases bI.2 with⟨_,h0⟩|⟨g,cap,cur,hv,_⟩
         ·omega
         ·injection hv with hv
          exact⟨g,hv⟩
        subst NP
        have hwh:some g9=(pG gg pp).ownBlock\/g9=wr.heap.size:=by
         rw[IJ.out];rcases IK with e|e
         ·exact .inl e
         ·exact .inr (by injection e)
        obtain⟨cur,jh,hcsz⟩:=row_block bI;rw[Nat.succ_mul]at hcsz;have rq:=rC.prt IE (by simp);rw[HAT.out.parts,HAT.out.n2e]at rq;obtain⟨cur0,hc0,_⟩:=row_block rq;have hne0:=aO hrow hc0 (by decide);have yQ:=dN rq hrow (by decide) jG;obtain⟨cur2,hc2,_⟩:=row_block yQ
        have hne:g2≠g9:=by
         intro e;subst e;exact absurd (wP hc2 jh) (by decide)
        have BG:w9.frozen? ⟨g2,k2*4+2,none⟩=false:=hc2.frozen _;have rD:∃u,w9.cell? ⟨g2,k2*4+2,none⟩=some u:=⟨_,(World.cell?_of_block (jG.block g2 hc0.lt hne0)).trans (zE hB Gn.out)⟩
        obtain⟨u9,rD⟩:=rD;clear rq hc0 hne0 yQ IK;simp only[Act.put,List.getElem_toArray,List.getElem_cons_zero,List.getElem_cons_succ,List.setIfInBounds_toArray,List.set_cons_zero,List.set_cons_succ];refine wpAny_take (i:=12) (v:=.pointer (some ⟨g9,n1*7,none⟩)) rfl (by kernel_rfl) (by kernel_rfl) (by kernel_rfl) (fun _ _ _ h=>h) (Or.inl ⟨by rfl,?_⟩) ?_
        ·intro w;go_simp
         all_goals first|(intro h;exfalso;omega)|skip
        refine wpAny_take (i:=14) (v:=.pointer (some ⟨g2,k2*4,none⟩)) rfl (by kernel_rfl) (by kernel_rfl) (by kernel_rfl) (fun _ _ _ h=>h) (Or.inl ⟨by rfl,?_⟩) ?_
        ·intro w;go_simp
        refine wpAny_take (i:=15) (v:=.pointer (some ⟨g2,k2*4+2,none⟩)) rfl (by kernel_rfl) (by kernel_rfl) (by kernel_rfl) (fun _ _ _ h=>h) (Or.inl ⟨by rfl,?_⟩) ?_
        ·intro w;go_simp
        simp only[Act.put,List.getElem_toArray,List.getElem_cons_zero,List.getElem_cons_succ,List.setIfInBounds_toArray,List.set_cons_zero,List.set_cons_succ];refine wpAny_ready (rs:=[13,16]) (by kernel_rfl) (by simp) (AllReady.cons rfl (fun K hK=>?_) (AllReady.cons rfl (fun K hK=>?_) AllReady.nil))
        ·refine dR (by rfl) ?_;refine sU dA (.tmp 180) (.tmp 176) (by rfl) (by rfl) yP.cells (by rfl) jh (au.pF yP) hcsz (by obtain⟨_,_,_,_,_,_,_,_,_⟩:=yP;rfl) (fun w3 hp3=>?_);refine hK _ _ ?_;clear hK K;have hfr3:w3.frozen? ⟨g2,k2*4+2,none⟩=false:=(World.frozen?_of_block (hp3.other g2 hne)).trans BG;have SQ:w3.cell? ⟨g2,k2*4+2,none⟩=some u9:=(World.cell?_of_block (hp3.other g2 hne)).trans rD;simp only[Act.put,List.getElem_toArray,List.getElem_cons_zero,List.getElem_cons_succ,List.setIfInBounds_toArray,List.set_cons_zero,List.set_cons_succ];refine wpAny_ready (rs:=[16]) (by kernel_rfl) (by simp) (AllReady.cons rfl (fun K hK=>?_) AllReady.nil);refine dR (by rfl) ?_;go_simp;refine hK _ _ ?_;clear hK K;refine wpAny_done (by kernel_rfl) ?_ _;have hput:=kJ.VX rC HAT.out.ps (by rw[HAT.out.parts];rfl) tK.out hBW Nh.out (by have:=hB.size;omega) ql bI (by rw[IJ.out];exact jG) hwh jh hp3;have hoff:p1.length*4+zk gg=k2*4+2:=by rw[HAT.out.l2,<-II.out];rfl
         rw[hoff]at hput;have hmap:=ou D b1 b2 IE p1 p2 pp HAT.out.ps gg (.slice (some ⟨g9,0,none⟩) (n1+1) c9) yP;rw[HAT.out.l1,HAT.out.l2,wR]at hmap;have rE:=zH (And.intro hmap (And.intro ((zK.out.old hB).XB hput.2 hput.1 hb1 hg1) (uo.trans Nc.out (uo.of ((wL.ja hB).trans hput.2)))));clear hput hmap hoff;clear SQ hfr3 hp3 jh rD BG hwh bI jG ql rC hrow hne hc2 wR;obtain⟨hm,hc⟩:=rE.out;have UG:Hid (V9 b B B1 D gp s iv m aC kv (.slice (some ⟨gv,0,none⟩) nb cv) (b1++IE::b2) _ PT w _):=zH ⟨hc.1.st,hc.1.pl,hc.1.kp,hm.trans (by rw[xm.out,<-pM.out,XF.out.1,XF.out.2,<-II.out]),hc.2⟩;clear rE hm hc Nh zK SK eY IJ Gn HAT Nc;go_wp2
         first|go_end0|refine bodyPost_ret (v:=.tuple #[]) (by simp[results,Try.results48,go_sem]) rfl ?_|refine bodyPost_end (v:=.tuple #[]) (by simp[results,Try.results48,go_sem]) rfl ?_
         exact⟨rfl,_,UG.out⟩
        ·refine dR (by rfl) ?_;go_simp;refine hK _ _ ?_;clear hK K;have yR:=jh.far (p:=⟨g2,k2*4+2,none⟩) (by show g9≠g2;exact fun e=>hne e.symm) (.slice (some ⟨g9,0,none⟩) (n1+1) c9);simp only[Act.put,List.getElem_toArray,List.getElem_cons_zero,List.getElem_cons_succ,List.setIfInBounds_toArray,List.set_cons_zero,List.set_cons_succ];refine wpAny_ready (rs:=[13]) (by kernel_rfl) (by simp) (AllReady.cons rfl (fun K hK=>?_) AllReady.nil);refine dR (by rfl) ?_;refine sU dA (.tmp 180) (.tmp 176) (by rfl) (by rfl) yP.cells (by rfl) yR (au.pF yP) hcsz (by obtain⟨_,_,_,_,_,_,_,_,_⟩:=yP;rfl) (fun w3 hp3=>?_);refine hK _ _ ?_;clear hK K;refine wpAny_done (by kernel_rfl) ?_ _;have yS:p1.length*4+zk gg=k2*4+2:=by rw[HAT.out.l2,<-II.out];rfl
         have hput:=kJ.Zu rC HAT.out.ps (by rw[HAT.out.parts];rfl) tK.out hBW Nh.out (by have:=hB.size;omega) ql bI (by rw[IJ.out];exact jG) hwh jh hne (by rw[yS];exact hp3);clear yS;have hmap:=ou D b1 b2 IE p1 p2 pp HAT.out.ps gg (.slice (some ⟨g9,0,none⟩) (n1+1) c9) yP;rw[HAT.out.l1,HAT.out.l2,wR]at hmap;have rE:=zH (And.intro hmap (And.intro ((zK.out.old hB).XB hput.2 hput.1 hb1 hg1) (uo.trans Nc.out (uo.of ((wL.ja hB).trans hput.2)))));clear hput hmap;clear yR hp3 jh rD BG hwh bI jG ql rC hrow hne hc2 wR;obtain⟨hm,hc⟩:=rE.out;have UG:Hid (V9 b B B1 D gp s iv m aC kv (.slice (some ⟨gv,0,none⟩) nb cv) (b1++IE::b2) _ PT w _):=zH ⟨hc.1.st,hc.1.pl,hc.1.kp,hm.trans (by rw[xm.out,<-pM.out,XF.out.1,XF.out.2,<-II.out]),hc.2⟩;clear rE hm hc Nh zK SK eY IJ Gn HAT Nc;go_wp2
         first|go_end0|refine bodyPost_ret (v:=.tuple #[]) (by simp[results,Try.results48,go_sem]) rfl ?_|refine bodyPost_end (v:=.tuple #[]) (by simp[results,Try.results48,go_sem]) rfl ?_
         exact⟨rfl,_,UG.out⟩
end Go.Proofs.Ytbjnhllkdilpfaa
