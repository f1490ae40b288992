/- Part 43 of the proof. No conditions. -/
import Derived.Test.YtbjnhllkdilpfaaGreatZf27
import Derived.Test.YtbjnhllkdilpfaaGreatZf42
import Derived.Test.YtbjnhllkdilpfaaGreatZf33
set_option linter.unusedVariables false
set_option linter.unusedSimpArgs false
set_option maxRecDepth 100000
set_option maxHeartbeats 16000000
namespace Go.Proofs.YtbjnhllkdilpfaaGreat
open Go.RowKit _root_.Go.Proofs.Tryz
theorem qf {e p:Nat} {m:MS} (a:e≠0):(dI e p m).err≠0:=by
 unfold dI
 split
 ·exact a
 assumption
theorem J6 {s:ai} {op:Nat} {d a:Str} {p:Nat} {m:MS} (h:(pF s op d a p m).2.err=0):(pF s op d a p m).2=m:=by
 unfold pF at h⊢
 split
 ·rename_i c;rw[zF3 c]at h;exact absurd h (qf (by decide))
 rename_i c
 rw[zF2 c]at h
 split
 ·rename_i b;rw[zF3 b]at h;exact absurd h (qf (by decide))
 rfl
theorem qU {s:ai} {op:Nat} {d a:Str} {p:Nat} {ks:List Int} {m:MS} (h:(nV s op d a p ks m).2.err=0):(nV s op d a p ks m).2=m:=by
 unfold nV at h⊢
 split
 ·rfl
 rename_i j
 rw[zF2 j]at h
 split
 ·rfl
 rename_i e
 rw[zF2 e]at h
 split
 ·rfl
 rename_i g
 rw[zF2 g]at h
 split
 ·rfl
 rename_i f
 rw[zF2 f]at h
 split
 ·rename_i c
  rw[zF3 c]at h;simp only at h⊢
  split
  ·rename_i b;rw[zF3 b]at h;exact absurd h (qf (by decide))
  rfl
 rename_i c
 rw[zF2 c]at h
 split
 ·rename_i b;rw[zF3 b]at h;exact J6 h
 rename_i b
 rw[zF2 b]at h;simp only at h⊢
 split
 ·rename_i i;rw[zF3 i]at h;exact absurd h (qf (by decide))
 rfl
theorem qV (s:ai):∀(e:az) (m:MS),(eH s e m).2.err=0->(eH s e m).2=m/\JQ s m e
 |.leaf op n g f a p,m,h=>⟨qU h,qU h⟩
 |.un op x p,m,h=>by
  have b:(eH s (.un op x p) m).2=(eH s x m).2:=qU h;have c:=qV s x m (by rw[<-b];exact h);exact⟨b.trans c.1,b.trans c.1,c.2⟩
 |.bin op x y p,m,h=>by
  have b:(eH s (.bin op x y p) m).2=(eH s y (eH s x m).2).2:=qU h;have c:=qV s y (eH s x m).2 (by rw[<-b];exact h);have d:=qV s x m (by rw[<-c.1,<-b];exact h);have e:=(b.trans c.1).trans d.1;exact⟨e,e,d.2,by have:=c.2;rw[d.1]at this;exact this⟩
theorem Ry {op n b k:Nat} {c a:Str} (h:lS op n b c a k=true):b<=14:=by
 rcases hv:lY op n b c a with _|⟨m,x,y,z⟩
 ·rw[jc hv]at h;cases h
 rw[eQ hv]at h;simp only[zFn,zFt]at h;obtain⟨⟨⟨_,_⟩,d⟩,_⟩:=h;subst d;unfold lY at hv
 (repeat' split at hv)<;>first|(simp at hv;omega)|cases hv
theorem uI:∀e:az,dX e=true->gm e->Q8 e
 |.leaf op n c b a p,h,hb=>⟨hb,by have:=Ry h;omega⟩
 |.un op x p,h,hb=>uI x (by unfold dX at h;simp only[zFn]at h;exact h.2) hb
 |.bin op x y p,h,hb=>by
  unfold dX at h;simp only[zFn]at h;exact⟨uI x h.2.1 hb.1,uI y h.2.2 hb.2⟩
theorem uJ:∀e:az,dX e=true->opsE e
 |.leaf ..,h=>trivial
 |.un op x p,h=>by
  unfold dX at h;simp only[zFn]at h;have:=JX h.1;unfold U5 at this;exact⟨by omega,uJ x h.2⟩
 |.bin op x y p,h=>by
  unfold dX at h;simp only[zFn]at h;have:=FB h.1;unfold U5 at this;exact⟨by omega,uJ x h.2.1,uJ y h.2.2⟩
theorem uK:∀e:az,AU e<=aF e
 |.leaf ..=>zFv _
 |.un op x p=>by have:=uK x;show AU x+1<=1+aF x;omega
 |.bin op x y p=>by
  have:=uK x;have:=uK y
  show max (AU x) (AU y)+1<=1+aF x+aF y
  omega
def RD:az->Nat
 |.leaf _ _ _ _ _ p=>p
 |.un _ _ p=>p
 |.bin _ _ _ p=>p
theorem mM.pos {P:Nat->Prop} {w:World}:∀{e:az} {cs:List Value},mM P w e cs->∃b f a d h c:Value,cs=[b,f,a,d,h,c,.int .i64 (RD e)]/\[b,f,a,d,h,c,.int .i64 (RD e)].all Value.oneCell'=true
 |.leaf ..,cs,h=>⟨_,_,_,_,_,_,h,rfl⟩
 |.un ..,cs,⟨g,xs,h,_⟩=>⟨_,_,_,_,_,_,h,rfl⟩
 |.bin ..,cs,⟨g,xs,a,h,_⟩=>⟨_,_,_,_,_,_,h,rfl⟩
def kY:dh->List dh->dh
 |y,[]=>y
 |y,z::l=>kY (if y.part<z.part then z else y) l
def Dp (l0:dh) (l:List dh):Bool:=l.all λy=>y.br==l0.br
def cnt3:List dh->Nat
 |[]=>0
 |y::l=>(if y.form=3 then 1 else 0)+cnt3 l
def ZN (nm:Str) (l:List dh):Bool:=l.all λy=>y.form !=3||y.name==nm
def ok2 (z:Bool) (nm:Str) (l:List dh):Bool:=l.all λy=>y.form !=2||(z&&y.name==nm)
def Et (l:List dh):Bool:=l.any λy=>y.form==2
def oh (l0:dh) (l lp:List dh):Bool×Bool×dh:=
 (((Dp l0 l&&ZN (kY l0 l).name l)&&ok2 (cnt3 l==0) (kY l0 l).name lp),((kY l0 l).form !=2||Et lp),kY l0 l)
def RF (t:T) (b:dL):dL:={b with ps:=b.ps.modify 0 (Hf true t)}
def tY (k:Nat) (t:T) (bs:List dL):List dL:=(bs.take k).map (RF t)++bs.drop k
def je (s:ai) (x:az) (bs:List dL) (m:MS):List dL×MS:=
 if m.err≠0 then(bs,m)
 else if(eH s x m).1≠2 then(bs,dI 11 (RD x) (eH s x m).2)
 else if(eH s x m).2.err≠0 then(bs,(eH s x m).2)
 else match dE m.items false x with
  |[]=>(tY bs.length (Pz s m [] x) bs,m)
  |l0::l=>
   if(oh l0 (l0::l) (dE m.items true x)).1=false then(bs,dI 15 (RD x) m)
   else(uX bs (oh l0 (l0::l) (dE m.items true x)).2.2.br (oh l0 (l0::l) (dE m.items true x)).2.2.part (oh l0 (l0::l) (dE m.items true x)).2.1
    (Pz s m (if(oh l0 (l0::l) (dE m.items true x)).2.1=true then(oh l0 (l0::l) (dE m.items true x)).2.2.name else[]) x),m)
def InT (bs:List dL) (y:dh):Prop:=∃br,bs[y.br]? =some br/\y.part<br.ps.length
def jS (bs:List dL) (n:Nat):Prop:=∀br∈bs,∀p∈br.ps,p.gs.length<=n/\p.cs.length<=n
theorem PW (a:Str):∀l:List dh,(ed a l).1∈l\/(ed a l).1=Nh
 |[]=>.inr rfl
 |x::l=>by
  unfold ed
  split
  ·exact .inl (by simp)
  rcases PW a l with h|h
  ·exact .inl (by simp[h])
  exact .inr h
theorem Kv (b:List dh) (d:Bool):∀(e:az),∀y∈dE b d e,y∈b\/y=Nh:=by
 have g:∀op f,∀y∈fF b op f d,y∈b\/y=Nh:=by
  intro op f y c;unfold fF at c
  split at c
  ·simp only[zF6,zGi,zHt]at c;subst c;exact PW f b
  simp at c
 intro e
 induction e with
 |leaf op n k f a p=>exact g op f
 |un op x p j=>
  intro y c;rcases zFy.1 c with c|c
  ·exact g _ _ y c
  exact j y c
 |bin op x z p h i=>
  intro y c;rcases zFy.1 c with c|c
  ·exact g _ _ y c
  rcases zFy.1 c with c|c
  ·exact h y c
  exact i y c
theorem PX:∀(l:List dh) (y:dh),kY y l=y\/kY y l∈l
 |[],y=>.inl rfl
 |z::l,y=>by
  unfold kY;rcases PX l (if y.part<z.part then z else y)with h|h
  ·rw[h]
   split
   ·exact .inr (by simp)
   exact .inl rfl
  exact .inr (by simp[h])
theorem RG (t:T) (bs:List dL) (k:Nat) (h:k<bs.length):uX (tY k t bs) k 0 true t=tY (k+1) t bs:=by
 unfold uX tY;rw[zFk h];have e:k=((bs.take k).map (RF t)).length:=by simp;omega
 conv=>lhs;arg 2;rw[e]
 rw[qX,zGc h,zGr,zJa];rfl
theorem YF (t:T) (bs:List dL) (k:Nat) (a:k<bs.length):(tY k t bs)[k]? =some bs[k]:=by
 unfold tY;rw[zGd (by simp;omega),zHd];have e:k+(k-((bs.take k).map (RF t)).length)=k:=by simp;omega
 rw[e,zAg a]
structure yH (b:Nat) (bv:Value) (bs bs':List bQ) (w w':World):Prop where
 os:w'.os=w.os
 tape:w'.tape=w.tape
 output:w'.output=w.output
 size:w.heap.size<=w'.heap.size
 block:∀q,q<w.heap.size->q≠b->aJ bv bs q->w'.heap[q]? =w.heap[q]?
 ap:∀q,q<w.heap.size->aJ bv bs q->aJ bv bs' q
theorem yH.of {b:Nat} {bv:Value} {bs a:List bQ} {w w':World} (h:AX bv bs a w w'):yH b bv bs a w w':=⟨h.os,h.tape,h.output,h.size,λq d _ c=>h.block q d c,h.ap⟩
theorem yH.grown {b:Nat} {bv:Value} {bs:List bQ} {w w':World} (h:w.grownBy w' (some b)):yH b bv bs bs w w':=⟨h.os,h.tape,h.output,h.size,λq a hb _=>h.block q a (aG hb),λ_ _ h=>h⟩
theorem yH.trans {b:Nat} {bv:Value} {bs g e:List bQ} {w f w2:World} (h:yH b bv bs g w f) (a:yH b bv g e f w2):yH b bv bs e w w2:=
 ⟨a.os.trans h.os,a.tape.trans h.tape,a.output.trans h.output,zFi h.size a.size,λq c hb d=>(a.block q (zFs c h.size) hb (h.ap q c d)).trans (h.block q c hb d),λq c d=>a.ap q (zFs c h.size) (h.ap q c d)⟩
structure CdR (b B B1 D gp:Nat) (s:ai) (iv:Value) (m':MS) (ax:Int) (kv bv:Value) (bs bs':List bQ) (pt:List dL) (w w':World):Prop where
 st:jR b B s iv m' w'
 pl:iC B1 D bv bs' w'
 kp:Bk w' gp 29 #[ax,kv,bv]
 tr:bs'.map (fJ D)=pt
 fr:yH b bv bs bs' w w'
theorem iC.low {a D:Nat} {bv:Value} {bs:List bQ} {w:World} (h:iC a D bv bs w) {q:Nat} (d:q<a):aJ bv bs q:=
 ⟨λe=>by have:=(h.dJ.lt q e.symm).1;omega,λx c e=>by have:=((h.prt x c).lt q e.symm).1;omega,λz b e=>by have:=((h.mO z b).lt q e.symm).1;omega⟩
theorem iC.hi {g D:Nat} {bv:Value} {bs:List bQ} {w:World} (h:iC g D bv bs w) (q:Nat) (f:¬aJ bv bs q):q<w.heap.size:=by
 rcases zHu q w.heap.size with a|c
 ·exact a
 refine absurd ⟨λe=>?_,λx d e=>?_,λz b e=>?_⟩ f
 ·have:=(h.dJ.lt q e.symm).2;omega
 ·have:=((h.prt x d).lt q e.symm).2;omega
 have:=((h.mO z b).lt q e.symm).2;omega
theorem Kw {w:World} {B e k n:Nat} {v:Value} {xs:List Value} (h:w.ownsRow B e k v n xs) (i:0<n):∃g c,v=.slice (some ⟨g,0,none⟩) n c/\n<=c/\c<=maxLen:=by
 rcases h.2 with⟨_,j⟩|⟨g,c,a,f,_,_,d,b,_⟩
 ·omega
 exact⟨g,c,f,d,b⟩
theorem zV.out {a:List dh} {w:World} {e:Ending} {w':World} (h:zV a w e w'):∃(A:Option Addr) (c:Nat),e=.returned (.slice A a.length c)/\w'.ownsRow w.heap.size 151 6 (.slice A a.length c) a.length (a.flatMap dh.cells)/\Below w w w':=h
structure Hl (b B B1 D gp bx:Nat) (s:ai) (iv:Value) (m:MS) (ax:Int) (kv bv:Value) (bs:List bQ) (x:az) (cs:List Value) (W:World):Prop where
 st:jR b B s iv m W
 pl:iC B1 D bv bs W
 kp:Bk W gp 29 #[ax,kv,bv]
 ex:mM (λg=>g<B1/\g≠b) W x cs
 kx:Bk W bx 110 cs.toArray
theorem Hl.old {b B d D gp e:Nat} {s:ai} {c:Value} {m:MS} {ax:Int} {a bv:Value} {bs:List bQ} {x:az} {cs:List Value} {W W':World} (h:Hl b B d D gp e s c m ax a bv bs x cs W) (hb:Below W W W'):Hl b B d D gp e s c m ax a bv bs x cs W':=
 ⟨h.st.old hb,h.pl.old hb,h.kp.old hb,h.ex.old hb,h.kx.old hb⟩
theorem iC.yj {f D:Nat} {bv:Value} {bs:List bQ} {w:World} (h:iC f D bv bs w) {q t:Nat} {cs:Array Value} (a:Bk w q t cs) (c:67≠t) (d:69≠t) (e:122≠t):aJ bv bs q:=
 ⟨aN h.dJ a c,λx b=>aN (h.prt x b) a d,λz b=>aN (h.mO z b) a e⟩
theorem jR.cdf {b B n D:Nat} {s:ai} {j:Value} {m:MS} {bv:Value} {bs i:List bQ} {W W':World} (h:jR b B s j m W) (f:iC n D bv bs W) (a:AX bv bs i W W') (hb:b<n):jR b B s j m W':=by
 refine⟨(a.block b h.bk.lt (f.low hb)).trans h.bk,h.Eh.jQ ⟨a.os,a.tape,a.output,a.size,λq o=>a.block q (zFs o (zG5 h.bk.lt)) (f.low (by omega))⟩,?_⟩;refine⟨h.own.1,?_⟩;rcases h.own.2 with t|⟨g,e,c,r,d,l,p⟩
 ·exact .inl t
 have k:Bk W g 151 c:=l;exact .inr ⟨g,e,c,r,d,(a.block g k.lt (f.yj k (by decide) (by decide) (by decide))).trans l,p⟩
theorem Hl.cdf {b B c D gp g:Nat} {s:ai} {j:Value} {m:MS} {ax:Int} {i bv:Value} {bs a:List bQ} {x:az} {cs:List Value} {W W':World} (h:Hl b B c D gp g s j m ax i bv bs x cs W) (d:AX bv bs a W W') (f:iC c D bv a W') (hb:b<c) (l:gp<c):Hl b B c D gp g s j m ax i bv a x cs W':=
 ⟨h.st.cdf h.pl d hb,f,(d.block gp h.kp.lt (h.pl.low l)).trans h.kp,h.ex.keep λq k e=>⟨k,d.block q e (h.pl.low k.1)⟩,(d.block g h.kx.lt (h.pl.yj h.kx (by decide) (by decide) (by decide))).trans h.kx⟩
theorem row_block {w:World} {B e k n c g:Nat} {xs:List Value} (h:w.ownsRow B e k (.slice (some ⟨g,0,none⟩) n c) n xs):∃a,Bk w g e a/\n*k<=a.size:=by
 rcases h.2 with⟨l,_⟩|⟨p,d,a,i,hb,f,j,m,b,o⟩
 ·cases l
 injection i with hv1 hv2 hv3
 injection hv1 with hv1
 injection hv1 with hv1
 subst hv1 hv3;exact⟨a,f,by rw[b];exact zJq _ j⟩
theorem Hl.put {b B d D gp y:Nat} {s:ai} {z:Value} {m:MS} {ax:Int} {A bv:Value} {bs:List bQ} {x:az} {cs:List Value} {W G w2 l:World} {K i k:Nat} {b1 b2:List bQ} {L:bQ} {p1 p2:List aZ} {p:aZ} {w C I wz o n e c:Nat} {g:Bool} {r:ah} {V:Value}
  (h:Hl b B d D gp y s z m ax A bv bs x cs W) (N:AtP d K i k bs G b1 b2 L p1 p2 p w C I) (hb:b<d) (H:gp<d) (J:d<=wz) (E:wz<=W.heap.size) (u:∀q,¬aJ bv bs q->q<wz) (M:k*4+J9 g=o) (R:(kK g p).length=n) (v:okS (λq=>wz<=q) D r W)
  (Q:wM g p=V) (O:W.grownBy w2 V.ownBlock) (t:some e=V.ownBlock\/e=W.heap.size) (f:l.ownsRow d 122 7 (.slice (some ⟨e,0,none⟩) (n+1) c) (n+1) ((kK g p).flatMap ah.cells++r.cells)) (F:w2.grownBy l (some e)):
  ∃a,Hl b B d D gp y s z m ax A bv a x cs (l.setCell ⟨w,o,none⟩ (.slice (some ⟨e,0,none⟩) (n+1) c))/\a.map (fJ D)=uX (bs.map (fJ D)) i k g (eP D r)/\yH b bv bs a W (l.setCell ⟨w,o,none⟩ (.slice (some ⟨e,0,none⟩) (n+1) c)):=by
 obtain⟨rfl,rfl,j,rfl,P,_⟩:=N;subst Q M;have a:=iC.put h.pl j (by rw[P];rfl) R J u E v O t f F;exact⟨_,h.cdf a.2 a.1 hb H,Vb D _ _ _ _ _ _ j g _ r,yH.of a.2⟩
theorem YG {w:World} {g:Nat} {t u:TypeId} {cs b:Array Value} (h:Bk w g t cs) (a:Bk w g u b):t=u:=by
 unfold Bk at h a;rw[h]at a;injection a with a
 injection a
theorem RH (b B B1 D gp:Nat) (s:ai) (iv:Value) (m:MS) (ax:Int) (kv bv:Value) (bs:List bQ) (pt:List dL) (x:az) (cs:List Value) (w:World) (hM:jR b B s iv m w) (bt:b<B) (b3:b<B1) (cw:gp<B1) (f1:B1<=w.heap.size) (dn:iC B1 D bv bs w) (bq:Bk w gp 29 #[ax,kv,bv]) (hx:mM (λg=>g<B1/\g≠b) w x cs)
  (da:bs.map (fJ D)=pt) (hn:m.items.length<=1000) (cd:Q8 x) (cn:opsE x) (cf:aF x<=100000) (cj:AU x<=D) (d6:∀y∈m.items,InT pt y) (co:InT pt Nh) (h0:∀M∈pt,0<M.ps.length) (dm:jS pt 10000):
  Calls prog 46 #[.pointer (some ⟨b,0,none⟩),.pointer (some ⟨gp,0,none⟩),.agg cs.toArray] w λr w'=>r=.returned (.tuple #[])/\∃E,CdR b B B1 D gp s iv (je s x pt m).2 ax kv bv bs E (je s x pt m).1 w w':=by
 obtain⟨⟨PT,MF⟩,d⟩:∃z,je s x pt m=z:=⟨_,rfl⟩
 rw[d];simp only[];have G:=zH d;have F:=zH hM;have nN:=zH da;have RJ:=zH (zA cd (zA cn (zA cf cj)));have e9:=zH d6;have ce:=zH co;have ee:=zH h0;have dl:=zH dm;have HN:=zH hn;have er:=hM.bk.lt;have em:=bq.lt
 have cb:gp≠b:=by
  intro e;subst e;exact absurd (YG bq hM.bk) (by decide)
 obtain⟨c0,c1,c2,c3,c4,c5,h,ck⟩:=hx.pos;obtain⟨po,e⟩:=zN (RD x)
 rw[e]at h ck;have d5:=zH e;have ei:=zH ck;have A:=zH (zA hx (zA dn bq));subst h;have ds:∀g,(g<B1/\g≠b)->g≠b:=λg h=>h.2
 clear d hM da cd cn cf cj d6 co h0 dm hn e hx dn bq;rw[show[c0,c1,c2,c3,c4,c5,Value.int .i64 po].toArray=#[c0,c1,c2,c3,c4,c5,.int .i64 po]from rfl]
 go_enter func46,ntmps46
 have p:=Bk.new w 110 #[c0,c1,c2,c3,c4,c5,po];have d:Below w w (w.alloc (.cells #[c0,c1,c2,c3,c4,c5,po] 110)):=zR.alloc zL _;go_upto_region 1 with fail
 obtain⟨w0,e⟩:=zN (w.alloc (.cells #[c0,c1,c2,c3,c4,c5,po] 110))
 rw[e]at p d⊢;clear e;obtain⟨bx,e⟩:=zN w.heap.size
 have kD:=zH e;rw[e]at p⊢;have ej:=p.lt;have df:bx≠b:=by omega
 have bo:=zH d;have sO:Hid (Hl b B B1 D gp bx s iv m ax kv bv bs x [c0,c1,c2,c3,c4,c5,.int .i64 po] w0):=zH ⟨F.old d,A.2.1.old d,A.2.2.old d,A.1.old d,p⟩;clear p d e F A;have e3:w0.cell? ⟨b,3,none⟩=some (.int .i64 m.err):=sO.st.c3
 by_cases d:m.err=0
 case neg=>
  as_aux_lemma=>
  have jA:((m.err:Int) !=0)=true:=by rw[zG1];omega
  have I:=G.out;unfold je at I;rw[zF3 d]at I;injection I with p U
  subst p;subst U;clear d G;go_wp2
  first|go_end0|refine zFg (v:=.tuple #[]) (by simp[results,results46,go_sem]) rfl ?_|refine zHg (v:=.tuple #[]) (by simp[results,results46,go_sem]) rfl ?_
  exact⟨rfl,bs,sO.st,sO.pl,sO.kp,nN.out,yH.of (AX.nG bo.out)⟩
 case pos=>
 have jA:((m.err:Int) !=0)=false:=by rw[zG0];omega
 have I:=G.out;unfold je at I;rw[zF2 (by omega)]at I;have Q:=zH I;have e7:=zH d;have F:=zH (lM (P:=λg=>g<B1/\g≠b) b B s iv bt ds x _ m w0 HN.out sO.st sO.ex);have A:=zH (λh=>qV s x m h);obtain⟨⟨kx,mk⟩,e⟩:∃z,eH s x m=z:=⟨_,rfl⟩
 rw[e]at F Q A;simp only[]at Q F A;rw[show[c0,c1,c2,c3,c4,c5,Value.int .i64 po].toArray=#[c0,c1,c2,c3,c4,c5,.int .i64 po]from rfl]at F;obtain⟨q0,q1,q2,q3,q4,q5,q6⟩:=zc7 sO.kx;simp only[zF7,zGe,zGg]at q0 q1 q2 q3 q4 q5 q6;have qM:=zH e;clear I G d e;go_wp2_with fail
 refine F.mono ?_;rintro r w1 ⟨rfl,d⟩;have K:=d.grown.size;have e:=zH d;clear d F q0 q1 q2 q3 q4 q5 q6 e3 jA
 by_cases a9:kx=2
 case neg=>
  as_aux_lemma=>
  have TW:(kx !=2)=true:=by rw[zG1];exact a9
  have I:=Q.out;rw[zF3 a9]at I;injection I with p U
  rw[d5.out]at U
  have q6:w1.cell? ⟨bx,6,none⟩=some (.int .i64 po):=by
   have:=(sO.kx.grown e.grown (aG df)).cell 6
   simpa using this
  have HF:=zH (ku b B s iv mk w1 11 po e.st bt);rw[U]at HF;subst p;have b4:MF.err≠0:=by rw[<-U];exact qf (by decide)
  clear a9 Q U;go_wp2_with fail
  refine HF.mono ?_;rintro r w2 ⟨rfl,d⟩;have e3:=d.st.c3;have jA:((MF.err:Int) !=0)=true:=by rw[zG1];omega
  have HG:Hid (CdR b B B1 D gp s iv MF ax kv bv bs bs pt w w2):=zH
   ⟨d.st,(sO.pl.grown e.grown b3).grown d.grown b3,(sO.kp.grown e.grown (aG cb)).grown d.grown (aG cb),nN.out,(yH.of (AX.nG bo.out)).trans (yH.grown (e.grown.trans d.grown))⟩
  clear d HF q6 b4;go_wp2
  first|go_end0|refine zFg (v:=.tuple #[]) (by simp[results,results46,go_sem]) rfl ?_|refine zHg (v:=.tuple #[]) (by simp[results,results46,go_sem]) rfl ?_
  exact⟨rfl,bs,HG.out⟩
 case pos=>
 have TW:(kx !=2)=false:=by rw[zG0];exact a9
 have I:=Q.out;rw[zF2 (by omega)]at I;have Z:=zH I;have e3:=e.st.c3;clear I Q
 by_cases b4:mk.err=0
 case neg=>
  as_aux_lemma=>
  have jA:((mk.err:Int) !=0)=true:=by rw[zG1];omega
  have I:=Z.out;rw[zF3 b4]at I;injection I with p U
  subst p;subst U
  have HG:Hid (CdR b B B1 D gp s iv mk ax kv bv bs bs pt w w1):=zH
   ⟨e.st,sO.pl.grown e.grown b3,sO.kp.grown e.grown (aG cb),nN.out,(yH.of (AX.nG bo.out)).trans (yH.grown e.grown)⟩
  clear a9 Z b4;go_wp2
  first|go_end0|refine zFg (v:=.tuple #[]) (by simp[results,results46,go_sem]) rfl ?_|refine zHg (v:=.tuple #[]) (by simp[results,results46,go_sem]) rfl ?_
  exact⟨rfl,bs,HG.out⟩
 case pos=>
 have jA:((mk.err:Int) !=0)=false:=by rw[zG0];omega
 have I:=Z.out;rw[zF2 (by omega)]at I;obtain⟨e5,G⟩:=A.out b4;have d:=e5.symm;subst d;have xG:=zH G;have d7:Hid (Below w0 w0 w1):=zH (iK.below sO.st e.out);have H:Hid (Hl b B B1 D gp bx s iv m ax kv bv bs x [c0,c1,c2,c3,c4,c5,.int .i64 po] w1):=zH (sO.old d7.out);have J:Hid (Below w w w1):=zH (bo.trans (d7.mono bo.size));have bb:=zH I
 have mJ:Hid (∀(AS:ByteArray) (E:List bQ) (W:World),Hl b B B1 D gp bx s iv m ax kv bv E x [c0,c1,c2,c3,c4,c5,.int .i64 po] W->Calls prog 76 #[.pointer (some ⟨b,0,none⟩),.agg #[c0,c1,c2,c3,c4,c5,po],AS] W (xR D (Pz s m AS.toList x) W)):=zH λAS E W d=>
  (xW (P:=λg=>g<B1/\g≠b) b B s iv m AS bt ds e7.out HN.out x _ W d.st d.ex RJ.1 xG.out RJ.2.1).mono λ_ _=>xR.upTo RJ.2.2.2
 have uS:Hid (∀(F:Bool) (W:World),Hl b B B1 D gp bx s iv m ax kv bv bs x [c0,c1,c2,c3,c4,c5,.int .i64 po] W->Calls prog 75 #[.pointer (some ⟨b,0,none⟩),.agg #[c0,c1,c2,c3,c4,c5,po],.bool F] W (zV (dE m.items F x) W)):=zH λF W d=>
  uB (P:=λg=>g<B1/\g≠b) b B s iv m F HN.out x _ W d.st d.ex RJ.2.2.1
 obtain⟨q0,q1,q2,q3,q4,q5,q6⟩:=zc7 H.kx;simp only[zF7,zGe,zGg]at q0 q1 q2 q3 q4 q5 q6;have am:=uS.out false w1 H.out;have al:=mG m.items false x;have d:=Kv m.items false x;obtain⟨L,hL⟩:=zN (dE m.items false x)
 rw[hL]at am I al d;have bb:=zH I;have dg:=zH d;obtain⟨n,F⟩:=zN L.length
 have et:n<=100000:=by have:=RJ.2.2.1;omega
 have Bj:=zH F;have uu:=zH am;clear I G am hL al d F Z A b4 a9;go_wp2_with fail
 refine uu.mono ?_;rintro r w2 hi;obtain⟨A,c,rfl,d,b8⟩:=hi.out;rw[Bj.out]at d⊢;clear hi;have jM:=zH (H.old b8);have de:=zH d;have cu:=zH (J.trans (b8.mono J.size));clear uu d b8 q0 q1 q2 q3 q4 q5 q6 e3 H J e K
 have cl:0<bs.length:=by
  obtain⟨M,p,_⟩:=ce.out;have U:=(zFc.1 p).1;rw[<-nN.out]at U;simp at U;omega
 obtain⟨gv,cv,e,ec,ea⟩:=Kw jM.pl.dJ cl;obtain⟨nb,d⟩:=zN bs.length
 have AB:=zH d;rw[d]at e cl ec;subst e;clear d;obtain⟨iN,hN,es,am,ZC⟩:=zG4 JD;have eh:nb<=9223372036854775807:=by unfold maxLen at ea;omega
 by_cases a5:n=0
 case pos=>
  have nI:((n:Int)==0)=true:=by rw[zFt];omega
  have e:L=[]:=zHa (by rw[Bj.out];exact a5);have I:=bb.out;rw[e]at I;injection I with p U
  obtain⟨t,ht⟩:=zN (Pz s m [] x)
  rw[ht]at p;have d:Hid (∀(W:World),Hl b B B1 D gp bx s iv m ax kv (.slice (some ⟨gv,0,none⟩) nb cv) bs x [c0,c1,c2,c3,c4,c5,.int .i64 po] W->True):=zH λ_ _=>trivial
  subst U;have pY:=zH p;have HT:=zH ht;have k2:w2.cell? ⟨gp,2,none⟩=some (.slice (some ⟨gv,0,none⟩) nb cv):=jM.kp.cell 2;clear p ht bb e a5 uS d;go_upto_region 8 with fail
  go_wp2_with fail
  clear k2 nI
  go_loopw[51] (λi wr=>∃(k:Nat) (E:List bQ),k<=nb/\i=.int .i64 k/\Hid (E.map (fJ D)=tY k t pt)/\Hid (Hl b B B1 D gp bx s iv m ax kv (.slice (some ⟨gv,0,none⟩) nb cv) E x [c0,c1,c2,c3,c4,c5,.int .i64 po] wr/\yH b (.slice (some ⟨gv,0,none⟩) nb cv) bs E w wr)) (λi _=>nb-(intOf i).toNat)
  case atStart=>exact⟨0,bs,zFj _,rfl,zH (by rw[nN.out];rfl),zH ⟨jM.out,yH.of (AX.nG cu.out)⟩⟩
  case round=>
   clear jM;obtain⟨k,E,hk,rfl,HR,HV⟩:=hrel;obtain⟨W,rfl⟩:∃W:World,W=wr:=⟨_,rfl⟩
   by_cases Y:k<nb
   ·
    have b6:E.length=nb:=by
     have p:=zGv List.length HR.out;rw[zF5]at p;rw[p,<-AB.out];unfold tY;rw[<-nN.out];simp;omega
    have M:k<E.length:=by omega
    have F:k<pt.length:=by rw[<-nN.out,zF5,AB.out];exact Y
    have H:fJ D E[k]=pt[k]:=by
     have a7:=YF t pt k F;rw[<-HR.out,zG2,zAg M]at a7;injection a7
    have G:pt[k].ps.length=E[k].ps.length:=by rw[<-H];simp[fJ]
    have e:0<E[k].ps.length:=by
     rw[<-G];exact ee.out _ (zFe F)
    obtain⟨b1,b2,bw,p1,p2,pp,g2,n2,d0,a6,ct,b9⟩:=HV.1.pl.at b6 M e;obtain⟨A1,PY,FN,d⟩:=a6.own true;obtain⟨n1,a1⟩:=zN ((kK true pp).length)
    rw[a1]at FN d;rw[FN]at d
    have ci:n1<=10000:=by
     have hq:pt[k].ps[0]'(by omega)=partT D pp:=by
      rw[b9]
      have h3:(pt[k].ps)[0]? =some (partT D E[k].ps[0]):=by
       rw[<-H];unfold fJ;simp only[zG2,zAg e,Option.map_some]
      rw[zAg (by omega)]at h3;injection h3
     have bj:=(dl.out _ (zFe F) _ (zFe (by omega:0<pt[k].ps.length))).1;rw[hq]at bj;rw[<-a1]
     simpa[partT,kK]using bj
    have K:=zH a6;have k2:W.cell? ⟨gp,2,none⟩=some (.slice (some ⟨gv,0,none⟩) nb cv):=HV.1.kp.cell 2;have e2:W.cell? ⟨gv,k*3+2,none⟩=some (.slice (some ⟨g2,0,none⟩) n2 d0):=a6.c2;have a2:0<n2:=a6.lt
    have pc:W.cell? ⟨g2,2,none⟩=some (.slice A1 n1 PY):=by
     have p:=a6.cell true;rw[FN]at p;exact p
    obtain⟨gg,X⟩:=zN true
    have RN:=zH X;rw[X]at FN d;have Vg:=zH pc;have ZO:=zH FN;have Dq:Hid (∀wr,Below W.heap.size W wr->wr.ownsRow B1 122 7 (.slice A1 n1 PY) n1 ((kK gg pp).flatMap ah.cells)):=zH λwr J=>aT d J
    have uu:Hid ((kK gg pp).length=n1):=zH (by rw[<-X];exact a1);have Hm:Hid (Hl b B B1 D gp bx s iv m ax kv (.slice (some ⟨gv,0,none⟩) nb cv) E x [c0,c1,c2,c3,c4,c5,.int .i64 po] W):=zH HV.1
    have ZP:Hid (∀W',Below W.heap.size W W'->Calls prog 76 #[.pointer (some ⟨b,0,none⟩),.agg #[c0,c1,c2,c3,c4,c5,po],.string ⟨#[]⟩] W' (xR D t W')):=zH λW' hW=>by
     have p:=mJ.out ⟨#[]⟩ E W' (Hm.old hW);rw[show(⟨#[]⟩:ByteArray).toList=[] by rw[zFm],HT.out]at p;exact p
    obtain⟨wz,eg⟩:=zN W.heap.size
    have ZQ:=zH HV.2;have O:=zH F;have c8:B1<=wz:=by have:=HV.2.size;omega
    clear b6 F e a6 ct b9 d FN a1 X H G;go_upto_region 12 with fail
    refine wu (λk => false) [.is (.pointer (some ⟨g2, 2, none⟩)),
      .is (.pointer (some ⟨g2,2,none⟩)),
      .is (.slice A1 n1 PY),
      .is (.pointer (some ⟨b,0,none⟩)),
      .is (.agg #[c0,c1,c2,c3,c4,c5,po]),
      .st (λv w=>∃cs:List Value,v=.agg cs.toArray/\eG (λq=>wz<=q) D t cs w) (λ_ _ _ hb ⟨cs,p,U⟩=>⟨cs,p,U.old hb⟩),
      .is (.int .i64 (n1:Nat)),
      .st (λv w=>∃g,v=.slice (some ⟨g,0,none⟩) 1 1/\Bk w g 122 #[(),(),"",(),.int .u64 0,(),()]) (λ_ _ _ hb ⟨g,p,U⟩=>⟨g,p,U.old hb⟩)] [5,6,7] 5 #[true,true,true,true,true,true,true,true,false,false,false,false,false] (by kernel_rfl) (by kernel_rfl) (by kernel_rfl) (by kernel_rfl) (by kernel_rfl)
      (λC=>.c (px C rfl (λ_ _=>rfl)) <|
      .c (px C rfl (λ_ _=>rfl)) <|
      .c (px C rfl (λ_ h=>bH (jD (bc h pc)))) <|
      .c (px C rfl (λ_ _=>rfl)) <|
      .c (px C rfl (λ_ h=>bH (dW BZ cZ [c0,c1,c2,c3,c4,c5,.int .i64 po] rfl λj u hu=>by rw[zFr,(Hm.kx.old h).cell j];simpa using hu))) <|
      .c (pz [3,4] [] (by kernel_rfl) λqK qa wr J qO qF hK=>?_) <|
      .c (pz [2] [] (by kernel_rfl) λqK qa wr J qO qF hK=>?_) <|
      .c (pz [] [] (by kernel_rfl) λqK qa wr J qO qF hK=>?_) <| .nil) ?_
    ·have F:=aA qF.1 rfl rfl;have G:=aA qF.2.1 rfl rfl;clear qO qF;go_simp
     go_at_call 76
     refine(ZP.out wr J).mono ?_;rintro r w9 ⟨NW,rfl,be,dM⟩;exact hK _ _ dM ⟨NW,rfl,be.keep λq hq Y=>⟨zFi (by have:=J.size;omega) hq,Y,rfl⟩⟩
    ·have e:=aA qF.1 rfl rfl;clear qO qF;go_simp;exact hK _ _ zR rfl
    ·clear qO qF;refine nX (.const (.agg #[(),(),"",(),.int .u64 0,(),()])) rfl rfl ?_;exact hK _ _ (zR.alloc zL _) ⟨_,rfl,Bk.new _ _ _⟩
    intro f qx wr J I hS;have r5:(λv w=>∃cs:List Value,v=.agg cs.toArray/\eG (λq=>wz<=q) D t cs w) (qx 5) wr:=I 5 rfl rfl;have e:∃g,qx 7=.slice (some ⟨g,0,none⟩) 1 1/\Bk wr g 122 #[(),(),"",(),.int .u64 0,(),()]:=I 7 rfl rfl;clear I hS;simp only[bJ,zF0,zGb,zF1,zFp,zFd,zFh,zF4,Act.put,zFf,zFw,zFx];generalize qx 5=a0 at r5⊢;generalize qx 7=a4 at e⊢;obtain⟨H,e,G⟩:=e;subst e;obtain⟨NW,F,Vh⟩:=r5;subst F;obtain⟨ZR,rfl,Ky,AO⟩:=Vh;have ZT:Hid (∀q,¬aJ _ _ q->q<wz):=zH λq hq=>by have:=Hm.pl.hi q hq;omega
    have Kz:=Hm.pl.old J;have R:wr.ownsRow B1 122 7 (.slice A1 n1 PY) n1 ((kK gg pp).flatMap ah.cells):=Dq.out wr J;have uY:=Kz.prt bw (by rw[K.sp];simp);rw[K.parts,K.n2e]at uY;obtain⟨cm,aa,_⟩:=row_block uY;refine NV (f:=f) (k:=8) (o:=2) rfl (by kernel_rfl) (by kernel_rfl) (λ_ _ _ _ _ h=>h) rfl rfl rfl rfl rfl R G (ah.NR ZR) (by obtain⟨_,_,_,_,_,_,_,_,_⟩:=ZR;rfl) (by omega) (by have:=J.size;omega) (bc J Vg.out) (aa.frozen _) (aN R aa (by decide)) ?_;intro g9 c9 w8 w9 _ PZ ag KC fV _;obtain⟨dr,N,hm,a3⟩:=Hl.put (g:=gg) (Hm.old J) K.out b3 cw c8 (by have:=J.size;omega) ZT.out (by rw[<-RN.out]) uu.out AO ZO.out PZ ag KC fV;rw[Ky]at hm;have a3:=yH.trans ZQ.out ((yH.of (AX.nG J)).trans a3);have Z:Hid (List.map (fJ D) _=tY (k+1) t pt):=zH (hm.trans (by rw[HR.out,<-RN.out,RG t pt k O.out]));have jM:=zH (zA N a3);clear hm N a3 Kz R uY aa PZ ag KC fV AO Ky ZT Hm ZP Dq ZO Vg K ZQ HR HV;simp only[Act.put,zFf,zFw,zFx];go_wp2
    go_roundw
    case rel=>exact⟨k+1,_,by omega,by go_num,Z,jM⟩
    case measure=>simp[intOf];omega
   as_aux_lemma=>
   obtain rfl:k=nb:=by omega
   have S:E.map (fJ D)=PT:=by
    rw[HR.out,<-pY.out];have:k=pt.length:=by rw[<-nN.out,zF5,AB.out]
    rw[this]
   have HF:Hid (CdR b B B1 D gp s iv m ax kv (.slice (some ⟨gv,0,none⟩) k cv) bs E PT w W):=zH ⟨HV.1.st,HV.1.pl,HV.1.kp,S,HV.2⟩;clear S HR HV;go_wp2
   first|go_end0|refine zFg (v:=.tuple #[]) (by simp[results,results46,go_sem]) rfl ?_|refine zHg (v:=.tuple #[]) (by simp[results,results46,go_sem]) rfl ?_
   exact⟨rfl,E,HF.out⟩
 case neg=>
 have nI:((n:Int)==0)=false:=zB (by omega)
 obtain⟨gq,cq,dy,-,-⟩:=Kw de.out (by omega:0<n);injection dy with a7 b7 hq3
 subst a7;have xJ:=zH (fM de.out);have a0:0<L.length:=by rw[Bj.out];omega
 obtain⟨l0,H⟩:=zN (L[0])
 have a4:∃O,L=l0::O:=by
  cases hL:L with
  |nil=>rw[hL]at a0;simp at a0
  |cons a l=>exact⟨l,by simp only[hL,List.getElem_cons_zero]at H;rw[H]⟩
 obtain⟨LP,b6⟩:=zN (dE m.items true x)
 obtain⟨LA,e⟩:=zN (kY l0 L)
 obtain⟨b5,E⟩:=zN (Dp l0 L)
 obtain⟨b0,F⟩:=zN (b5&&ZN LA.name L)
 obtain⟨CN,a2⟩:=zN (cnt3 L)
 obtain⟨YH,vY⟩:=zN (b0&&ok2 (CN==0) LA.name LP)
 obtain⟨a8,G⟩:=zN (LA.form !=2||Et LP)
 have I:(if YH=false then(pt,dI 15 po m)else(uX pt LA.br LA.part a8 (Pz s m (if a8=true then LA.name else[]) x),m))=(PT,MF):=by
  obtain⟨O,M⟩:=a4;have p:=bb.out;rw[M]at p
  have U:(if(oh l0 (l0::O) (dE m.items true x)).1=false then(pt,dI 15 (RD x) m)
   else(uX pt (oh l0 (l0::O) (dE m.items true x)).2.2.br (oh l0 (l0::O) (dE m.items true x)).2.2.part (oh l0 (l0::O) (dE m.items true x)).2.1
    (Pz s m (if(oh l0 (l0::O) (dE m.items true x)).2.1=true then(oh l0 (l0::O) (dE m.items true x)).2.2.name else[]) x),m))=(PT,MF):=p
  rw[<-M,b6,d5.out]at U
  have h3:oh l0 L LP=(YH,a8,LA):=by
   unfold oh;rw[e,E,F,a2,vY,G]
  rw[h3]at U;exact U
 have ad:InT pt LA:=by
  have p:LA∈L:=by
   obtain⟨O,M⟩:=a4;rcases PX L l0 with h|h
   ·rw[<-e,h,M];simp
   rw[<-e];exact h
  rcases dg.out LA p with h|h
  ·exact e9.out LA h
  rw[h];exact ce.out
 have c6:=zH I;have dp:=zH ad;have dq:=zH b6;have vT:Hid (kY l0 (L.drop 0)=LA/\(true&&Dp l0 (L.drop 0))=b5):=zH ⟨by rw[zFp];exact e,by rw[zFp,zJc];exact E⟩;have QL:=zH F;have dd:=zH a2;have QM:=zH vY;have ch:=zH G;obtain⟨g,o,hA,hg,N⟩:=xJ.elem (n:=6) oJ (by omega) a0;injection hA with hA
 injection hA with hA1 hA2
 subst hA1;subst hA2;rw[H]at N;obtain⟨⟨ef,lb,lp,lo,lf,lk⟩,YI⟩:∃z,l0=z:=⟨_,rfl⟩
 have dc:=zH YI;rw[YI]at N;obtain⟨M0,O⟩:=zN (bytes ef)
 have r0:w2.cell? ⟨gq,0,none⟩=some (.string M0):=by have:=N 0 _ rfl;simpa[O]using this
 have r1:w2.cell? ⟨gq,1,none⟩=some (.int .i64 lb):=by have:=N 1 _ rfl;simpa using this
 have r2:w2.cell? ⟨gq,2,none⟩=some (.int .i64 lp):=by have:=N 2 _ rfl;simpa using this
 have r3:w2.cell? ⟨gq,3,none⟩=some (.int .i64 lo):=by have:=N 3 _ rfl;simpa using this
 have r4:w2.cell? ⟨gq,4,none⟩=some (.int .i64 lf):=by have:=N 4 _ rfl;simpa using this
 have r5:w2.cell? ⟨gq,5,none⟩=some (.int .i64 lk):=by have:=N 5 _ rfl;simpa using this
 have M:l0.cells=[.string M0,.int .i64 lb,.int .i64 lp,.int .i64 lo,.int .i64 lf,.int .i64 lk]:=by rw[YI,<-O];rfl
 have d8:=zH M;have Q:=zH r1;have dx:0<n:=by omega
 clear H a4 b6 e E F a2 vY G I ad bb b7 hq3 hg N YI O M a5 a0;go_upto_region 15 with(first|(refine ae iw rfl _ _ rfl rfl [.string M0,.int .i64 lb,.int .i64 lp,.int .i64 lo,.int .i64 lf,.int .i64 lk] rfl (Bk.new w2 _ _) rfl rfl rfl ?_;intro w3 E;go_frame))
 have e:Below w2 w2 w3:=E.below _ _ (zR.alloc zL _) zL;obtain⟨gl,db⟩:=zN w2.heap.size
 have a4:=E.bk;rw[db]at a4⊢;have cc:=zH db;have dj:Hid (Below w2 w2 w3/\Bk w3 gl 151 l0.cells.toArray):=zH ⟨e,by rw[d8.out];exact a4⟩;clear r0 r1 r2 r3 r4 r5 e a4 E nI;go_wp2_with fail
 go_loopw[12,81] (λok i wr=>∃(k:Nat) (e:Bool) (O:dh),k<=n/\ok=.bool e/\i=.int .i64 k/\Hid (kY O (L.drop k)=LA/\(e&&Dp l0 (L.drop k))=b5)/\Hid (Below w2 w2 wr/\Bk wr gl 151 O.cells.toArray)) (λ_ i _=>n-(intOf i).toNat)
 case atStart=>exact⟨0,true,l0,zFj _,rfl,rfl,vT,dj⟩
 case round=>
  clear vT dj;obtain⟨k,e,O,hk,rfl,rfl,HR,HW⟩:=hrel;obtain⟨H,rfl⟩:∃H:World,H=wr:=⟨_,rfl⟩
  by_cases Y:k<n
  ·as_aux_lemma=>
   have a4:k<L.length:=by rw[Bj.out];exact Y
   obtain⟨g,o,hA,hg,N⟩:=xJ.elem (n:=6) oJ (by omega) a4;injection hA with hA
   injection hA with hA1 hA2
   subst hA1;subst hA2;have S:=HR.out;rw[zFk a4]at S;obtain⟨z,hz⟩:=zN (L[k])
   rw[hz]at N S;obtain⟨⟨nm,xb,xp,xo,xf,xk⟩,a0⟩:∃y,z=y:=⟨_,rfl⟩
   have F:kY (if O.part<z.part then z else O) (L.drop (k+1))=LA:=S.1;have E:(e&&(z.br==l0.br&&Dp l0 (L.drop (k+1))))=b5:=S.2;obtain⟨yb,ad⟩:=zN (if O.part<z.part then z else O)
   rw[ad]at F;have e6:=zH ad;obtain⟨eb,a2⟩:=zN (z.br==l0.br)
   have BB:Hid (kY yb (L.drop (k+1))=LA/\((e&&eb)&&Dp l0 (L.drop (k+1)))=b5):=zH ⟨F,by rw[a2]at E;rw[zK8];exact E⟩
   have ez:((xb:Int)==(lb:Int))=eb:=by
    rw[<-a2,a0,dc.out];exact um xb lb
   obtain⟨M,hM⟩:=zN (bytes nm)
   have G:∀(j:Nat) (u:Value),z.cells[j]? =some u->H.cell? ⟨gq,k*6+j,none⟩=some u:=λj u h=>by
    have p:=N j u h;rw[zFr]at p;exact(bK HW.1 gq _ (by first|exact hg|(rw[cc.out];exact hg))).trans p
   rw[a0]at G;have r0:H.cell? ⟨gq,k*6,none⟩=some (.string M):=(G 0 _ rfl).trans (by rw[hM]);have r1:H.cell? ⟨gq,k*6+1,none⟩=some (.int .i64 xb):=G 1 _ rfl;have r2:H.cell? ⟨gq,k*6+2,none⟩=some (.int .i64 xp):=G 2 _ rfl;have r3:H.cell? ⟨gq,k*6+3,none⟩=some (.int .i64 xo):=G 3 _ rfl;have r4:H.cell? ⟨gq,k*6+4,none⟩=some (.int .i64 xf):=G 4 _ rfl;have r5:H.cell? ⟨gq,k*6+5,none⟩=some (.int .i64 xk):=G 5 _ rfl;have ar:z.cells.toArray=#[.string M,.int .i64 xb,.int .i64 xp,.int .i64 xo,.int .i64 xf,.int .i64 xk]:=by rw[a0,<-hM];rfl
   have ZU:=zH ar;have aw:z.part=xp:=by rw[a0]
   obtain⟨⟨yn,y1,y2,y3,y4,y5⟩,aq⟩:∃y,O=y:=⟨_,rfl⟩
   have a5:O.part=y2:=by rw[aq]
   have dv:=zH (zA aw a5);have dz:Hid (gq<w2.heap.size):=zH (by first|exact hg|(rw[cc.out];exact hg));clear N G S F E hz a0 ad a2 hM hg HR ar aw a5;go_upto_region 19 with(first|(refine ae iw rfl _ _ rfl rfl [.string M,.int .i64 xb,.int .i64 xp,.int .i64 xo,.int .i64 xf,.int .i64 xk] rfl (Bk.new H _ _) rfl rfl rfl ?_;intro w4 p4;go_frame))
   have a5:Below H H w4:=p4.below _ _ (zR.alloc zL _) zL;obtain⟨gy,QW⟩:=zN H.heap.size
   have a2:=p4.bk;have X:gy≠gl:=by have:=HW.2.lt;omega
   rw[QW]at a2⊢;have rZ:Hid (Below w2 w2 w4/\Bk w4 gl 151 O.cells.toArray/\Bk w4 gy 151 z.cells.toArray):=zH ⟨HW.1.trans (a5.mono HW.1.size),HW.2.old a5,by rw[ZU.out];exact a2⟩;have e2:w4.cell? ⟨gy,2,none⟩=some (.int .i64 xp):=a2.cell 2;have l2:w4.cell? ⟨gl,2,none⟩=some (.int .i64 y2):=by have:=rZ.2.1.cell 2;rw[aq]at this;exact this
   clear r0 r1 r2 r3 r4 r5 a5 p4 a2 QW HW aq;go_upto_if 89 with fail
   go_cut[] (λwx=>Hid (Below w2 w2 wx/\Bk wx gl 151 yb.cells.toArray/\Bk wx gy 151 z.cells.toArray))
   case first=>
    as_aux_lemma=>
    have ad:=e6.out;rw[dv.1,dv.2]at ad
    by_cases N:y2<xp
    ·have hI:(y2:Int)<(xp:Int):=by omega
     rw[zF3 N]at ad;subst ad;have u0:w4.cell? ⟨gy,0,none⟩=some (.string M):=by have:=rZ.2.2.cell 0;rw[ZU.out]at this;exact this
     have u1:w4.cell? ⟨gy,1,none⟩=some (.int .i64 xb):=by have:=rZ.2.2.cell 1;rw[ZU.out]at this;exact this
     have u3:w4.cell? ⟨gy,3,none⟩=some (.int .i64 xo):=by have:=rZ.2.2.cell 3;rw[ZU.out]at this;exact this
     have u4:w4.cell? ⟨gy,4,none⟩=some (.int .i64 xf):=by have:=rZ.2.2.cell 4;rw[ZU.out]at this;exact this
     have u5:w4.cell? ⟨gy,5,none⟩=some (.int .i64 xk):=by have:=rZ.2.2.cell 5;rw[ZU.out]at this;exact this
     have aq:=rZ.2.1;clear N;go_wp2_with (first|(refine ae iw rfl _ _ rfl rfl [.string M,.int .i64 xb,.int .i64 xp,.int .i64 xo,.int .i64 xf,.int .i64 xk] rfl aq rfl rfl rfl ?_;intro w5 p5))
     go_meet
     exact zH ⟨p5.below _ _ rZ.1 (by have:=cc.out;omega),by rw[ZU.out];exact p5.bk,p5.zJ rZ.2.2 X⟩
    have hI:¬(y2:Int)<(xp:Int):=by omega
    rw[zF2 N]at ad;subst ad;clear N;go_wp2_with fail
    go_meet
    exact rZ
   case rest=>
   rename World=>GU
   have tZ:=hcut;clear rZ hcut e2 l2;obtain⟨w5,rfl⟩:∃z:World,z=GU:=⟨_,rfl⟩
   have e1:w5.cell? ⟨gy,1,none⟩=some (.int .i64 xb):=by have:=tZ.2.2.cell 1;rw[ZU.out]at this;exact this
   have q1:w5.cell? ⟨gq,1,none⟩=some (.int .i64 lb):=(bK tZ.1 gq _ dz.out).trans Q.out;go_upto_region 21 with fail
   cases e
   all_goals
    as_aux_lemma=>
    go_quiet (fail)
    have hd:Below w5 w5 (w5.drewN nq):=zHf zR nq;have aq:Hid (Below w2 w2 (w5.drewN nq)/\Bk (w5.drewN nq) gl 151 yb.cells.toArray):=zH ⟨tZ.1.trans (hd.mono tZ.1.size),tZ.2.1.old hd⟩;clear hd tZ e1 q1;go_wp2
    go_roundw
    case rel=>exact⟨k+1,_,yb,by omega,rfl,by go_num,BB,aq⟩
    case measure=>simp[intOf];omega
  
  obtain rfl:k=n:=by omega
  have S:=HR.out;rw[zFq (by rw[Bj.out];exact zFv _)]at S;have aq:O=LA:=S.1;have bd:e=b5:=by have:=S.2;simpa[Dp]using this
  subst aq;subst bd;obtain⟨⟨an,ab,ap,ao,af,ak⟩,aq⟩:∃z,O=z:=⟨_,rfl⟩
  obtain⟨MA,Xo⟩:=zN (bytes an)
  have ar:O.cells.toArray=#[.string MA,.int .i64 ab,.int .i64 ap,.int .i64 ao,.int .i64 af,.int .i64 ak]:=by rw[aq,<-Xo];rfl
  have Xe:=zH ar;have bh:=zH aq;have UX:=zH Xo;have g4:H.cell? ⟨gl,4,none⟩=some (.int .i64 af):=by have:=HW.2.cell 4;rw[ar]at this;exact this
  obtain⟨bl,aw⟩:=zN (O.form !=2)
  have el:((af:Int) !=2)=bl:=by rw[<-aw,aq];exact XP af 2
  have dk:Hid (0+cnt3 (L.drop 0)=CN/\(e&&ZN O.name (L.drop 0))=b0):=zH ⟨by rw[zFp,zFr];exact dd.out,by rw[zFp];exact QL.out⟩;have ZV:Hid ((bl||Et LP)=a8):=zH (by rw[<-aw];exact ch.out);clear S ar aq Xo aw HR ch dd QL Y hk;go_wp2_with fail
  clear g4
  go_loopw[11,12,107] (λnn ok i wr=>∃(j q:Nat) (e:Bool),j<=k/\q<=j/\nn=.int .i64 q/\ok=.bool e/\i=.int .i64 j/\Hid (q+cnt3 (L.drop j)=CN/\(e&&ZN O.name (L.drop j))=b0)/\Hid (Below w2 w2 wr/\Bk wr gl 151 O.cells.toArray)) (λ_ _ i _=>k-(intOf i).toNat)
  case atStart=>exact⟨0,0,e,zFj _,zFv _,rfl,rfl,rfl,dk,HW⟩
  case round=>
   clear dk HW;obtain⟨j,q,e,hj,hq,rfl,rfl,rfl,HR,HW⟩:=hrel;obtain⟨H,rfl⟩:∃H:World,H=wr:=⟨_,rfl⟩
   by_cases Y:j<k
   ·as_aux_lemma=>
    have a4:j<L.length:=by rw[Bj.out];exact Y
    obtain⟨g,o,hA,hg,N⟩:=xJ.elem (n:=6) oJ (by omega) a4;injection hA with hA
    injection hA with hA1 hA2
    subst hA1;subst hA2;have S:=HR.out;rw[zFk a4]at S;obtain⟨z,hz⟩:=zN (L[j])
    rw[hz]at N S;obtain⟨⟨nm,xb,xp,xo,xf,xk⟩,a0⟩:∃y,z=y:=⟨_,rfl⟩
    have F:q+((if z.form=3 then 1 else 0)+cnt3 (L.drop (j+1)))=CN:=S.1;have E:(e&&((z.form !=3||z.name==O.name)&&ZN O.name (L.drop (j+1))))=b0:=S.2;have Q:=zH F;have Z:=zH E;obtain⟨M,hM⟩:=zN (bytes nm)
    have G:∀(i:Nat) (u:Value),z.cells[i]? =some u->H.cell? ⟨gq,j*6+i,none⟩=some u:=λi u h=>by
     have p:=N i u h;rw[zFr]at p;exact(bK HW.1 gq _ (by first|exact hg|(rw[cc.out];exact hg))).trans p
    rw[a0]at G;have r0:H.cell? ⟨gq,j*6,none⟩=some (.string M):=(G 0 _ rfl).trans (by rw[hM]);have r1:H.cell? ⟨gq,j*6+1,none⟩=some (.int .i64 xb):=G 1 _ rfl;have r2:H.cell? ⟨gq,j*6+2,none⟩=some (.int .i64 xp):=G 2 _ rfl;have r3:H.cell? ⟨gq,j*6+3,none⟩=some (.int .i64 xo):=G 3 _ rfl;have r4:H.cell? ⟨gq,j*6+4,none⟩=some (.int .i64 xf):=G 4 _ rfl;have r5:H.cell? ⟨gq,j*6+5,none⟩=some (.int .i64 xk):=G 5 _ rfl;obtain⟨en,ar⟩:=zN (z.name==O.name)
    have yl:(M.toList==MA.toList)=en:=by
     rw[<-ar,a0,bh.out,<-hM,<-UX.out,aI,aI]
    have bi:Hid (z.form=xf):=zH (by rw[a0]);have NJ:=zH ar;have aw:=zH yl;clear N G S F E hz a0 hM hg HR ar yl;go_upto_region 27 with(first|(refine ae iw rfl _ _ rfl rfl [.string M,.int .i64 xb,.int .i64 xp,.int .i64 xo,.int .i64 xf,.int .i64 xk] rfl (Bk.new H _ _) rfl rfl rfl ?_;intro w4 p4;go_frame))
    have a5:Below H H w4:=p4.below _ _ (zR.alloc zL _) zL;obtain⟨gy,QW⟩:=zN H.heap.size
    have a2:=p4.bk;rw[QW]at a2⊢;have ZW:Hid (Below w2 w2 w4/\Bk w4 gl 151 O.cells.toArray):=zH ⟨HW.1.trans (a5.mono HW.1.size),HW.2.old a5⟩;have e4:w4.cell? ⟨gy,4,none⟩=some (.int .i64 xf):=a2.cell 4;have e0:w4.cell? ⟨gy,0,none⟩=some (.string M):=a2.cell 0;have e8:w4.cell? ⟨gl,0,none⟩=some (.string MA):=by have:=ZW.2.cell 0;rw[Xe.out]at this;exact this
    have ey:q<=100000:=by omega
    clear r0 r1 r2 r3 r4 r5 a5 p4 a2 QW HW
    by_cases h3:xf=3
    ·as_aux_lemma=>
     have e3:((xf:Int)==3)=true:=by rw[zFt];omega
     have F:=Q.out;have E:=Z.out;rw[bi.out,h3]at F E;rw[zF3 rfl]at F;rw[NJ.out]at E;have BB:Hid (q+1+cnt3 (L.drop (j+1))=CN/\((e&&en)&&ZN O.name (L.drop (j+1)))=b0):=zH ⟨by omega,by rw[<-E,zK8];rfl⟩;have yl:=aw.out;clear h3 F E Q Z NJ aw;cases e
     ·clear yl;go_wp2
      go_roundw
      case rel=>exact⟨j+1,q+1,_,by omega,by omega,by go_num,rfl,by go_num,BB,ZW⟩
      case measure=>simp[intOf];omega
     cases en
     ·have hs:¬M.toList=MA.toList:=by simpa using yl
      go_wp2
      go_roundw
      case rel=>exact⟨j+1,q+1,_,by omega,by omega,by go_num,rfl,by go_num,BB,ZW⟩
      case measure=>simp[intOf];omega
     have hs:M.toList=MA.toList:=by simpa using yl
     go_wp2
     go_roundw
     case rel=>exact⟨j+1,q+1,_,by omega,by omega,by go_num,rfl,by go_num,BB,ZW⟩
     case measure=>simp[intOf];omega
    as_aux_lemma=>
    have e3:((xf:Int)==3)=false:=zB (by omega)
    have F:=Q.out;have E:=Z.out;rw[bi.out]at F E;rw[zF2 h3]at F;have hb:(xf !=3)=true:=by simpa using h3
    rw[hb]at E;have BB:Hid (q+cnt3 (L.drop (j+1))=CN/\(e&&ZN O.name (L.drop (j+1)))=b0):=zH ⟨by omega,by rw[<-E];simp⟩;clear h3 F E Q Z NJ aw hb;go_wp2
    go_roundw
    case rel=>exact⟨j+1,q,e,by omega,by omega,rfl,rfl,by go_num,BB,ZW⟩
    case measure=>simp[intOf];omega
   
   obtain rfl:j=k:=by omega
   have S:=HR.out;rw[zFq (by rw[Bj.out];exact zFv _)]at S;have b7:q=CN:=by have:=S.1;simpa[cnt3]using this
   have bd:e=b0:=by have:=S.2;simpa[ZN]using this
   subst b7;subst bd;have HV:=zH (jM.old HW.1);have am:=uS.out true H HV.out;have al:=mG m.items true x;rw[dq.out]at am al;obtain⟨np,rq⟩:=zN LP.length
   have eo:np<=100000:=by have:=RJ.2.2.1;omega
   have P5:=zH rq;have uu:=zH am;obtain⟨q0,q1,q2,q3,q4,q5,q6⟩:=zc7 HV.kx;simp only[zF7,zGe,zGg]at q0 q1 q2 q3 q4 q5 q6;have bm:=HW;clear S am al rq HR dq HW Y hq hj uS;go_wp2_with fail
   refine uu.mono ?_;rintro r w5 hi;obtain⟨Ap,cp,rfl,aq,cg⟩:=hi.out;rw[P5.out]at aq⊢;have du:=zH (fM aq);have d3:Hid (Below w2 w2 w5/\Bk w5 gl 151 O.cells.toArray):=zH ⟨bm.1.trans (cg.mono bm.1.size),bm.2.old cg⟩;have cr:Hid ((e&&ok2 (q==0) O.name (LP.drop 0))=YH/\(bl||Et (LP.drop 0))=a8):=zH ⟨by rw[zFp];exact QM.out,by rw[zFp];exact ZV.out⟩;obtain⟨zb,ca⟩:=zN (q==0)
   have d1:((q:Int)==0)=zb:=by rw[<-ca];exact um q 0
   have dt:Hid ((e&&ok2 zb O.name (LP.drop 0))=YH/\(bl||Et (LP.drop 0))=a8):=zH (by rw[<-ca];exact cr.out);have bp:=zH d1;obtain⟨f0,c7⟩:=zN w5.heap.size
   have d9:=zH c7;clear hi aq cg ca d1 uu cr QM ZV bm q0 q1 q2 q3 q4 q5 q6 HV c7;go_wp2_with fail
   go_loopw[12,15,129] (λok av i wr=>∃(t:Nat) (e Xp:Bool),t<=np/\ok=.bool e/\av=.bool Xp/\i=.int .i64 t/\Hid ((e&&ok2 zb O.name (LP.drop t))=YH/\(Xp||Et (LP.drop t))=a8)/\Hid (Below w5 w5 wr/\Below w2 w2 wr/\Bk wr gl 151 O.cells.toArray)) (λ_ _ i _=>np-(intOf i).toNat)
   case atStart=>exact⟨0,e,bl,zFj _,rfl,rfl,rfl,dt,zH ⟨zGp _ _,d3.1,d3.2⟩⟩
   case round=>
    clear dt d3;obtain⟨t,e,Xp,ht,rfl,rfl,rfl,HR,HW⟩:=hrel;obtain⟨H,rfl⟩:∃H:World,H=wr:=⟨_,rfl⟩
    by_cases Y:t<np
    ·as_aux_lemma=>
     have a4:t<LP.length:=by rw[P5.out];exact Y
     obtain⟨g,o,rfl,hg,N⟩:=du.elem (n:=6) oJ (by omega) a4;have S:=HR.out;rw[zFk a4]at S;obtain⟨z,hz⟩:=zN (LP[t])
     rw[hz]at N S;obtain⟨⟨nm,xb,xp,xo,xf,xk⟩,a0⟩:∃y,z=y:=⟨_,rfl⟩
     have F:(e&&((z.form !=2||(zb&&z.name==O.name))&&ok2 zb O.name (LP.drop (t+1))))=YH:=S.1;have E:(Xp||(z.form==2||Et (LP.drop (t+1))))=a8:=S.2;have Q:=zH F;have Z:=zH E;obtain⟨M,hM⟩:=zN (bytes nm)
     have G:∀(i:Nat) (u:Value),z.cells[i]? =some u->H.cell? ⟨g,o+t*6+i,none⟩=some u:=λi u h=>(bK HW.1 g _ (by first|exact hg|(rw[d9.out];exact hg))).trans (N i u h)
     rw[a0]at G;have r0:H.cell? ⟨g,o+t*6,none⟩=some (.string M):=(G 0 _ rfl).trans (by rw[hM]);have r1:H.cell? ⟨g,o+t*6+1,none⟩=some (.int .i64 xb):=G 1 _ rfl;have r2:H.cell? ⟨g,o+t*6+2,none⟩=some (.int .i64 xp):=G 2 _ rfl;have r3:H.cell? ⟨g,o+t*6+3,none⟩=some (.int .i64 xo):=G 3 _ rfl;have r4:H.cell? ⟨g,o+t*6+4,none⟩=some (.int .i64 xf):=G 4 _ rfl;have r5:H.cell? ⟨g,o+t*6+5,none⟩=some (.int .i64 xk):=G 5 _ rfl;obtain⟨en,ar⟩:=zN (z.name==O.name)
     have yl:(M.toList==MA.toList)=en:=by
      rw[<-ar,a0,bh.out,<-hM,<-UX.out,aI,aI]
     have bi:Hid (z.form=xf):=zH (by rw[a0]);have NJ:=zH ar;have aw:=zH yl;clear N G S F E hz a0 hM hg HR ar yl;go_upto_region 34 with(first|(refine ae iw rfl _ _ rfl rfl [.string M,.int .i64 xb,.int .i64 xp,.int .i64 xo,.int .i64 xf,.int .i64 xk] rfl (Bk.new H _ _) rfl rfl rfl ?_;intro w6 p4;go_frame))
     have a5:Below H H w6:=p4.below _ _ (zR.alloc zL _) zL;obtain⟨gy,QW⟩:=zN H.heap.size
     have a2:=p4.bk;rw[QW]at a2⊢;have aq:Hid (Below w5 w5 w6/\Below w2 w2 w6/\Bk w6 gl 151 O.cells.toArray):=zH ⟨HW.1.trans (a5.mono HW.1.size),HW.2.1.trans (a5.mono HW.2.1.size),HW.2.2.old a5⟩;have e4:w6.cell? ⟨gy,4,none⟩=some (.int .i64 xf):=a2.cell 4;have e0:w6.cell? ⟨gy,0,none⟩=some (.string M):=a2.cell 0;have e8:w6.cell? ⟨gl,0,none⟩=some (.string MA):=by have:=aq.2.2.cell 0;rw[Xe.out]at this;exact this
     clear r0 r1 r2 r3 r4 r5 a5 p4 a2 QW HW
     by_cases h3:xf=2
     ·as_aux_lemma=>
      have e3:((xf:Int)==2)=true:=by rw[zFt];omega
      have F:=Q.out;have E:=Z.out;rw[bi.out,h3]at F E;rw[NJ.out]at F;have BB:Hid ((((e&&zb)&&en)&&ok2 zb O.name (LP.drop (t+1)))=YH/\(true||Et (LP.drop (t+1)))=a8):=zH ⟨by rw[<-F];cases e<;>cases zb<;>cases en<;>rfl,by rw[<-E];cases Xp<;>rfl⟩;have yl:=aw.out;have d1:=bp.out;clear h3 F E Q Z NJ aw bp;cases e
      ·clear yl;go_wp2
       go_roundw
       case rel=>exact⟨t+1,_,true,by omega,rfl,rfl,by go_num,BB,aq⟩
       case measure=>simp[intOf];omega
      cases zb
      ·clear yl;go_wp2
       go_roundw
       case rel=>exact⟨t+1,_,true,by omega,rfl,rfl,by go_num,BB,aq⟩
       case measure=>simp[intOf];omega
      cases en
      ·have hs:¬M.toList=MA.toList:=by simpa using yl
       go_wp2
       go_roundw
       case rel=>exact⟨t+1,_,true,by omega,rfl,rfl,by go_num,BB,aq⟩
       case measure=>simp[intOf];omega
      have hs:M.toList=MA.toList:=by simpa using yl
      go_wp2
      go_roundw
      case rel=>exact⟨t+1,_,true,by omega,rfl,rfl,by go_num,BB,aq⟩
      case measure=>simp[intOf];omega
     as_aux_lemma=>
     have e3:((xf:Int)==2)=false:=zB (by omega)
     have F:=Q.out;have E:=Z.out;rw[bi.out]at F E;have hb:(xf !=2)=true:=by simpa using h3
     have b8:(xf==2)=false:=by simpa using h3
     rw[hb]at F;rw[b8]at E;have BB:Hid ((e&&ok2 zb O.name (LP.drop (t+1)))=YH/\(Xp||Et (LP.drop (t+1)))=a8):=zH ⟨by rw[<-F];simp,by rw[<-E];simp⟩;clear h3 F E Q Z NJ aw hb b8 bp;go_wp2
     go_roundw
     case rel=>exact⟨t+1,e,Xp,by omega,rfl,rfl,by go_num,BB,aq⟩
     case measure=>simp[intOf];omega
    
    obtain rfl:t=np:=by omega
    have S:=HR.out;rw[zFq (by rw[P5.out];exact zFv _)]at S;have bd:e=YH:=by have:=S.1;simpa[ok2]using this
    have bm:Xp=a8:=by have:=S.2;simpa[Et]using this
    subst bd;subst bm;have NY:=zH (jM.old HW.2.1);have d2:=zH (cu.trans (HW.2.1.mono cu.size));clear S HR Y ht du bp;cases e
    case false=>
     as_aux_lemma=>
     have I:=c6.out;rw[zF3 rfl]at I;injection I with p U
     have HF:=zH (ku b B s iv m H 15 po NY.st bt);rw[U]at HF;subst p;have q6:H.cell? ⟨bx,6,none⟩=some (.int .i64 po):=by have:=NY.kx.cell 6;simpa using this
     clear U c6;go_wp2_with fail
     refine HF.mono ?_;rintro r w6 ⟨rfl,bm⟩
     have HG:Hid (CdR b B B1 D gp s iv MF ax kv (.slice (some ⟨gv,0,none⟩) nb cv) bs bs pt w w6):=zH
      ⟨bm.st,NY.pl.grown bm.grown b3,NY.kp.grown bm.grown (aG cb),nN.out,(yH.of (AX.nG d2.out)).trans (yH.grown bm.grown)⟩
     clear bm HF q6;go_wp2
     first|go_end0|refine zFg (v:=.tuple #[]) (by simp[results,results46,go_sem]) rfl ?_|refine zHg (v:=.tuple #[]) (by simp[results,results46,go_sem]) rfl ?_
     exact⟨rfl,bs,HG.out⟩
    case true=>
    have I:=c6.out;rw[zF2 (by decide)]at I;injection I with p U
    subst U;obtain⟨AS,cy⟩:=zN (if Xp=true then O.name else[])
    rw[cy]at p;obtain⟨t',cx⟩:=zN (Pz s m AS x)
    rw[cx]at p;have pY:=zH p;have HT:=zH cx;have cg:=zH cy;obtain⟨i,hi⟩:=zN O.br
    obtain⟨k2,a9⟩:=zN O.part
    have ca:=zH (zA hi a9);obtain⟨bm,a7,b7⟩:=dp.out;rw[hi]at a7;rw[a9]at b7
    have c7:i<bs.length:=by
     have h3:=(zFc.1 a7).1;rw[<-nN.out]at h3
     simpa using h3
    have cr:fJ D bs[i]=bm:=by
     rw[<-nN.out,zG2,zAg c7]at a7;injection a7
    have cz:k2<bs[i].ps.length:=by
     have h3:bm.ps.length=bs[i].ps.length:=by rw[<-cr];simp[fJ]
     omega
    obtain⟨b1,b2,bw,p1,p2,pp,g2,n2,d0,a6,ct,b9⟩:=NY.pl.at AB.out c7 cz
    have bj:pp.gs.length<=10000/\pp.cs.length<=10000:=by
     have h3:bm∈pt:=zGj a7
     have h4:partT D pp∈bm.ps:=by
      rw[<-cr,b9];unfold fJ;exact zGa.2 ⟨_,zFe cz,rfl⟩
     have h5:=dl.out _ h3 _ h4
     simpa[partT]using h5
    have d4:=zH bj;have K:=zH a6;have ew:i<nb:=by rw[<-AB.out];exact c7
    have ek:k2<n2:=a6.lt;have ep:n2<=9223372036854775807:=a6.le;have z1:H.cell? ⟨gp,2,none⟩=some (.slice (some ⟨gv,0,none⟩) nb cv):=NY.kp.cell 2;have z2:H.cell? ⟨gv,i*3+2,none⟩=some (.slice (some ⟨g2,0,none⟩) n2 d0):=a6.c2;have z3:H.cell? ⟨gl,1,none⟩=some (.int .i64 i):=by have:=HW.2.2.cell 1;rw[Xe.out]at this;rw[this,<-hi,bh.out];rfl
    have z4:H.cell? ⟨gl,2,none⟩=some (.int .i64 k2):=by have:=HW.2.2.cell 2;rw[Xe.out]at this;rw[this,<-a9,bh.out];rfl
    clear p cy cx hi a9 a7 b7 cr cz c7 a6 ct b9 bj c6 dp;go_upto_region 40 with fail
    go_quiet (fail)
    have hd:Below H H (H.drewN nq):=zHf zR nq;obtain⟨W,hW⟩:=zN (H.drewN nq)
    rw[hW]at hd⊢;have Hm:=zH (NY.old hd);have ZQ:Hid (yH b (.slice (some ⟨gv,0,none⟩) nb cv) bs bs w W):=zH (yH.of (AX.nG (d2.trans (hd.mono d2.size))));have cx:=zH (HW.2.2.old hd);obtain⟨wz,eg⟩:=zN W.heap.size
    have c8:B1<=wz:=by have:=ZQ.size;omega
    clear z1 z2 z3 z4 hW HW;cases Xp
    case false=>
     obtain⟨A1,PY,FN,d⟩:=K.own false;obtain⟨n1,a1⟩:=zN ((kK false pp).length)
     rw[a1]at FN d;rw[FN]at d;have ci:n1<=10000:=by rw[<-a1];exact d4.2
     have pc:W.cell? ⟨g2,k2*4+3,none⟩=some (.slice A1 n1 PY):=by
      have p:=K.cell false;rw[FN]at p;exact(bK hd g2 _ (zHs _ _ p)).trans p
     obtain⟨gg,X⟩:=zN false
     have RN:=zH X;rw[X]at FN d;have Vg:=zH pc;have ZO:=zH FN;have Dq:Hid (∀wr,Below W.heap.size W wr->wr.ownsRow B1 122 7 (.slice A1 n1 PY) n1 ((kK gg pp).flatMap ah.cells)):=zH λwr J=>aT (aT d hd) J
     have uu:Hid ((kK gg pp).length=n1):=zH (by rw[<-X];exact a1)
     have ZP:Hid (∀W',Below W.heap.size W W'->Calls prog 76 #[.pointer (some ⟨b,0,none⟩),.agg #[c0,c1,c2,c3,c4,c5,po],.string ⟨#[]⟩] W' (xR D t' W')):=zH λW' hW=>by
      have p:=mJ.out ⟨#[]⟩ bs W' (Hm.old hW);rw[show(⟨#[]⟩:ByteArray).toList=AS by rw[zFm,<-cg.out];rfl,HT.out]at p;exact p
     clear d FN a1 X hd;go_upto_region 43 with fail
     refine wu (λk => false) [.is (.pointer (some ⟨g2, k2 * 4, none⟩)),
       .is (.pointer (some ⟨g2,k2*4,none⟩)),
       .is (.pointer (some ⟨g2,k2*4+3,none⟩)),
       .is (.slice A1 n1 PY),
       .is (.pointer (some ⟨b,0,none⟩)),
       .is (.agg #[c0,c1,c2,c3,c4,c5,po]),
       .st (λv w=>∃cs:List Value,v=.agg cs.toArray/\eG (λq=>wz<=q) D t' cs w) (λ_ _ _ hb ⟨cs,p,U⟩=>⟨cs,p,U.old hb⟩),
       .is (.int .i64 (n1:Nat)),
       .st (λv w=>∃g,v=.slice (some ⟨g,0,none⟩) 1 1/\Bk w g 122 #[(),(),"",(),.int .u64 0,(),()]) (λ_ _ _ hb ⟨g,p,U⟩=>⟨g,p,U.old hb⟩)] [6,7,8] 6 #[true,true,true,true,true,true,true,true,true,false,false,false,false,false,false] (by kernel_rfl) (by kernel_rfl) (by kernel_rfl) (by kernel_rfl) (by kernel_rfl)
       (λC=>.c (px C rfl (λ_ _=>rfl)) <|
       .c (px C rfl (λ_ _=>rfl)) <|
       .c (px C rfl (λ_ _=>rfl)) <|
       .c (px C rfl (λ_ h=>bH (jD (bc h pc)))) <|
       .c (px C rfl (λ_ _=>rfl)) <|
       .c (px C rfl (λ_ h=>bH (dW BZ cZ [c0,c1,c2,c3,c4,c5,.int .i64 po] rfl λj u hu=>by rw[zFr,(Hm.kx.old h).cell j];simpa using hu))) <|
       .c (pz [4,5] [] (by kernel_rfl) λqK qa wr J qO qF hK=>?_) <|
       .c (pz [3] [] (by kernel_rfl) λqK qa wr J qO qF hK=>?_) <|
       .c (pz [] [] (by kernel_rfl) λqK qa wr J qO qF hK=>?_) <| .nil) ?_
     ·have cr:=aA qF.1 rfl rfl;have c7:=aA qF.2.1 rfl rfl;clear qO qF;go_simp
      go_at_call 76
      refine(ZP.out wr J).mono ?_;rintro r w9 ⟨NW,rfl,be,dM⟩;exact hK _ _ dM ⟨NW,rfl,be.keep λq hq Y=>⟨zFi (by have:=J.size;omega) hq,Y,rfl⟩⟩
     ·have cy:=aA qF.1 rfl rfl;clear qO qF;go_simp;exact hK _ _ zR rfl
     ·clear qO qF;refine nX (.const (.agg #[(),(),"",(),.int .u64 0,(),()])) rfl rfl ?_;exact hK _ _ (zR.alloc zL _) ⟨_,rfl,Bk.new _ _ _⟩
     intro f qx wr J I hS;have r6:(λv w=>∃cs:List Value,v=.agg cs.toArray/\eG (λq=>wz<=q) D t' cs w) (qx 6) wr:=I 6 rfl rfl;have r8:∃g,qx 8=.slice (some ⟨g,0,none⟩) 1 1/\Bk wr g 122 #[(),(),"",(),.int .u64 0,(),()]:=I 8 rfl rfl;clear I hS;simp only[bJ,zF0,zGb,zF1,zFp,zFd,zFh,zF4,Act.put,zFf,zFw,zFx];generalize qx 6=cz at r6⊢;generalize qx 8=cy at r8⊢;obtain⟨eq,r8,cr⟩:=r8;subst r8;obtain⟨NW,c7,Vh⟩:=r6;subst c7;obtain⟨ZR,rfl,Ky,AO⟩:=Vh;have ZT:Hid (∀q,¬aJ _ _ q->q<wz):=zH λq hq=>by have:=Hm.pl.hi q hq;omega
     have Kz:=Hm.pl.old J;have R:wr.ownsRow B1 122 7 (.slice A1 n1 PY) n1 ((kK gg pp).flatMap ah.cells):=Dq.out wr J;have uY:=Kz.prt bw (by rw[K.sp];simp);rw[K.parts,K.n2e]at uY;obtain⟨cm,aa,_⟩:=row_block uY;refine qZ (f:=f) (k:=9) (C:=true) (o:=k2*4) rfl (by kernel_rfl) (by kernel_rfl) (λ_ _ _ _ _ h=>h) rfl rfl rfl rfl rfl R cr (ah.NR ZR) (by obtain⟨_,_,_,_,_,_,_,_,_⟩:=ZR;rfl) (by omega) (by have:=J.size;omega) (bc J Vg.out) (aa.frozen _) (aN R aa (by decide)) ?_;intro g9 c9 w8 w9 _ PZ ag KC fV _;obtain⟨dr,N,hm,a3⟩:=Hl.put (g:=gg) (Hm.old J) K.out b3 cw c8 (by have:=J.size;omega) ZT.out (by rw[<-RN.out]) uu.out AO ZO.out PZ ag KC fV;rw[Ky]at hm;have a3:=yH.trans ZQ.out ((yH.of (AX.nG J)).trans a3);have c7:Hid (CdR b B B1 D gp s iv m ax kv (.slice (some ⟨gv,0,none⟩) nb cv) _ _ PT w _):=zH ⟨N.st,N.pl,N.kp,hm.trans (by rw[nN.out,<-pY.out,ca.1,ca.2,<-RN.out]),a3⟩;clear hm N a3 Kz R uY aa PZ ag KC fV AO Ky ZT Hm ZP Dq ZO Vg K ZQ;simp only[Act.put,zFf,zFw,zFx];go_wp2
     first|go_end0|refine zFg (v:=.tuple #[]) (by simp[results,results46,go_sem]) rfl ?_|refine zHg (v:=.tuple #[]) (by simp[results,results46,go_sem]) rfl ?_
     exact⟨rfl,_,c7.out⟩
    case true=>
     obtain⟨A1,PY,FN,d⟩:=K.own true;obtain⟨n1,a1⟩:=zN ((kK true pp).length)
     rw[a1]at FN d;rw[FN]at d;have ci:n1<=10000:=by rw[<-a1];exact d4.1
     have pc:W.cell? ⟨g2,k2*4+2,none⟩=some (.slice A1 n1 PY):=by
      have p:=K.cell true;rw[FN]at p;exact(bK hd g2 _ (zHs _ _ p)).trans p
     obtain⟨gg,X⟩:=zN true
     have RN:=zH X;rw[X]at FN d;have Vg:=zH pc;have ZO:=zH FN;have Dq:Hid (∀wr,Below W.heap.size W wr->wr.ownsRow B1 122 7 (.slice A1 n1 PY) n1 ((kK gg pp).flatMap ah.cells)):=zH λwr J=>aT (aT d hd) J
     have uu:Hid ((kK gg pp).length=n1):=zH (by rw[<-X];exact a1)
     have ZP:Hid (∀W',Below W.heap.size W W'->Calls prog 76 #[.pointer (some ⟨b,0,none⟩),.agg #[c0,c1,c2,c3,c4,c5,po],MA] W' (xR D t' W')):=zH λW' hW=>by
      have p:=mJ.out MA bs W' (Hm.old hW);rw[show(MA:ByteArray).toList=AS by rw[<-UX.out,aI,<-cg.out,zF3 rfl,bh.out],HT.out]at p;exact p
     have g0:W.cell? ⟨gl,0,none⟩=some (.string MA):=by have:=cx.cell 0;rw[Xe.out]at this;exact this
     clear d FN a1 X hd;go_upto_region 42 with fail
     refine wu (λk => false) [.is (.pointer (some ⟨g2, k2 * 4, none⟩)),
       .is (.pointer (some ⟨g2,k2*4,none⟩)),
       .is (.pointer (some ⟨g2,k2*4+2,none⟩)),
       .is (.slice A1 n1 PY),
       .is (.pointer (some ⟨b,0,none⟩)),
       .is (.agg #[c0,c1,c2,c3,c4,c5,po]),
       .is (.pointer (some ⟨gl,0,none⟩)),
       .is (.string MA),
       .st (λv w=>∃cs:List Value,v=.agg cs.toArray/\eG (λq=>wz<=q) D t' cs w) (λ_ _ _ hb ⟨cs,p,U⟩=>⟨cs,p,U.old hb⟩),
       .is (.int .i64 (n1:Nat)),
       .st (λv w=>∃g,v=.slice (some ⟨g,0,none⟩) 1 1/\Bk w g 122 #[(),(),"",(),.int .u64 0,(),()]) (λ_ _ _ hb ⟨g,p,U⟩=>⟨g,p,U.old hb⟩)] [8,9,10] 6 #[true,true,true,true,true,true,true,true,true,true,true,false,false,false,false,false,false] (by kernel_rfl) (by kernel_rfl) (by kernel_rfl) (by kernel_rfl) (by kernel_rfl)
       (λC=>.c (px C rfl (λ_ _=>rfl)) <|
       .c (px C rfl (λ_ _=>rfl)) <|
       .c (px C rfl (λ_ _=>rfl)) <|
       .c (px C rfl (λ_ h=>bH (jD (bc h pc)))) <|
       .c (px C rfl (λ_ _=>rfl)) <|
       .c (px C rfl (λ_ h=>bH (dW BZ cZ [c0,c1,c2,c3,c4,c5,.int .i64 po] rfl λj u hu=>by rw[zFr,(Hm.kx.old h).cell j];simpa using hu))) <|
       .c (px C rfl (λ_ _=>rfl)) <|
       .c (px C rfl (λ_ h=>bH (I7 (bc h g0)))) <|
       .c (pz [4,5,7] [] (by kernel_rfl) λqK qa wr J qO qF hK=>?_) <|
       .c (pz [3] [] (by kernel_rfl) λqK qa wr J qO qF hK=>?_) <|
       .c (pz [] [] (by kernel_rfl) λqK qa wr J qO qF hK=>?_) <| .nil) ?_
     ·have p:=aA qF.1 rfl rfl;have U:=aA qF.2.1 rfl rfl;have cr:=aA qF.2.2.1 rfl rfl;clear qO qF;go_simp
      go_at_call 76
      refine(ZP.out wr J).mono ?_;rintro r w9 ⟨NW,rfl,be,dM⟩;exact hK _ _ dM ⟨NW,rfl,be.keep λq hq Y=>⟨zFi (by have:=J.size;omega) hq,Y,rfl⟩⟩
     ·have cy:=aA qF.1 rfl rfl;clear qO qF;go_simp;exact hK _ _ zR rfl
     ·clear qO qF;refine nX (.const (.agg #[(),(),"",(),.int .u64 0,(),()])) rfl rfl ?_;exact hK _ _ (zR.alloc zL _) ⟨_,rfl,Bk.new _ _ _⟩
     intro f qx wr J I hS;have r8:(λv w=>∃cs:List Value,v=.agg cs.toArray/\eG (λq=>wz<=q) D t' cs w) (qx 8) wr:=I 8 rfl rfl;have p:∃g,qx 10=.slice (some ⟨g,0,none⟩) 1 1/\Bk wr g 122 #[(),(),"",(),.int .u64 0,(),()]:=I 10 rfl rfl;clear I hS;simp only[bJ,zF0,zGb,zF1,zFp,zFd,zFh,zF4,Act.put,zFf,zFw,zFx];generalize qx 8=cy at r8⊢;generalize qx 10=cz at p⊢;obtain⟨cr,p,U⟩:=p;subst p;obtain⟨NW,be,Vh⟩:=r8;subst be;obtain⟨ZR,rfl,Ky,AO⟩:=Vh;have ZT:Hid (∀q,¬aJ _ _ q->q<wz):=zH λq hq=>by have:=Hm.pl.hi q hq;omega
     have Kz:=Hm.pl.old J;have R:wr.ownsRow B1 122 7 (.slice A1 n1 PY) n1 ((kK gg pp).flatMap ah.cells):=Dq.out wr J;have uY:=Kz.prt bw (by rw[K.sp];simp);rw[K.parts,K.n2e]at uY;obtain⟨cm,aa,_⟩:=row_block uY;refine qZ (f:=f) (k:=11) (C:=false) (o:=k2*4) rfl (by kernel_rfl) (by kernel_rfl) (λ_ _ _ _ _ h=>h) rfl rfl rfl rfl rfl R U (ah.NR ZR) (by obtain⟨_,_,_,_,_,_,_,_,_⟩:=ZR;rfl) (by omega) (by have:=J.size;omega) (bc J Vg.out) (aa.frozen _) (aN R aa (by decide)) ?_;intro g9 c9 w8 w9 _ PZ ag KC fV _;obtain⟨dr,N,hm,a3⟩:=Hl.put (g:=gg) (Hm.old J) K.out b3 cw c8 (by have:=J.size;omega) ZT.out (by rw[<-RN.out]) uu.out AO ZO.out PZ ag KC fV;rw[Ky]at hm;have a3:=yH.trans ZQ.out ((yH.of (AX.nG J)).trans a3);have c7:Hid (CdR b B B1 D gp s iv m ax kv (.slice (some ⟨gv,0,none⟩) nb cv) _ _ PT w _):=zH ⟨N.st,N.pl,N.kp,hm.trans (by rw[nN.out,<-pY.out,ca.1,ca.2,<-RN.out]),a3⟩;clear hm N a3 Kz R uY aa PZ ag KC fV AO Ky ZT Hm ZP Dq ZO Vg K ZQ;simp only[Act.put,zFf,zFw,zFx];go_wp2
     first|go_end0|refine zFg (v:=.tuple #[]) (by simp[results,results46,go_sem]) rfl ?_|refine zHg (v:=.tuple #[]) (by simp[results,results46,go_sem]) rfl ?_
     exact⟨rfl,_,c7.out⟩
end Go.Proofs.YtbjnhllkdilpfaaGreat
