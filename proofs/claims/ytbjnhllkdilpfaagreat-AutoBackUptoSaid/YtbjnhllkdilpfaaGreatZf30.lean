/- Part 30 of the proof. No conditions. -/
import Derived.Test.YtbjnhllkdilpfaaGreatZf29
import Derived.Test.YtbjnhllkdilpfaaGreatZf27
set_option linter.unusedVariables false
set_option linter.unusedSimpArgs false
set_option maxRecDepth 100000
set_option maxHeartbeats 8000000
namespace Go.Proofs.YtbjnhllkdilpfaaGreat
open Go.RowKit _root_.Go.Proofs.Tryz
structure Ou where
 parent:Int
 bars:List qh
 lv:List T
 bD:List fQ
def rH (win:Int) (p:dU) (x:Ou):Option Ou:=
 if p.form=3 then some {x with bars:=x.bars++[⟨p.type,p.gs⟩]}
 else if x.bD.length=32 then none
 else some ⟨x.bD.length,[],p.cs,x.bD++[⟨x.parent,p.type,p.form==2,win,x.bars,x.lv,p.gs,[]⟩]⟩
def iL (win:Int):List dU->Ou->Option Ou
 |[],x=>some x
 |p::l,x=>match rH win p x with
  |none=>none
  |some y=>iL win l y
def oz (id:Int) (x:Ou):List fQ:=if 0<=x.parent then x.bD.modify x.parent.toNat (λs=>{s with ends:=s.ends++[⟨id,x.lv,x.bars⟩]})else x.bD
def mZ:List dL->List fQ->Option (List fQ)
 |[],bD=>some bD
 |b::l,bD=>match iL b.window b.ps ⟨-1,[],[],bD⟩with
  |none=>none
  |some y=>mZ l (oz b.id y)
def gU (ax:Int) (ks:List Int) (bs:List dL):Z4×Int:=
 match mZ bs []with
 |none=>(⟨0,[],[]⟩,4)
 |some bD=>(⟨ax,ks,bD⟩,0)
def StG (i:Nat) (s:fQ):Prop:=(-1<=s.parent/\s.parent<i)/\0<=s.type/\(0<=s.window/\s.window<=1152921504606846976)/\∀e∈s.ends,0<=e.branch
def Y1 (l:List fQ):Prop:=l.length<=32/\∀i s,l[i]? =some s->StG i s
theorem Y1.snoc {l:List fQ} (h:Y1 l) (d:l.length≠32) {s:fQ} (b:StG l.length s):Y1 (l++[s]):=by
 refine⟨by have:=h.1;simp;omega,λi t a=>?_⟩
 by_cases c:i<l.length
 ·rw[zGh c]at a;exact h.2 i t a
 rw[zGd (by omega)]at a
 obtain rfl:i=l.length:=by
  have:=(zFc.1 a).1;simp at this;omega
 simp at a;subst a;exact b
theorem yD {win:Int} (g:0<=win/\win<=1152921504606846976):∀(ps:List dU) (x y:Ou),(∀p∈ps,0<=p.type)->Y1 x.bD->(-1<=x.parent/\x.parent<x.bD.length)->iL win ps x=some y->Y1 y.bD/\ -1<=y.parent/\y.parent<y.bD.length
 |[],x,y,_,c,d,h=>by
  injection h with h
  subst h;exact⟨c,d⟩
 |p::ps,x,y,i,c,d,h=>by
  have f:=yD g ps;unfold iL at h;unfold rH at h
  split at h
  ·cases h
  rename_i z a
  have b:=λq e=>i q (zJs _ e)
  split at a
  ·injection a with a
   subst a;exact f {x with bars:=x.bars++[⟨p.type,p.gs⟩]} y b c d h
  split at a
  ·cases a
  rename_i k
  injection a with a
  subst a;refine f _ y b (c.snoc k ⟨d,i p (by simp),g,λe j=>absurd j (by simp)⟩) ?_ h;simp;omega
theorem OC {d:Nat} {x:Ou} (h:Y1 x.bD):Y1 (oz d x):=by
 unfold oz
 split
 ·refine⟨by simpa using h.1,λi s a=>?_⟩;rw[zHi]at a;rcases hx:x.bD[i]? with _|t
  ·rw[hx]at a;cases a
  rw[hx]at a;have b:=h.2 i t hx;simp at a
  split at a
  ·subst a;refine⟨b.1,b.2.1,b.2.2.1,λe c=>?_⟩;rcases zFy.1 c with c|c
   ·exact b.2.2.2 e c
   rw[zG3.1 c];exact Int.natCast_nonneg _
  subst a;exact b
 exact h
theorem DN:∀(bs:List dL) (e d:List fQ),(∀b∈bs,(0<=b.window/\b.window<=1152921504606846976)/\∀p∈b.ps,0<=p.type)->Y1 e->mZ bs e=some d->Y1 d
 |[],e,d,_,f,h=>by
  injection h with h
  subst h;exact f
 |b::bs,e,d,hb,f,h=>by
  unfold mZ at h
  split at h
  ·cases h
  rename_i y g
  have a:=hb b (by simp);exact DN bs _ d (λc i=>hb c (zJs _ i)) (OC (yD a.1 b.ps _ y a.2 f ⟨by simp,by simp;omega⟩ g).1) h
theorem Lh {N:Nat} {ax:Int} {ks:List Int} {bs:List dL} (a:1<=ax/\ax<=3) (h:qy N bs) (c:(gU ax ks bs).2=0):VX (gU ax ks bs).1.aS (gU ax ks bs).1.states:=by
 unfold gU at c⊢
 split at c
 ·cases c
 rename_i e m
 have d:=DN bs [] e (λb hb=>⟨(h.sg b hb).1,λp l=>by
  have:=((h.sg b hb).2.2.2 (p.form,p.type) (zGa.2 ⟨p,l,rfl⟩)).2
  exact this⟩) ⟨by simp,λi s a=>by simp at a⟩ m
 refine⟨a,d.1,λi n=>?_⟩;obtain⟨g,k,f,o⟩:=d.2 i e[i] (zAg n);exact⟨g,k,f,λj d=>o _ (zFe d)⟩
structure IB (N k pos kk x:Nat) (P:List Nat) (xs:List bQ):Prop where
 all:Gx (17*N) xs
 cur:∀b,xs[k]? =some b->Gx (N*(1+2*pos+kk)+x) [b]
 nxt:∀j b,k<j->xs[j]? =some b->Gx N [b]
 row:∀b,xs[k]? =some b->∀q y p c,pos<=q->P[q]? =some y->b.ps[y]? =some p->(pos<q\/kk<=Bool.toNat c)->(rowA c p).2.length<=N
theorem Gx.one {N:Nat} {xs:List bQ} (h:Gx N xs) {b:bQ} (hb:b∈xs):Gx N [b]:=λc a=>by rw[zG3.1 a];exact h b hb
theorem Gx.more {N M:Nat} {xs:List bQ} (h:Gx N xs) (c:N<=M):Gx M xs:=λb hb p a=>⟨zFi (h b hb p a).1 c,zFi (h b hb p a).2.1 c,(h b hb p a).2.2⟩
theorem IB.start {N k:Nat} {P:List Nat} {xs:List bQ} (h:Gx (17*N) xs) (a:∀j b,k<=j->xs[j]? =some b->Gx N [b]):IB N k 0 0 0 P xs:=
 ⟨h,λb hb=>(a k b zL hb).more (by omega),λj b d hb=>a j b (by omega) hb,λb hb q y p c _ _ e _=>by
  obtain⟨d,f,_⟩:=a k b zL hb b (by simp) p (zGj e);cases c
  ·exact d
  exact f⟩
theorem IB.next {N k pos x:Nat} {P:List Nat} {xs:List bQ} (h:IB N k pos 2 0 P xs):IB N k (pos+1) 0 0 P xs:=
 ⟨h.all,λb hb=>(h.cur b hb).more (by rw[show 1+2*(pos+1)+0=1+2*pos+2 by omega];exact zFv _),h.nxt,λb hb q y p c e a d _=>h.row b hb q y p c (by omega) a d (.inl (by omega))⟩
theorem zF {xs:List bQ} {k i:Nat} {c:Bool} {v:Value} {ns:List ah} {j:Nat} {b:bQ} (h:(fZ xs k i c v ns)[j]? =some b):(j≠k/\xs[j]? =some b)\/(j=k/\∃a,xs[k]? =some a/\b=updB i c v ns a):=by
 unfold fZ at h;rw[zHi]at h;rcases hx:xs[j]? with _|a
 ·rw[hx]at h;cases h
 rw[hx]at h
 by_cases e:k=j
 ·subst e;simp at h;exact .inr ⟨rfl,a,hx,h.symm⟩
 simp[e]at h;exact .inl ⟨λh=>e h.symm,by rw[h]⟩
theorem Gx.updB {M:Nat} {b:bQ} {i:Nat} {c:Bool} {v:Value} {ns:List ah} (h:Gx M [b]) (a:ns.length<=M) (f:c=true->∀p,b.ps[i]? =some p->p.form=3->ns=[]):Gx M [updB i c v ns b]:=
 Gx.upd (xs:=[b]) (k:=0) h a λe g p hb d=>by
  injection hb with hb
  subst hb;exact f e p d
theorem IB.push {N k pos m x i l:Nat} {c:Bool} {v:Value} {ns:List ah} {P:List Nat} {xs:List bQ} (h:IB N k pos m x P xs) (D:pos<=7) (E:m<=1) (r:x<N) (J:P.Pairwise (·<·)) (Q:l<pos) (I:P[l]? =some i) {b:bQ} {p:aZ} (hb:xs[k]? =some b) (B:b.ps[i]? =some p) (R:ns.length<=(rowA c p).2.length+1) (F:c=true->p.form≠3):IB N k pos m (x+1) P (fZ xs k i c v ns):=by
 have L:N*(1+2*pos+m)+(x+1)<=17*N:=by
  have o:N*(1+2*pos+m)<=N*16:=zJ5 zL (by omega);omega
 have u:=zGj B
 have O:(rowA c p).2.length<=N*(1+2*pos+m)+x:=by
  obtain⟨o,w,_⟩:=h.cur b hb b (by simp) p u;cases c
  ·exact o
  exact w
 have A:c=true->∀f p',xs[k]? =some f->f.ps[i]? =some p'->p'.form=3->ns=[]:=λe f p' d a s=>by
  rw[hb]at d;injection d with d
  subst d;rw[B]at a;injection a with a
  subst a;exact absurd s (F e)
 refine⟨h.all.upd (by omega) A,λf d=>?_,λj f C d=>?_,λf d q y p' c' G z a H=>?_⟩
 ·rcases zF d with⟨e,_⟩|⟨_,n,g,rfl⟩
  ·exact absurd rfl e
  exact((h.cur n g).more (by omega)).updB (by omega) λe p' a=>A e n p' g a
 ·rcases zF d with⟨_,g⟩|⟨e,_⟩
  ·exact h.nxt j f C g
  omega
 rcases zF d with⟨e,_⟩|⟨_,n,g,rfl⟩
 ·exact absurd rfl e
 have t:i≠y:=by
  obtain⟨o,M⟩:=zFc.1 I;obtain⟨w,K⟩:=zFc.1 z;have:=zH1.1 J l q o w (by omega);omega
 unfold updB at a;simp only[zHi]at a;rcases r:n.ps[y]? with _|p0
 ·rw[r]at a;cases a
 rw[r]at a;simp[t]at a;subst a;exact h.row n g q y _ c' G z r H
theorem IB.stay {N k pos l x i:Nat} {c:Bool} {v:Value} {ns:List ah} {P:List Nat} {xs:List bQ} (h:IB N k pos l x P xs) (D:c.toNat=l) (L:x<=N) (G:P.Pairwise (·<·)) (t:P[pos]? =some i) {b:bQ} {p:aZ} (hb:xs[k]? =some b) (E:b.ps[i]? =some p) (M:ns.length<=N) (B:c=true->p.form≠3):IB N k pos (l+1) 0 P (fZ xs k i c v ns):=by
 have z:N*(1+2*pos+l)+x<=N*(1+2*pos+(l+1)):=by
  rw[<-zJb (1+2*pos),Nat.mul_succ];omega
 have u:c=true->∀f p',xs[k]? =some f->f.ps[i]? =some p'->p'.form=3->ns=[]:=λe f p' d a r=>by
  rw[hb]at d;injection d with d
  subst d;rw[E]at a;injection a with a
  subst a;exact absurd r (B e)
 have F:N<=N*(1+2*pos+(l+1)):=zFi (by omega:N<=N*1) (zJ5 zL (by omega));refine⟨h.all.upd (by omega) u,λf d=>?_,λj f w d=>?_,λf d q y p' c' C n a K=>?_⟩
 ·rcases zF d with⟨e,_⟩|⟨_,m,g,rfl⟩
  ·exact absurd rfl e
  exact((h.cur m g).more z).updB (by omega) λe p' a=>u e m p' g a
 ·rcases zF d with⟨_,g⟩|⟨e,_⟩
  ·exact h.nxt j f w g
  omega
 rcases zF d with⟨e,_⟩|⟨_,m,g,rfl⟩
 ·exact absurd rfl e
 unfold updB at a;simp only[zHi]at a;rcases hx0:m.ps[y]? with _|p0
 ·rw[hx0]at a;cases a
 rw[hx0]at a
 by_cases o:pos<q
 ·have s:i≠y:=by
   obtain⟨A,J⟩:=zFc.1 t;obtain⟨H,I⟩:=zFc.1 n;have:=zH1.1 G pos q A H (by omega);omega
  simp[s]at a;subst a;exact h.row m g q y _ c' C n hx0 (.inl o)
 obtain rfl:pos=q:=by omega
 have A:l+1<=c'.toNat:=by omega
 rw[t]at n;injection n with n
 subst n;simp at a;subst a;have H:=h.row m g pos i p0 c' zL t hx0 (.inr (by omega));cases c<;>cases c'<;>simp_all [uZ,rowA]
def MvS (B d:Nat) (bv:Value) (jq:List bQ) (N k pos kk x:Nat) (P:List Nat) (W w:World):Prop:=Below B W w/\∃xs,iC B d bv xs w/\mX xs=mX jq/\IB N k pos kk x P xs
theorem MvS.old {B d:Nat} {bv:Value} {b:List bQ} {N k pos a x:Nat} {P:List Nat} {W w w':World} (h:MvS B d bv b N k pos a x P W w) (hb:Below w w w') (c:B<=w.heap.size):MvS B d bv b N k pos a x P W w':=by
 obtain⟨e,xs,g,f,i⟩:=h;exact⟨e.trans (hb.mono c),xs,g.old hb,f,i⟩
theorem DV {bv:Value} {xs:List bQ} {a:Option Nat} (b:∀q,a=some q->aJ bv xs q) {v:Value} (c:∀q,aJ bv xs q->some q≠v.ownBlock):v.ownBlock=none\/v.ownBlock≠a:=by
 rcases hq:v.ownBlock with _|q
 ·exact .inl rfl
 exact .inr λe=>c q (b q e.symm) hq.symm
theorem qw.Ql {K:Nat->Prop} {B d:Nat} {bv:Value} {xs:List bQ} {W W':World} {c:Option Nat} (h:qw K B d bv xs W) (g:W.grownBy W' c) (j:∀q,c=some q->aJ bv xs q/\¬K q):qw K B d bv xs W':=by
 have i:=λq e=>(j q e).1
 exact⟨h.dJ.kept g (DV i λq a=>a.1),λb hb=>(h.prt b hb).kept g (DV i λq a=>a.2.1 b hb),h.tN,λz f=>(h.mO z f).kept g (DV i λq a=>a.2.2 z f),h.og,
  λz f y k=>(h.kids z f y k).keep λq a f=>⟨a,zFs f g.size,g.block q f λe=>(j q e.symm).2 a.1⟩⟩
structure DW (K:Nat->Prop) (B d:Nat) (bv:Value) (k i:Nat) (c:Bool) (x:Nat) (vl:Value) (nl:List ah) (v:Value) (ss:List ah) (xs:List bQ) (w:World):Prop where
 pl:qw (λq=>K q/\some q≠v.ownBlock) B d bv xs w
 row:∃b p,xs[k]? =some b/\b.ps[i]? =some p/\rowA c p=(vl,nl)
 st:Bd (λq=>K q/\aJ bv xs q) B 122 7 (Hy d) ss v w
 ap:∀q,v.ownBlock=some q->aJ bv xs q
 sl:ss.length<=x
structure Qm (K:Nat->Prop) (B d:Nat) (bv:Value) (jq:List bQ) (N k pos i:Nat) (c:Bool) (x:Nat) (P:List Nat) (vl:Value) (nl:List ah) (v:Value) (ss:List ah) (xs:List bQ) (w:World):Prop extends DW K B d bv k i c x vl nl v ss xs w where
 sh:mX xs=mX jq
 mi:IB N k pos c.toNat x P xs
section
variable {K:Nat->Prop} {B d:Nat} {bv:Value} {jq:List bQ} {N k pos i:Nat} {c:Bool} {x:Nat} {P:List Nat} {vl:Value} {nl:List ah} {v:Value} {ss:List ah} {xs:List bQ} {w w':World}
theorem IB.x1 {N k pos a x:Nat} {P:List Nat} {xs:List bQ} (h:IB N k pos a x P xs):IB N k pos a (x+1) P xs:=⟨h.all,λb hb=>(h.cur b hb).more (by omega),h.nxt,h.row⟩
theorem DW.start (h:qw K B d bv xs w) (e:∃b p,xs[k]? =some b/\b.ps[i]? =some p/\rowA c p=(vl,nl)) (f:B<=w.heap.size):DW K B d bv k i c 0 vl nl (.slice none 0 0) [] xs w:=
 ⟨h.wide λq a=>⟨a,by simp[Value.ownBlock]⟩,e,Bd.nil f,λq a=>by simp[Value.ownBlock]at a,zFv _⟩
theorem DW.old (h:DW K B d bv k i c x vl nl v ss xs w) (hb:Below w w w'):DW K B d bv k i c x vl nl v ss xs w':=
 ⟨h.pl.old hb,h.row,h.st.old hb,h.ap,h.sl⟩
theorem Qm.old (h:Qm K B d bv jq N k pos i c x P vl nl v ss xs w) (hb:Below w w w'):Qm K B d bv jq N k pos i c x P vl nl v ss xs w':=⟨h.toDW.old hb,h.sh,h.mi⟩
theorem DW.mem (h:DW K B d bv k i c x vl nl v ss xs w):(vl,nl)∈bI xs:=by
 obtain⟨b,p,a,g,f⟩:=h.row;obtain⟨e,rfl⟩:=zFc.1 a;obtain⟨j,rfl⟩:=zFc.1 g;rw[<-f];exact yE e j c
theorem DW.elem (h:DW K B d bv k i c x vl nl v ss xs w) {y:Nat} (b:y<nl.length):∃g a,vl=.slice (some ⟨g,0,none⟩) nl.length a/\(∀(j:Nat) (u:Value),nl[y].cells[j]? =some u->w.cell? ⟨g,y*7+j,none⟩=some u)/\okS (λq=>(K q/\some q≠v.ownBlock)/\aJ bv xs q) d nl[y] w:=by
 have e:=h.mem;have m:w.ownsRow B 122 7 vl nl.length (nl.flatMap ah.cells):=h.pl.mO _ e;rcases m.2 with⟨_,r⟩|⟨g,a,o,l,_⟩
 ·omega
 refine⟨g,a,l,λj u f=>?_,h.pl.kids _ e _ (zFe b)⟩;have p:j<7:=by have:=(zFc.1 f).1;rwa [ah.len]at this
 have:=m.cells (g:=g) (by rw[l];rfl) (y*7+j) u (by rw[jd (n:=7) ah.cells nl (λx _=>x.len) y j b p];exact f)
 rwa [yw]at this
theorem DW.stay (h:DW K B d bv k i c x vl nl v ss xs w) {v':Value} {y:ah} (hb:Bd (λq=>K q/\aJ bv xs q) B 122 7 (Hy d) (ss++[y]) v' w') (g:w.grownBy w' v.ownBlock) (f:v'.ownBlock=v.ownBlock\/v'.ownBlock=some w.heap.size):DW K B d bv k i c (x+1) vl nl v' (ss++[y]) xs w':=by
 refine⟨(h.pl.lo.Ql g λq a=>⟨h.ap q a,λj=>j.1.2 a.symm⟩).wide λq a=>⟨a.1.1,?_⟩,h.row,hb,λq a=>?_,by have:=h.sl;simp;omega⟩
 ·rcases f with e|e
  ·rw[e];exact a.1.2
  rw[e];intro b;injection b with b;have:=a.2;omega
 rcases f with e|e
 ·exact h.ap q (e▸a)
 rw[e]at a;injection a with a
 exact h.pl.far (zK5 a)
theorem DW.left (h:DW K B d bv k i c x vl nl v ss xs w):DW K B d bv k i c (x+1) vl nl v ss xs w:=⟨h.pl,h.row,h.st,h.ap,zFi h.sl (zJ9 _)⟩
theorem Lp {w f h:World} {g:Nat} {a:Option Nat} (b:w.grownBy f a) (c:f.grownBy h (some g)) (k:some g=a\/g=w.heap.size):w.grownBy h a:=
 ⟨c.os.trans b.os,c.tape.trans b.tape,c.output.trans b.output,zFi b.size c.size,λq j d=>(c.block q (zFs j b.size) (λe=>by
  rcases k with i|i
  ·exact d (e.trans i)
  injection e with e;omega)).trans (b.block q j d)⟩
theorem Qm.push (h:Qm K B d bv jq N k pos i c x P vl nl v ss xs w) (hB:B<=w.heap.size) (M:pos<=7) (hx:x<N) (Ey:P.Pairwise (·<·)) (hi:P[pos]? =some i) {l t gp o G:Nat} {C:Bool} {b:bQ} {p:aZ} {y:ah} {Z H:World} (hl:l<pos) (ht:P[l]? =some t) (hb:xs[k]? =some b) (hp:b.ps[t]? =some p) (D:C=true->p.form≠3) (Y:b.parts.ownBlock=some gp)
  (hy:okS (λq=>(K q/\some q≠v.ownBlock)/\aJ bv xs q) d y w) (A:H.ownsRow B 122 7 (.slice (some ⟨o,0,none⟩) ((rowA C p).2.length+1) G) ((rowA C p).2.length+1) ((rowA C p).2.flatMap ah.cells++y.cells)) (R:w.grownBy Z (rowA C p).1.ownBlock) (J:Z.grownBy H (some o)) (Q:some o=(rowA C p).1.ownBlock\/o=w.heap.size):
  Qm K B d bv jq N k pos i c (x+1) P vl nl v ss (fZ xs k t C (.slice (some ⟨o,0,none⟩) ((rowA C p).2.length+1) G) ((rowA C p).2++[y])) (H.setCell ⟨gp,t*4+ve C,none⟩ (.slice (some ⟨o,0,none⟩) ((rowA C p).2.length+1) G)):=by
 have n:=Lp R J Q;obtain⟨j,rfl⟩:=zFc.1 hb;obtain⟨g,rfl⟩:=zFc.1 hp;generalize W:Value.slice (some ⟨o,0,none⟩) ((rowA C xs[k].ps[t]).2.length+1) G=U at *;have KC:U.ownBlock=some o:=by rw[<-W];rfl
 have u:=yE j g C;have F:∀q,aJ bv xs q->q≠gp:=λq a e=>a.2.1 _ (zFe j) (by rw[Y,e])
 have X:∀q,aJ bv xs q->q<w.heap.size->some q≠U.ownBlock:=λq a f=>by
  rw[KC];rcases Q with e|e
  ·rw[e];exact a.2.2 _ u
  intro m;injection m with m;omega
 have a0:∀{S S':Nat->Prop},(∀q,S q->aJ bv xs q/\S' q)->dB S S' w H:=λm q a f=>⟨(m q a).2,zFs f n.size,n.block q f ((m q a).1.2.2 _ u)⟩
 have L:t≠i:=by
  obtain⟨m,r⟩:=zFc.1 ht;obtain⟨s,z⟩:=zFc.1 hi;have:=zH1.1 Ey l pos m s hl;omega
 refine⟨⟨h.pl.lo.upd (K':=λq=>K q/\some q≠v.ownBlock) (λq a=>a.1) j g Y (by simpa using A) n ?_ λz r=>?_,?_,?_,λq E=>?_,zFi h.sl (zJ9 _)⟩,(rE _ _ _ _ _ _).trans h.sh,h.mi.push M (by cases c<;>decide) hx Ey hl ht hb hp (by simp) D⟩
 ·rw[KC];rcases Q with e|e
  ·exact .inl e
  refine .inr λq a=>?_
  injection a with a
  exact⟨h.pl.far (by omega),λj=>by have:=j.2;omega⟩
 ·have I:okS (λq=>(K q/\some q≠v.ownBlock)/\aJ bv xs q) d z w:=by
   rcases zFy.1 r with r|r
   ·exact h.pl.kids _ u z r
   rw[zG3.1 r];exact hy
  exact I.keep λq a f=>⟨⟨a.1,a.2,X q a.2 f⟩,zFs f n.size,n.block q f (a.2.2.2 _ u)⟩
 ·obtain⟨b,p,m,s,D⟩:=h.row;rw[hb]at m;injection m with m
  subst m;refine⟨updB t C U ((rowA C xs[k].ps[t]).2++[y]) xs[k],p,by simp[fZ,j],?_,D⟩;unfold updB;simp only[zHi,s,L];simp
 ·obtain⟨ps,m,s,D⟩:=h.st;refine⟨ps,m,zGw (s.kept n ?_) (λe=>F gp (h.ap gp e) rfl) _,λz r=>CK.keep (P:=Hy d) (λq a f=>?_) (D z r)⟩
  ·rcases a:v.ownBlock with _|q
   ·exact .inl rfl
   exact .inr λe=>(h.ap q a).2.2 _ u e
  have O:=F q a.1.2;exact⟨⟨⟨a.1.1,qi j g a.1.2 (X q a.1.2 f)⟩,a.2⟩,by simpa using zFs f n.size,(zGt _ _ _ q O).trans (n.block q f (a.1.2.2.2 _ u))⟩
 have a:=h.ap q E
 exact qi j g a (X q a (by
  obtain⟨_,_,s,_⟩:=h.st
  exact(s.lt q E).2))
theorem DW.fin (h:DW K B d bv k i c x vl nl v ss xs w) {gp:Nat} (j:∀b,xs[k]? =some b->b.parts.ownBlock=some gp):qw K B d bv (fZ xs k i c v ss) (w.setCell ⟨gp,i*4+ve c,none⟩ v):=by
 obtain⟨b,p,g,m,n⟩:=h.row;have l:=j b g;obtain⟨e,rfl⟩:=zFc.1 g;obtain⟨f,rfl⟩:=zFc.1 m;exact h.pl.putR (K':=K) (λq a=>a.1) e f l h.st (zF8 _ _) (.inr λq a=>⟨h.ap q a,λe=>e.2 a.symm⟩)
theorem Qm.fin (h:Qm K B d bv jq N k pos i c x P vl nl v ss xs w) (a:∀q,K q->B<=q) (g:x<=N) (n:P.Pairwise (·<·)) (o:P[pos]? =some i) (l:∀b p,xs[k]? =some b->b.ps[i]? =some p->p.form≠3) {gp:Nat} (j:∀b,xs[k]? =some b->b.parts.ownBlock=some gp):
  iC B d bv (fZ xs k i c v ss) (w.setCell ⟨gp,i*4+ve c,none⟩ v)/\mX (fZ xs k i c v ss)=mX jq/\IB N k pos (c.toNat+1) 0 P (fZ xs k i c v ss):=by
 obtain⟨b,p,e,f,r⟩:=h.row;exact⟨(h.toDW.fin j).m a,(rE _ _ _ _ _ _).trans h.sh,h.mi.stay rfl g n o e f (zFi h.sl g) λ_=>l b p e f⟩
theorem qw.DX (h:qw K B d bv xs w) {b:bQ} {p:aZ} (hb:xs[k]? =some b) (l:b.ps[i]? =some p) {gp n m:Nat} (q:b.parts=.slice (some ⟨gp,0,none⟩) n m) (C:Bool):w.cell? ⟨gp,i*4+ve C,none⟩=some (rowA C p).1/\w.frozen? ⟨gp,i*4+ve C,none⟩=false/\w.cell? ⟨gp,i*4,none⟩=some (.int .i64 p.form)/\gp<w.heap.size:=by
 obtain⟨f,rfl⟩:=zFc.1 hb;obtain⟨o,rfl⟩:=zFc.1 l;obtain⟨g,c',a,r,j,c,e,s⟩:=h.part f o;rw[q]at a;injection a with a
 injection a with a
 injection a with a
 subst a;refine⟨?_,e _,by simpa using c 0 _ rfl,j⟩;cases C
 ·exact c 2 _ rfl
 exact c 3 _ rfl
theorem F8:∀(l:List dU) (i z:Nat),z∈jf i l->∃p,l[z-i]? =some p/\p.form≠3
 |[],i,z,h=>absurd h (by simp[jf])
 |p::l,i,z,h=>by
  unfold jf at h
  have a:z∈jf (i+1) l->∃q,(p::l)[z-i]? =some q/\q.form≠3:=λh=>by
   obtain⟨q,b,c⟩:=F8 l (i+1) z h;have:=(uP l (i+1) z h).1;exact⟨q,by rw[show z-i=z-(i+1)+1 by omega];exact b,c⟩
  split at h
  ·exact a h
  rcases zF6.1 h with rfl|h
  ·exact⟨p,by simp,by assumption⟩
  exact a h
theorem Ih (h:mX xs=mX jq) {c:bQ} {p0:aZ} (hb:jq[k]? =some c) (j:c.ps[i]? =some p0):∃b p,xs[k]? =some b/\b.ps[i]? =some p/\p.form=p0.form/\b.parts=c.parts:=by
 obtain⟨f,rfl⟩:=zFc.1 hb;obtain⟨l,rfl⟩:=zFc.1 j;obtain⟨a,_,_,g,m,e⟩:=wR h f;refine⟨xs[k],xs[k].ps[i],zAg a,zAg (by omega),?_,g⟩;have d:(xs[k].ps.map λp=>(p.form,p.type))[i]? =(jq[k].ps.map λp=>(p.form,p.type))[i]? :=by rw[e]
 simp[l,show i<xs[k].ps.length by omega]at d;exact d.1
end
def WC (z gl gb B1:Nat) (cl cb:Array Value) (Pi:List Int) (q:Value) (w:World):Prop:=z<=w.heap.size/\Bk w gl 29 cl/\Bk w gb 67 cb/\Bd (λ_=>False) B1 3 1 gK Pi q w
section
variable {z gl gb B1:Nat} {cl cb:Array Value} {Pi:List Int} {q:Value} {w w':World} (h:WC z gl gb B1 cl cb Pi q w)
include h
theorem WC.old (hb:Below w w w'):WC z gl gb B1 cl cb Pi q w':=⟨zFi h.1 hb.size,h.2.1.old hb,h.2.2.1.old hb,h.2.2.2.old hb⟩
theorem WC.row {B n:Nat} {v:Value} {cs:List Value} (b:w.ownsRow B 122 7 v n cs) (a:w.grownBy w' v.ownBlock):WC z gl gb B1 cl cb Pi q w':=by
 obtain⟨ps,c,d,e⟩:=h.2.2.2;exact⟨zFi h.1 a.size,h.2.1.grown a (aN b h.2.1 (by decide)),h.2.2.1.grown a (aN b h.2.2.1 (by decide)),ps,c,bU d b (by decide) a,e⟩
theorem WC.set {B n gp i:Nat} {c v:Value} {cs:List Value} (j:w.ownsRow B 69 4 c n cs) (d:c.ownBlock=some gp):WC z gl gb B1 cl cb Pi q (w.setCell ⟨gp,i,none⟩ v):=by
 have b:∀{g t:Nat} {a:Array Value},Bk w g t a->69≠t->g≠gp:=λa f e=>aN j a f (by rw[d,e])
 obtain⟨ps,k,f,l⟩:=h.2.2.2
 exact⟨by simpa using h.1,h.2.1.far (p:=⟨gp,i,none⟩) (b h.2.1 (by decide)) v,h.2.2.1.far (p:=⟨gp,i,none⟩) (b h.2.2.1 (by decide)) v,ps,k,zGw f (λe=>by
  rcases own_ne f j (by decide)with a|a
  ·rw[e]at a;cases a
  exact a (e.trans d.symm)) v,l⟩
end
theorem Qm.zAh {K:Nat->Prop} {B d:Nat} {bv:Value} {jq:List bQ} {N k pos i:Nat} {c:Bool} {x:Nat} {P:List Nat} {vl:Value} {nl:List ah} {v:Value} {ss:List ah} {xs:List bQ} {w W:World} {z gl gb B1:Nat} {cl cb:Array Value} {Pi:List Int} {q:Value} (h:Qm K B d bv jq N k pos i c x P vl nl v ss xs w) (hW:Below B W w) (hF:WC z gl gb B1 cl cb Pi q w)
  (J:B<=w.heap.size) (u:pos<=7) (hx:x<N) (Ey:P.Pairwise (·<·)) (Y:P[pos]? =some i) {l t gp f o:Nat} {C:Bool} {b:bQ} {p:aZ} {y:ah} {I m:World} (hl:l<pos) (U:P[l]? =some t) (hb:xs[k]? =some b) (D:b.ps[t]? =some p) (M:C=true->p.form≠3) (s:b.parts.ownBlock=some gp)
  (L:okS (λq=>(K q/\some q≠v.ownBlock)/\aJ bv xs q) d y w) {r:Option Addr} {a F:Nat} (Z:(rowA C p).1=.slice r a F) (hn:(rowA C p).2.length=a) {cs:List Value} (H:y.cells=cs) (g:m.ownsRow B 122 7 (.slice (some ⟨f,0,none⟩) (a+1) o) (a+1) ((rowA C p).2.flatMap ah.cells++cs)) (e:w.grownBy I (Value.slice r a F).ownBlock) (j:I.grownBy m (some f)) (A:some f=(Value.slice r a F).ownBlock\/f=w.heap.size):
  Below B W (m.setCell ⟨gp,t*4+ve C,none⟩ (.slice (some ⟨f,0,none⟩) (a+1) o))/\WC z gl gb B1 cl cb Pi q (m.setCell ⟨gp,t*4+ve C,none⟩ (.slice (some ⟨f,0,none⟩) (a+1) o))/\∃ss xs,Qm K B d bv jq N k pos i c (x+1) P vl nl v ss xs (m.setCell ⟨gp,t*4+ve C,none⟩ (.slice (some ⟨f,0,none⟩) (a+1) o)):=by
 subst hn H;rw[<-Z]at e A;have G:=Lp e j A;obtain⟨X,Q⟩:=zFc.1 hb;obtain⟨S,R⟩:=zFc.1 (by rw[<-Q]at D;exact D);have E:=h.pl.mO _ (R▸yE X S C);have n:=h.pl.prt _ (zGj hb);exact⟨(hW.grown G J λq O=>(E.lt q O).1).setCell (by exact(n.lt gp s).1) _,(hF.row E G).set (bU n E (by decide) G) s,_,_,h.push J u hx Ey Y hl U hb D M s L g e j A⟩
theorem zDf (op kind:Int) (A:Option Addr) (l c:Nat) (vk:Int) (vb:Nat) (pos a k:Int) (w:World):
  Calls prog 51 #[.agg #[op,kind,.slice A l c,vk,.int .u64 vb,pos,a],k] w (BW w):=by
 have d:=Bk.new w 122 #[op,kind,.slice A l c,vk,.int .u64 vb,pos,a];have b:=ba w (.cells #[op,kind,.slice A l c,vk,.int .u64 vb,pos,a] 122)
 go_enter func51,ntmps51
 go_upto_region 1 with fail
 generalize w.alloc (.cells #[op,kind,.slice A l c,vk,.int .u64 vb,pos,a] 122)=i at *;have j:=d.cell 0;have h:=d.cell 5;have m:=d.cell 6;have e:=zH b;clear d b
 by_cases b:op=k
 ·subst b
  by_cases f:pos=0
  ·subst f
   by_cases d:a= -1
   ·subst d;go_wp2_with fail
    go_ret
    exact⟨_,rfl,e.out⟩
   have g:(a== -1)=false:=by rw[zFz];exact d
   go_wp2_with fail
   go_ret
   exact⟨_,rfl,e.out⟩
  have g:(pos==0)=false:=by rw[zFz];exact f
  go_wp2_with fail
  go_ret
  exact⟨_,rfl,e.out⟩
 have d:(op==k)=false:=by rw[zFz];exact b
 go_wp2_with fail
 go_ret
 exact⟨_,rfl,e.out⟩
end Go.Proofs.YtbjnhllkdilpfaaGreat
