/- Part 9 of the proof. No conditions. -/
import Derived.Test.YtbjnhllkdilpfaaGreatZf08
set_option linter.unusedVariables false
set_option linter.unusedSimpArgs false
set_option maxRecDepth 100000
set_option maxHeartbeats 16000000
namespace Go.Proofs.YtbjnhllkdilpfaaGreat
open Go.RowKit _root_.Go.Proofs.Tryz
structure aZ where
 form:Nat
 type:Int
 g:Value
 c:Value
 gs:List ah
 cs:List ah
def aZ.cells (x:aZ):List Value:=[.int .i64 x.form,.int .i64 x.type,x.g,x.c]
structure bQ where
 id:Nat
 window:Int
 parts:Value
 ps:List aZ
def bQ.cells (x:bQ):List Value:=[.int .i64 x.id,.int .i64 x.window,x.parts]
theorem lU (x:aZ):x.cells.length=4:=rfl
theorem YC (x:bQ):x.cells.length=3:=rfl
structure dU where
 form:Nat
 type:Int
 gs:List T
 cs:List T
structure dL where
 id:Nat
 window:Int
 ps:List dU
def partT (d:Nat) (p:aZ):dU:=⟨p.form,p.type,p.gs.map (eP d),p.cs.map (eP d)⟩
def fJ (d:Nat) (b:bQ):dL:=⟨b.id,b.window,b.ps.map (partT d)⟩
def dQ (p:aZ):List (Value×List ah):=[(p.g,p.gs),(p.c,p.cs)]
def NK (b:bQ):List (Value×List ah):=b.ps.flatMap dQ
def bI (bs:List bQ):List (Value×List ah):=bs.flatMap NK
def aJ (bv:Value) (bs:List bQ) (q:Nat):Prop:=some q≠bv.ownBlock/\(∀b∈bs,some q≠b.parts.ownBlock)/\∀z∈bI bs,some q≠z.1.ownBlock
structure iC (B d:Nat) (bv:Value) (bs:List bQ) (W:World):Prop where
 dJ:W.ownsRow B 67 3 bv bs.length (bs.flatMap bQ.cells)
 prt:∀b∈bs,W.ownsRow B 69 4 b.parts b.ps.length (b.ps.flatMap aZ.cells)
 tN:bs.Pairwise λx y=>x.parts.ownBlock=none\/x.parts.ownBlock≠y.parts.ownBlock
 mO:∀x∈bI bs,W.ownsRow B 122 7 x.1 x.2.length (x.2.flatMap ah.cells)
 og:(bI bs).Pairwise λx y=>x.1.ownBlock=none\/x.1.ownBlock≠y.1.ownBlock
 kids:∀x∈bI bs,∀y∈x.2,okS (λq=>B<=q/\aJ bv bs q) d y W
section
variable {w w':World} {base e size n:Nat} {v:Value} {xs:List Value}
theorem uM (h:w.ownsRow base e size v n xs) {g:Nat} (d:v.ownBlock=some g) (i:Nat) (p:i<xs.length) (u:Value):(w.setCell ⟨g,i,none⟩ u).ownsRow base e size v n (xs.set i u):=by
 refine⟨by rw[zH0];exact h.1,?_⟩;rcases h.2 with⟨rfl,_⟩|⟨c,b,a,rfl,hb,m,o,j,f,l⟩
 ·cases d
 have k:c=g:=by simpa[Value.ownBlock]using d
 subst k;refine .inr ⟨c,b,a.setIfInBounds i u,rfl,hb,?_,o,j,by simpa using f,?_⟩
 ·simp[World.setCell,zKm,m]
 rw[zJm,List.take_set,l]
theorem qW (h:w.ownsRow base e size v n xs) {g:Nat} (c:v.ownBlock=some g) (i:Nat):w.frozen? ⟨g,i,none⟩=false:=by
 rcases h.2 with⟨rfl,_⟩|⟨b,d,a,rfl,hb,j,o,l,k,m⟩
 ·cases c
 have f:b=g:=by simpa[Value.ownBlock]using c
 subst f;exact(show Bk w b e a from j).frozen i
end
theorem Dl {α:Type} (f:α->List Value) (k:Nat) (e:∀x,(f x).length=k):∀(c:List α) (a b:α) (d:List α) (j:Nat) (u:Value),j<k->(f a).set j u=f b->((c++a::d).flatMap f).set (c.length*k+j) u=(c++b::d).flatMap f
 |[],a,b,d,j,u,g,h=>by
  simp only[List.nil_append,zGx,zF4,zHm,zFr];rw[List.set_append_left _ _ (by rw[e];exact g),h]
 |x::c,a,b,d,j,u,g,h=>by
  have i:=Dl f k e c a b d j u g h;simp only[List.cons_append,zGx,zFh];rw[List.set_append_right _ _ (by rw[e,zJg];omega),e,<-i]
  congr 2
  rw[zJg];omega
theorem FD {α β:Type} (f:α->List β) (k:Nat) (a:∀x,(f x).length=k) (l:List α):(l.flatMap f).length=l.length*k:=by
 induction l with
 |nil=>simp
 |cons x l b=>rw[zGx,zFu,a,b,zFh,zJg];omega
theorem iC.old {B d:Nat} {bv:Value} {bs:List bQ} {W W':World} (h:iC B d bv bs W) (hb:Below W W W'):iC B d bv bs W':=
 ⟨aT h.dJ hb,λb a=>aT (h.prt b a) hb,h.tN,λx a=>aT (h.mO x a) hb,h.og,λx a y c=>(h.kids x a y c).keep λq c a=>⟨c,zFs a hb.size,hb.block q a⟩⟩
theorem iC.mono {B B' d:Nat} {bv:Value} {bs:List bQ} {W:World} (h:iC B d bv bs W) (a:B'<=B):iC B' d bv bs W:=
 ⟨bV h.dJ a,λb c=>bV (h.prt b c) a,h.tN,λx c=>bV (h.mO x c) a,h.og,λx c y e=>(h.kids x c y e).keep λq e c=>⟨⟨zFi a e.1,e.2⟩,c,rfl⟩⟩
theorem iC.grown {B d:Nat} {bv:Value} {bs:List bQ} {W W':World} {b:Nat} (h:iC B d bv bs W) (f:W.grownBy W' (some b)) (hb:b<B):iC B d bv bs W':=by
 have a:∀{e size n:Nat} {v:Value} {xs:List Value},W.ownsRow B e size v n xs->W'.ownsRow B e size v n xs:=fun {e size n v xs} c=>c.kept f (by
  rcases hv:v.ownBlock with _|k
  ·exact .inl rfl
  exact .inr λe=>by
   injection e with e
   have:=(c.lt k hv).1
   omega)
 exact⟨a h.dJ,λb c=>a (h.prt b c),h.tN,λx c=>a (h.mO x c),h.og,λx c y g=>(h.kids x c y g).keep λq g c=>⟨g,zFs c f.size,f.block q c (λe=>by injection e with e;omega)⟩⟩
theorem oM {b1 b2:List bQ} {b:bQ} {p1 p2:List aZ} {p:aZ} (a:b.ps=p1++p::p2):bI (b1++b::b2)=(bI b1++p1.flatMap dQ)++dQ p++(p2.flatMap dQ++bI b2):=by
 unfold bI;rw[zGz,zGx];unfold NK;rw[a,zGz,zGx];simp only[zJa]
structure Grew (B d Wn:Nat) (R1 R2:List (Value×List ah)) (v v':Value) (ns:List ah) (nd:ah) (W W1:World):Prop where
 own:W1.ownsRow B 122 7 v' (ns++[nd]).length ((ns++[nd]).flatMap ah.cells)
 grown:W.grownBy W1 v.ownBlock
 wh:v'.ownBlock=v.ownBlock\/v'.ownBlock=some W.heap.size
 ok:okS (λq=>Wn<=q) d nd W
theorem Ha {α:Type} {R:α->α->Prop} {b c:List α} {a:α} (h:(b++a::c).Pairwise R):(∀x∈b,R x a)/\∀x∈c,R a x:=by
 rw[zHn,zK6]at h;exact⟨λx d=>h.2.2 x d a (by simp),h.2.1.1⟩
theorem He {α:Type} {R:α->α->Prop} {d e:List α} {a b:α} (h:(d++a::e).Pairwise R) (g:∀x∈d,R x b) (i:∀x∈e,R b x):(d++b::e).Pairwise R:=by
 rw[zHn,zK6]at h⊢;refine⟨h.1,⟨i,h.2.1.2⟩,λx f y c=>?_⟩;rcases zF6.1 c with rfl|c
 ·exact g x f
 exact h.2.2 x f y (by simp[c])
theorem iC.app {B d L:Nat} {bv:Value} {b1 b2:List bQ} {b:bQ} {p1 p2:List aZ} {p p':aZ} {R1 R2:List (Value×List ah)} {v v':Value} {ns:List ah} {X:ah} {W W1:World} {gp j:Nat}
  (h:iC B d bv (b1++b::b2) W) (E:b.ps=p1++p::p2) (r:b.parts.ownBlock=some gp) (Y:j<4) (w:p.cells.set j v'=p'.cells) (G:bI (b1++b::b2)=R1++(v,ns)::R2) (t:bI (b1++{b with ps:=p1++p'::p2}::b2)=R1++(v',ns++[X])::R2)
  (hB:B<=L) (N:∀q,¬aJ bv (b1++b::b2) q->q<L) (hW:L<=W.heap.size) (k:Grew B d L R1 R2 v v' ns X W W1):
  iC B d bv (b1++{b with ps:=p1++p'::p2}::b2) (W1.setCell ⟨gp,p1.length*4+j,none⟩ v'):=by
 have i:(v,ns)∈bI (b1++b::b2):=by rw[G];simp
 have K:=h.mO _ i;have hb:=h.prt b (by simp);have s:=Ha h.tN;have H:(∀x∈R1,_)/\_:=Ha (G▸h.og)
 have f:∀x∈R1++R2,x∈bI (b1++b::b2):=λx a=>by
  rw[G];rcases zFy.1 a with a|a<;>simp[a]
 have l:∀{e size n:Nat} {u:Value} {xs:List Value},W1.ownsRow B e size u n xs->u.ownBlock≠some gp->(W1.setCell ⟨gp,p1.length*4+j,none⟩ v').ownsRow B e size u n xs:=λG c=>zGw G c _
 have C:∀{u:Value} {n:Nat} {xs:List Value},W.ownsRow B 122 7 u n xs->u.ownBlock≠some gp:=fun {u n xs} hu e=>by
  rcases own_ne hu hb (by decide)with g|g
  ·rw[e]at g;cases g
  exact g (e.trans r.symm)
 have J:v'.ownBlock≠some gp:=by
  rcases k.wh with e|e
  ·rw[e];exact C K
  rw[e];intro o;injection o with o
  have:=(hb.lt gp r).2;omega
 have I:(W1.setCell ⟨gp,p1.length*4+j,none⟩ v').ownsRow B 67 3 bv (b1++b::b2).length ((b1++b::b2).flatMap bQ.cells):=l (bU h.dJ K (by decide) k.grown) (λe=>by
  rcases own_ne h.dJ hb (by decide)with g|g
  ·rw[e]at g;cases g
  exact g (e.trans r.symm))
 have M:∀x∈R1++R2,x.1.ownBlock=none\/x.1.ownBlock≠v.ownBlock:=by
  intro x a;rcases zFy.1 a with a|a
  ·exact H.1 x a
  rcases H.2 x a with e|e
  ·by_cases D:x.1.ownBlock=none
   ·exact .inl D
   exact .inr λo=>D (o.trans e)
  exact .inr (zLh e)
 have P:∀x∈R1++R2,x.1.ownBlock≠some W.heap.size:=λx a e=>by
  have:=((h.mO x (f x a)).lt _ e).2;omega
 have S:∀x∈R1++R2,x.1.ownBlock=none\/x.1.ownBlock≠v'.ownBlock:=λx a=>by
  rcases k.wh with e|e
  ·rw[e];exact M x a
  rw[e];exact .inr (P x a)
 have U:∀q,q<W.heap.size->aJ bv (b1++b::b2) q->aJ bv (b1++{b with ps:=p1++p'::p2}::b2) q:=by
  intro q F c;refine⟨c.1,λx a=>?_,λz m=>?_⟩
  ·rcases zFy.1 a with a|a
   ·exact c.2.1 x (by simp[a])
   rcases zF6.1 a with rfl|a
   ·exact c.2.1 b (by simp)
   exact c.2.1 x (by simp[a])
  rw[t]at m;rcases zFy.1 m with m|m
  ·exact c.2.2 z (f z (by simp[m]))
  rcases zF6.1 m with rfl|m
  ·rcases k.wh with e|e
   ·show some q≠v'.ownBlock
    rw[e];exact c.2.2 _ i
   show some q≠v'.ownBlock
   rw[e];intro o;injection o with o;omega
  exact c.2.2 z (f z (by simp[m]))
 have R:∀q,q<W.heap.size->some q≠v.ownBlock->q≠gp->q<(W1.setCell ⟨gp,p1.length*4+j,none⟩ v').heap.size/\(W1.setCell ⟨gp,p1.length*4+j,none⟩ v').heap[q]? =W.heap[q]? :=λq A Q O=>
  ⟨by have:=k.grown.size;simp;omega,(zGt W1 _ _ q (by show q≠gp;exact O)).trans (k.grown.block q A Q)⟩
 refine⟨?_,?_,?_,?_,?_,?_⟩
 ·have O:(b1++{b with ps:=p1++p'::p2}::b2).length=(b1++b::b2).length:=by simp
  have Q:(b1++{b with ps:=p1++p'::p2}::b2).flatMap bQ.cells=(b1++b::b2).flatMap bQ.cells:=by simp[zGz,bQ.cells]
  rw[O,Q];exact I
 ·intro x a;rcases zFy.1 a with a|a
  ·have A:=h.prt x (by simp[a]);refine l (bU A K (by decide) k.grown) λe=>?_
   rcases s.1 x a with g|g
   ·rw[e]at g;cases g
   exact g (e.trans r.symm)
  rcases zF6.1 a with rfl|a
  ·have D:=uM (bU hb K (by decide) k.grown) r (p1.length*4+j) (by rw[FD _ _ lU,E];simp;omega) v';have O:(p1++p'::p2).length=b.ps.length:=by rw[E];simp
   have Q:(p1++p'::p2).flatMap aZ.cells=(b.ps.flatMap aZ.cells).set (p1.length*4+j) v':=by
    rw[E];exact(Dl aZ.cells 4 lU p1 p p' p2 j v' Y w).symm
   show(W1.setCell _ v').ownsRow B 69 4 b.parts (p1++p'::p2).length ((p1++p'::p2).flatMap aZ.cells)
   rw[O,Q];exact D
  have A:=h.prt x (by simp[a]);refine l (bU A K (by decide) k.grown) λe=>?_
  rcases s.2 x a with g|g
  ·rw[r]at g;cases g
  exact g (r.trans e.symm)
 ·refine He h.tN (λx a=>s.1 x a) (λx a=>s.2 x a)
 ·intro x a;rw[t]at a;rcases zFy.1 a with a|a
  ·exact l ((h.mO x (f x (by simp[a]))).kept k.grown (M x (by simp[a]))) (C (h.mO x (f x (by simp[a]))))
  rcases zF6.1 a with rfl|a
  ·exact l k.own J
  exact l ((h.mO x (f x (by simp[a]))).kept k.grown (M x (by simp[a]))) (C (h.mO x (f x (by simp[a]))))
 ·rw[t];refine He (G▸h.og) (λx a=>S x (by simp[a])) (λx a=>?_);rcases S x (by simp[a])with e|e
  ·by_cases D:v'.ownBlock=none
   ·exact .inl D
   exact .inr λo=>D (o.trans e)
  exact .inr (zLh e)
 intro x a y o
 have D:∀z∈bI (b1++b::b2),y∈z.2->okS (λq=>B<=q/\aJ bv (b1++{b with ps:=p1++p'::p2}::b2) q) d y (W1.setCell ⟨gp,p1.length*4+j,none⟩ v'):=λz m o=>by
  refine(h.kids z m y o).keep λq F g=>?_
  have A:=R q g (F.2.2.2 _ i) (λe=>F.2.2.1 b (by simp) (by rw[r,e]));exact⟨⟨F.1,U q g F.2⟩,A.1,A.2⟩
 rw[t]at a;rcases zFy.1 a with a|a
 ·exact D x (f x (by simp[a])) o
 rcases zF6.1 a with rfl|a
 ·rcases zFy.1 o with o|o
  ·exact D (v,ns) i o
  simp only[zF6,zGi,zHt]at o;subst o;refine k.ok.keep λq F g=>?_
  have c:aJ bv (b1++b::b2) q:=Classical.byContradiction λZ=>by have:=N q Z;omega
  have A:=R q g (c.2.2 _ i) (λe=>c.2.1 b (by simp) (by rw[r,e]));exact⟨⟨by omega,U q g c⟩,A.1,A.2⟩
 exact D x (f x (by simp[a])) o
def dB (S S':Nat->Prop) (w w':World):Prop:=∀b,S b->b<w.heap.size->S' b/\b<w'.heap.size/\w'.heap[b]? =w.heap[b]?
theorem dB.old {S:Nat->Prop} {w w':World} (hb:Below w w w'):dB S S w w':=λb h a=>⟨h,zFs a hb.size,hb.block b a⟩
theorem dB.set {S S':Nat->Prop} {w:World} {p:Addr} {v:Value} (h:∀b,S b->S' b/\b≠p.block):dB S S' w (w.setCell p v):=λb hb a=>⟨(h b hb).1,by simpa using a,zGt w p v b (h b hb).2⟩
theorem dB.grown {S:Nat->Prop} {w w':World} {c:Option Nat} (h:w.grownBy w' c):dB (λq=>S q/\some q≠c) S w w':=λb hb a=>⟨hb.1,zFs a h.size,h.block b a hb.2⟩
theorem dB.gV {S:Nat->Prop} {w w':World} {g:Nat} (h:w.grownBy w' (some g)) (c:∀b,S b->b≠g):dB S S w w':=λb hb a=>⟨hb,zFs a h.size,h.block b a λe=>c b hb (by injection e)⟩
theorem dD {w c w2:World} {a:Option Nat} (h:w.grownBy c a) (hb:Below w.heap.size c w2):w.grownBy w2 a:=
 ⟨hb.os.trans h.os,hb.tape.trans h.tape,hb.output.trans h.output,zFi h.size hb.size,λk d b=>(hb.block k d).trans (h.block k d b)⟩
theorem eu {w a:World} {g i:Nat} {v:Value} (h:w.grownBy a (some g)):w.grownBy (a.setCell ⟨g,i,none⟩ v) (some g):=
 h.trans ⟨rfl,rfl,rfl,by simp,λk c b=>zGt a _ v k (λe=>b (by rw[e]))⟩
theorem ba (w:World) (o:Obj):Below w w (w.alloc o):=zR.alloc zL _
class CK {α:Type} (n:outParam Nat) (P:(Nat->Prop)->α->List Value->World->Prop):Prop where
 pos:0<n
 keep:∀{S S':Nat->Prop} {w w':World} {x:α} {cs:List Value},dB S S' w w'->P S x cs w->P S' x cs w'
 len:∀{S:Nat->Prop} {w:World} {x:α} {cs:List Value},P S x cs w->cs.length=n
 one:∀{S:Nat->Prop} {w:World} {x:α} {cs:List Value},P S x cs w->cs.all Value.oneCell'=true
def Rw {α:Type} (P:(Nat->Prop)->α->List Value->World->Prop) (S:Nat->Prop) (xs:List α) (A:Option Addr) (w:World):Prop:=
 ∃ps:List (α×List Value),ps.map Prod.fst=xs/\Q3 w S A (ps.flatMap Prod.snd)/\∀p∈ps,P S p.1 p.2 w
def Sl {α:Type} (P:(Nat->Prop)->α->List Value->World->Prop) (S:Nat->Prop) (xs:List α) (v:Value) (w:World):Prop:=
 ∃A c,v=.slice A xs.length c/\xs.length<=1000000000000/\Rw P S xs A w
theorem jd {α β:Type} {n:Nat} (f:α->List β):∀(l:List α) (c:∀a∈l,(f a).length=n) (k j:Nat) (e:k<l.length) (d:j<n),(l.flatMap f)[k*n+j]? =(f l[k])[j]?
 |a::l,c,0,j,e,d=>by
  rw[zGx,zHm,zFr,zGh (by rw[c a (by simp)];exact d)];rfl
 |a::l,c,k+1,j,e,d=>by
  rw[zGx,zGd (by rw[c a (by simp),zJg];omega),c a (by simp),show(k+1)*n+j-n=k*n+j by rw[zJg];omega];exact jd f l (λb hb=>c b (by simp[hb])) k j (by simpa using e) d
theorem jl {α β:Type} {n:Nat} (f:α->List β):∀(l:List α) (c:∀a∈l,(f a).length=n),(l.flatMap f).length=l.length*n
 |[],_=>by simp
 |a::l,c=>by
  rw[zGx,zFu,c a (by simp),jl f l (λb hb=>c b (by simp[hb])),zFh,zJg,Nat.add_comm]
section
variable {α:Type} {n:Nat} {P:(Nat->Prop)->α->List Value->World->Prop} {S S':Nat->Prop} {xs:List α} {A:Option Addr} {v:Value} {w w':World}
theorem Rw.keep [CK n P] (h:Rw P S xs A w) (a:dB S S' w w'):Rw P S' xs A w':=by
 obtain⟨ps,b,d,c⟩:=h;exact⟨ps,b,d.keep a,λp e=>CK.keep a (c p e)⟩
theorem Rw.old [CK n P] (h:Rw P S xs A w) (hb:Below w w w'):Rw P S xs A w':=h.keep (.old hb)
theorem Sl.keep [CK n P] (h:Sl P S xs v w) (b:dB S S' w w'):Sl P S' xs v w':=by
 obtain⟨A,c,a,e,d⟩:=h;exact⟨A,c,a,e,d.keep b⟩
theorem Sl.one (h:Sl P S xs v w):v.oneCell'=true:=by
 obtain⟨A,c,rfl,_⟩:=h;rfl
theorem Rw.elem [CK n P] (h:Rw P S xs A w) {k:Nat} (a:k<xs.length):∃b o cs,A=some ⟨b,o,none⟩/\S b/\b<w.heap.size/\P S xs[k] cs w/\∀j u,cs[j]? =some u->w.cell? ⟨b,o+k*n+j,none⟩=some u:=by
 obtain⟨ps,rfl,c,f⟩:=h;rw[zF5]at a;have i:=f _ (zFe a);have e:∀p∈ps,(Prod.snd p).length=n:=λp d=>CK.len (f p d)
 have d:0<n:=CK.pos P;rcases c with s|⟨b,o,m,c,r,q⟩
 ·have:=jl Prod.snd ps e;rw[s]at this;have:=Nat.mul_pos (Nat.lt_of_le_of_lt (zFj _) a) d;simp at *;omega
 refine⟨b,o,ps[k].2,m,c,r,by simpa using i,λj u g=>?_⟩;have l:j<n:=by rw[<-e _ (zFe a)];exact(zFc.1 g).1
 rw[zJb];exact q _ _ (by rw[jd Prod.snd ps e k j a l];exact g)
def SlR {α:Type} (P:(Nat->Prop)->α->List Value->World->Prop) (S:Nat->Prop) (xs:List α) (v:Value) (w:World):Prop:=
 ∃A c,v=.slice A xs.length c/\∃ps:List (α×List Value),ps.map Prod.fst=xs/\Rd w w.heap.size A (ps.flatMap Prod.snd)/\∀p∈ps,P S p.1 p.2 w
theorem Sl.r {α:Type} {P:(Nat->Prop)->α->List Value->World->Prop} {S:Nat->Prop} {xs:List α} {v:Value} {w:World} (h:Sl P S xs v w):SlR P S xs v w:=by
 obtain⟨A,c,a,_,ps,d,b,e⟩:=h;exact⟨A,c,a,ps,d,b.rd,e⟩
theorem Rw.lo [CK n P] (h:Rw P S xs A w):Rw P (λq=>S q/\q<w.heap.size) xs A w:=h.keep λb hb a=>⟨⟨hb,a⟩,a,rfl⟩
theorem Rw.nil:Rw P S [] A w:=⟨[],rfl,.inl rfl,λp a=>absurd a (by simp)⟩
end
def Bd {α:Type} (S0:Nat->Prop) (base t n:Nat) (P:(Nat->Prop)->α->List Value->World->Prop) (xs:List α) (v:Value) (w:World):Prop:=
 ∃ps:List (α×List Value),ps.map Prod.fst=xs/\w.ownsRow base t n v xs.length (ps.flatMap Prod.snd)/\∀p∈ps,P (λq=>S0 q/\some q≠v.ownBlock) p.1 p.2 w
def Fr (base:Nat) (w w':World):Prop:=∀(B:Nat) (a0:World),B<=base->B<=w.heap.size->Below B a0 w->Below B a0 w'
section
variable {α:Type} {n:Nat} {P:(Nat->Prop)->α->List Value->World->Prop} {S S':Nat->Prop} {base t:Nat} {xs:List α} {A:Option Addr} {v v':Value} {w w':World}
theorem Bd.nil (hb:base<=w.heap.size):Bd S base t n P [] (.slice none 0 0) w:=⟨[],rfl,zGs _ _ _ _,λp a=>absurd a (by simp)⟩
theorem Bd.form (h:Bd S base t n P xs v w):∃A c,v=.slice A xs.length c/\xs.length<=c:=by
 obtain⟨ps,d,a,b⟩:=h;exact aK a
theorem Bd.lt (h:Bd S base t n P xs v w) {k:Nat} (a:v.ownBlock=some k):base<=k/\k<w.heap.size:=by
 obtain⟨ps,c,b,d⟩:=h;exact b.lt k a
theorem Bd.old [CK n P] (h:Bd S base t n P xs v w) (hb:Below w w w'):Bd S base t n P xs v w':=by
 obtain⟨ps,a,d,c⟩:=h;exact⟨ps,a,aT d hb,λp b=>CK.keep (.old hb) (c p b)⟩
theorem Bd.set [CK n P] (h:Bd S base t n P xs v w) {p:Addr} (u:Value) (c:∀b,S b->b≠p.block) (i:p.block<base):Bd S base t n P xs v (w.setCell p u):=by
 obtain⟨ps,d,a,f⟩:=h;exact⟨ps,d,zGw a (λe=>by have:=(a.lt _ e).1;omega) u,λq g=>CK.keep (dB.set λb hb=>⟨hb,c b hb.1⟩) (f q g)⟩
theorem Bd.Kq [CK n P] {f:Nat->Prop} (h:Bd f base t n P xs v w) (g:∀b,base<=b->v.ownBlock=some b->S b) (d:∀b,f b->some b≠v.ownBlock->S b) (q:xs.length<=1000000000000):Sl P S xs v w:=by
 obtain⟨ps,i,e,k⟩:=h;obtain⟨A,c,rfl,_⟩:=aK e;refine⟨A,c,rfl,q,ps,i,?_,λp j=>CK.keep (λb hb a=>⟨d b hb.1 hb.2,a,rfl⟩) (k p j)⟩;rcases gX e with m|⟨b,o,a,j,l⟩
 ·exact .inl m
 exact .inr ⟨b,o,a,g b j (by rw[a];rfl),l⟩
theorem Bd.sl [CK n P] (h:Bd S base t n P xs v w) (a:∀b,base<=b->S b) (c:xs.length<=1000000000000):Sl P S xs v w:=h.Kq (λb hb _=>a b hb) (λb hb _=>hb) c
theorem Bd.ne (h:Bd S base t n P xs v w) {g u:Nat} {cs:Array Value} (b:Bk w g u cs) (a:t≠u):some g≠v.ownBlock:=by
 obtain⟨ps,d,c,e⟩:=h;exact aN c b a
end
structure ZL (ts t n by':Nat):Prop where
 und:prog.underlying ts=some (.slice t)
 inf:∃z:Value,(prog.info? t).map (λi=>(i.zero,i.size,i.bytes))=some (some z,n,by')/\z.cells.size=n
 le:0<n/\n<=8/\by'<=128
structure L6 (ts t n by':Nat):Prop extends ZL ts t n by' where
 agg:∀w,(isAgg t).run prog w=.ok true w
theorem aY {c t n b:Nat} (h:ZL c t n b) (w:World):(sizeOf t).run prog w=.ok n w:=by
 obtain⟨z,a,d⟩:=h.inf;obtain⟨i,e,f,a,d⟩:=zG4 a;simp[sizeOf,typeInfo,e,a]
theorem Kr:∀(b:List Value) (k:Nat) (z:List Value),k+b.length<=z.length->((b.zipIdx k).foldl (fun(a:Array Value) (p:Value×Nat)=>a.setIfInBounds p.2 p.1) z.toArray).toList=z.take k++b++z.drop (k+b.length)
 |[],k,z,h=>by simp
 |v::b,k,z,h=>by
  simp only[zFh]at h;rw[List.zipIdx_cons,List.foldl_cons];have:=Kr b (k+1) (z.set k v) (by simp;omega);simp only[zFf]at this⊢;rw[this]
  apply zJ1
  intro i;simp only[zFh,zKs,zK7,zHd,zFu,zG9,zKh,List.getElem?_cons,zH0]
  (repeat' split)<;>first|rfl|(exfalso;omega)|(congr 1;omega)|skip
theorem YD {c t n a:Nat} (h:L6 c t n a) (cs:List Value) (l:cs.length=n) (w:World):(Instr.buildSlice c 1 #[(0,.agg cs.toArray)]).run prog w=.ok (.slice (some ⟨w.heap.size,0,none⟩) 1 1) (w.alloc (.cells cs.toArray t)):=by
 obtain⟨z,f,p⟩:=h.inf;obtain⟨i,j,k,m,q⟩:=zG4 f;have d:(zeroValue t).run prog w=.ok z w:=by simp[zeroValue,typeInfo,j,k]
 obtain⟨o,g,_⟩:=h.le
 have e:Instr.fill (λi=>some (i*n,n)) ((Array.range n).map (z.cells[·%z.cells.size]!)) [(0,Value.agg cs.toArray)]=some cs.toArray:=by
  have b:((Array.range n).map (z.cells[·%z.cells.size]!)).size=n:=by simp
  generalize(Array.range n).map (z.cells[·%z.cells.size]!)=Z at b;simp only[Instr.fill,Value.cells,List.size_toArray,l,zHm,zFr,b,ne_eq,not_true_eq_false,decide_false,zLb,Nat.lt_irrefl,gt_iff_lt];simp only[zHy,zKk];refine zGv some ?_;have:=Kr cs 0 Z.toList (by simp;omega);simp only[Array.toArray_toList,zGb,List.nil_append,zFr]at this
  apply Array.ext'
  rw[<-Array.foldl_toList,Array.toList_zipIdx,this,zFq (by simp;omega),zHb]
 simp[Instr.buildSlice,run_underlying h.und,aY h.toZL,d,e];rw[zF2 (by omega),zF2 (by omega)];rfl
section
variable {w:World} {ops:Array Oper} {rest:List Oper} {op:Oper} {a:Act} {Q:Exit->Act->World->Prop} {ts t n by':Nat}
theorem aj (h : L6 ts t n by') (e : op.guard = none) (x : Operand) (d : op.op = Op.load t x) {g o : Nat} (f : a.eval x = .pointer (some ⟨g, o, none⟩)) (b : List Value) (l : b.length = n) (i : ∀ (j : Nat) (u : Value), b[j]? = some u → w.cell? ⟨g, o + j, none⟩ = some u)
  (k:wpList prog ops Q rest (a.put op.dst (.agg b.toArray)) w):wpList prog ops Q (op::rest) a w:=by
 refine zH8 e λK' c=>?_
 unfold Oper.wp;simp[execOp,d,f,dW h.agg (aY h.toZL) b l i,Result.andThen];exact c _ _ k
theorem Kt {α : Type} {P : (Nat → Prop) → α → List Value → World → Prop} [CK n P] {S : Nat → Prop} {K : Act → World → Prop} (h : L6 ts t n by') (s x : Operand) (o : op.op = .call { callee := .builtin .append, args := #[s, x], argTypes := #[ts, ts] }) {base : Nat} {xs : List α} {v : Value} (E : a.eval s = v) (I : Bd S base t n P xs v w)
  {g c:Nat} (W:a.eval x=.slice (some ⟨g,0,none⟩) 1 c) (cs:List Value) (F:Bk w g t cs.toArray) (e:α) (r:P (λq=>S q/\some q≠v.ownBlock) e cs w) (Z:xs.length<=1000000000000) (hb:base<=w.heap.size)
  (Y:∀j c' w',Bd S base t n P (xs++[e]) (.slice j (xs.length+1) c') w'->Fr base w w'->w.grownBy w' v.ownBlock->K (a.put op.dst (.slice j (xs.length+1) c')) w'):op.wp prog a w K Q:=by
 obtain⟨z,H,U⟩:=h.inf;obtain⟨i,R,G,J,X⟩:=zG4 H;obtain⟨d,O,A⟩:=h.le;obtain⟨ps,L,D,N⟩:=I;have C:=CK.len r;refine iH s x ts o base t i z n by' h.und R G J X U d v _ _ E D (g+1) (some ⟨g,0,none⟩) 1 c cs W (Rd.bk F (by omega)) (by omega) (zGu.1 (CK.one r)) (by unfold maxLen;omega) (zFi (zJ5 (by omega:_<=1000000000001) A) (by decide)) hb ?_
 intro j c' w' M k u
 have f:dB (λq=>S q/\some q≠v.ownBlock) (λq=>S q/\some q≠(Value.slice j (xs.length+1) c').ownBlock) w w':=λb hb l=>⟨⟨hb.1,by
  rcases u with e|e
  ·rw[e];exact hb.2
  rw[e];intro m;injection m with m;omega⟩,by have:=k.size;omega,k.block b l hb.2⟩
 refine Y j c' w' ⟨ps++[(e,cs)],by simp[L],by rw[zGz];simpa using M,λp d=>?_⟩ (λB a0 m l y=>eU y D m k l) k;rcases zFy.1 d with d|d
 ·exact CK.keep f (N p d)
 simp only[zF6,zGi,zHt]at d;subst d;exact CK.keep f r
theorem PO {α : Type} {P : (Nat → Prop) → α → List Value → World → Prop} [CK n P] {S S2 : Nat → Prop} {K : Act → World → Prop} (h : ZL ts t n by') (s x : Operand) (C : op.op = .call { callee := .builtin .append, args := #[s, x], argTypes := #[ts, ts] }) {base : Nat} {xs j : List α} {v u : Value} (J : a.eval s = v) (O : Bd S base t n P xs v w)
  (hx:a.eval x=u) (hY:SlR P S2 j u w) (M:∀b,S2 b->b<w.heap.size->S b/\some b≠v.ownBlock) (hl:xs.length+j.length<=1000000000000) (hb:base<=w.heap.size)
  (hK:∀r c' w',Bd S base t n P (xs++j) (.slice r (xs.length+j.length) c') w'->Fr base w w'->w.grownBy w' v.ownBlock->K (a.put op.dst (.slice r (xs.length+j.length) c')) w'):op.wp prog a w K Q:=by
 obtain⟨z,N,h2⟩:=h.inf;obtain⟨i,Z,L,R,h4⟩:=zG4 N;obtain⟨d,Y,F⟩:=h.le;obtain⟨ps,W,G,X⟩:=O;obtain⟨A,c,rfl,E,H,U,k⟩:=hY;have m:(E.flatMap Prod.snd).length=j.length*n:=by rw[jl Prod.snd E λp d=>CK.len (k p d),<-H,zF5]
 refine iH s x ts C base t i z n by' h.und Z L R h4 h2 d v _ _ J G w.heap.size A j.length c _ hx U m ?_ (by unfold maxLen;omega) (zFi (zJ5 hl F) (by decide)) hb ?_
 ·intro u e;obtain⟨p,d,e⟩:=zGn.1 e;exact zGu.1 (CK.one (k p d)) u e
 intro r c' w' y f D
 have o:∀{e:Nat->Prop},(∀b,e b->b<w.heap.size->S b/\some b≠v.ownBlock)->dB e (λq=>S q/\some q≠(Value.slice r (xs.length+j.length) c').ownBlock) w w':=λl b hb g=>⟨⟨(l b hb g).1,by
  rcases D with e|e
  ·rw[e];exact(l b hb g).2
  rw[e];intro I;injection I with I;omega⟩,by have:=f.size;omega,f.block b g (l b hb g).2⟩
 refine hK r c' w' ⟨ps++E,by rw[zGr,W,H],by rw[zGz,zFu];exact y,λp d=>?_⟩ (λB I l g e=>eU e G l f g) f;rcases zFy.1 d with d|d
 ·exact CK.keep (o λb hb _=>hb) (X p d)
 exact CK.keep (o M) (k p d)
theorem oO {α : Type} {P : (Nat → Prop) → α → List Value → World → Prop} [CK n P] {S S2 : Nat → Prop} (h : ZL ts t n by') (l : op.guard = none) (s x : Operand) (f : op.op = .call { callee := .builtin .append, args := #[s, x], argTypes := #[ts, ts] }) {base : Nat} {xs c : List α} {v u : Value} (g : a.eval s = v) (k : Bd S base t n P xs v w)
  (q:a.eval x=u) (m:SlR P S2 c u w) (i:∀b,S2 b->b<w.heap.size->S b/\some b≠v.ownBlock) (y:xs.length+c.length<=1000000000000) (hb:base<=w.heap.size)
  (r:∀d c' w',Bd S base t n P (xs++c) (.slice d (xs.length+c.length) c') w'->Fr base w w'->w.grownBy w' v.ownBlock->wpList prog ops Q rest (a.put op.dst (.slice d (xs.length+c.length) c')) w'):wpList prog ops Q (op::rest) a w:=zH8 l λ_ e=>PO h s x f g k q m i y hb λd c' w' j p o=>e _ _ (r d c' w' j p o)
theorem qY {α : Type} {P : (Nat → Prop) → α → List Value → World → Prop} [CK n P] {S : Nat → Prop} (h : L6 ts t n by') (p : op.guard = none) (s x : Operand) (i : op.op = .call { callee := .builtin .append, args := #[s, x], argTypes := #[ts, ts] }) {base k : Nat} {l : List α} {v : Value} (j : a.eval s = v) (o : Bd S base t n P (l.take k) v w)
  {g c:Nat} (z:a.eval x=.slice (some ⟨g,0,none⟩) 1 c) (cs:List Value) (r:Bk w g t cs.toArray) (m:k<l.length) (B:P (λq=>S q/\some q≠v.ownBlock) l[k] cs w) (C:l.length<=1000000000000) (hb:base<=w.heap.size)
  (A:∀b c' w',Bd S base t n P (l.take (k+1)) (.slice b (k+1) c') w'->Fr base w w'->w.grownBy w' v.ownBlock->wpList prog ops Q rest (a.put op.dst (.slice b (k+1) c')) w'):wpList prog ops Q (op::rest) a w:=by
 have d:(l.take k).length=k:=by rw[zG9];omega
 refine zH8 p λ_ f=>Kt h s x i j o z cs r l[k] B (by omega) hb λb c' w' e y u=>?_
 rw[d]at e⊢;rw[show l.take k++[l[k]]=l.take (k+1) by simp]at e;exact f _ _ (A b c' w' e y u)
end
def Nd (d:Nat) (S:Nat->Prop) (ts:List T) (v:Value) (w:World):Prop:=∃(A:Option Addr) (c:Nat) (ns:List ah),v=.slice A ns.length c/\Q3 w S A (ns.flatMap ah.cells)/\(∀y∈ns,okS S d y w)/\ns.map (eP d)=ts/\ns.length<=1048576
def Rt (n:Nat) (V:Value->World->Prop) (w:World) (e:Ending) (w':World):Prop:=∃A c,e=.returned (.slice A n c)/\V (.slice A n c) w'/\Below w w w'
theorem Nd.keep {d:Nat} {S S':Nat->Prop} {ts:List T} {v:Value} {w w':World} (h:Nd d S ts v w) (a:dB S S' w w'):Nd d S' ts v w':=by
 obtain⟨A,c,ns,e,f,g,i⟩:=h;exact⟨A,c,ns,e,f.keep a,λy b=>(g y b).keep a,i⟩
theorem Nd.one {d:Nat} {S:Nat->Prop} {ts:List T} {v:Value} {w:World} (h:Nd d S ts v w):v.oneCell'=true:=by
 obtain⟨A,c,ns,rfl,_⟩:=h;rfl
theorem Nd.form {d:Nat} {S:Nat->Prop} {ts:List T} {v:Value} {w:World} (h:Nd d S ts v w):∃A c,v=.slice A ts.length c:=by
 obtain⟨A,c,ns,rfl,_,_,rfl,_⟩:=h;exact⟨A,c,by rw[zF5]⟩
theorem Sl.form {α:Type} {P:(Nat->Prop)->α->List Value->World->Prop} {S:Nat->Prop} {xs:List α} {v:Value} {w:World} (h:Sl P S xs v w):∃A c,v=.slice A xs.length c:=by
 obtain⟨A,c,rfl,_⟩:=h;exact⟨A,c,rfl⟩
class Old (V:Value->World->Prop):Prop where
 old:∀{v:Value} {w w':World},Below w w w'->V v w->V v w'
instance (d:Nat) (S:Nat->Prop) (ts:List T):Old (Nd d S ts) where
 old:=λhb h=>h.keep (.old hb)
instance {α:Type} {n:Nat} (P:(Nat->Prop)->α->List Value->World->Prop) [CK n P] (S:Nat->Prop) (xs:List α):Old (Sl P S xs) where
 old:=λhb h=>h.keep (.old hb)
instance {α:Type} (S:Nat->Prop) (base t n:Nat) (P:(Nat->Prop)->α->List Value->World->Prop) [CK n P] (xs:List α):Old (Bd S base t n P xs) where
 old:=λhb h=>h.old hb
def xg (n:Nat) (V:Value->World->Prop) (f:Option Addr->Nat->Value) (v:Value) (w:World):Prop:=∃A c,v=f A c/\V (.slice A n c) w
def ExB (t n:Nat) (V:Value->World->Prop) (f:Option Addr->Nat->Array Value) (v:Value) (w:World):Prop:=∃g A c,v=.slice (some ⟨g,0,none⟩) 1 1/\Bk w g t (f A c)/\V (.slice A n c) w
instance (n:Nat) (V:Value->World->Prop) [Old V] (f:Option Addr->Nat->Value):Old (xg n V f) where
 old:=λhb ⟨A,c,h1,h2⟩=>⟨A,c,h1,Old.old hb h2⟩
instance (t n:Nat) (V:Value->World->Prop) [Old V] (f:Option Addr->Nat->Array Value):Old (ExB t n V f) where
 old:=λhb ⟨g,A,c,h1,h2,h3⟩=>⟨g,A,c,h1,h2.old hb,Old.old hb h3⟩
abbrev sS (V:Value->World->Prop) [Old V]:Spec:=.st V λ_ _ _ hb h=>Old.old hb h
theorem pI {w : World} {op : Oper} {a : Act} {K : Act → World → Prop} {Q : Exit → Act → World → Prop} {ts t n by' : Nat} (h : L6 ts t n by') (x : Operand) (b : op.op = .buildSlice ts 1 #[(0, x)]) (cs : List Value) (c : a.eval x = .agg cs.toArray) (e : cs.length = n)
  (d:K (a.put op.dst (.slice (some ⟨w.heap.size,0,none⟩) 1 1)) (w.alloc (.cells cs.toArray t))):op.wp prog a w K Q:=by
 unfold Oper.wp execOp;simp only[b,zHp,zGq,zHc,c,zH5,YD h cs e,Result.andThen_ok,Sem.run_pure];exact d
theorem dC {w : World} {ops : Array Oper} {rest : List Oper} {op : Oper} {a : Act} {Q : Exit → Act → World → Prop} {ts t n by' : Nat} (h : L6 ts t n by') (d : op.guard = none) (x : Operand) (c : op.op = .buildSlice ts 1 #[(0, x)]) (cs : List Value) (e : a.eval x = .agg cs.toArray) (g : cs.length = n)
  (f:wpList prog ops Q rest (a.put op.dst (.slice (some ⟨w.heap.size,0,none⟩) 1 1)) (w.alloc (.cells cs.toArray t))):wpList prog ops Q (op::rest) a w:=zH8 d λ_ b=>pI h x c cs e g (b _ _ f)
def gK (S:Nat->Prop) (k:Int) (cs:List Value) (w:World):Prop:=cs=[.int .i64 k]
instance:CK 1 gK where
 pos:=by decide
 keep:=λ_ h=>h
 len:=λh=>by rw[h];rfl
 one:=λh=>by rw[h];rfl
theorem PQ:ZL 26 3 1 8:=⟨underlying26,⟨.int .i64 0,by kernel_rfl,rfl⟩,by decide⟩
theorem Sl.ri {S:Nat->Prop} {xs:List Int} {v:Value} {w:World} (h:Sl gK S xs v w):SlR gK (λ_=>False) xs v w:=by
 obtain⟨A,c,a,_,ps,d,b,e⟩:=h;exact⟨A,c,a,ps,d,b.rd,e⟩
theorem xZ {w:World} {op:Oper} {a:Act} {K:Act->World->Prop} {Q:Exit->Act->World->Prop} {S:Nat->Prop} {xs:List Int} {v:Value} (x:Operand) (e:op.op=.call {callee:=.builtin .append,args:=#[.const (.slice none 0 0),x],argTypes:=#[26,26]}) (f:a.eval x=v) (h:Sl gK S xs v w)
  (i:∀A c w',Bd (λq=>w.heap.size<=q) w.heap.size 3 1 gK xs (.slice A xs.length c) w'->Below w w w'->K (a.put op.dst (.slice A xs.length c)) w'):op.wp prog a w K Q:=by
 have j:xs.length<=1000000000000:=by
  obtain⟨_,_,_,d,_⟩:=h;exact d
 refine PO (S:=λq=>w.heap.size<=q) (base:=w.heap.size) PQ _ x e rfl (Bd.nil zL) f h.ri (λb h=>h.elim) (by simpa using j) zL λA c w' d g k=>?_
 simp only[zF4,zFr,List.nil_append]at d⊢;exact i A c w' d (g _ _ zL zL zR)
theorem Bd.NU {base B:Nat} {xs:List Int} {v:Value} {w:World} {S S':Nat->Prop} (h:Bd S B 3 1 gK xs v w) (a:base<=B):Bd S' base 3 1 gK xs v w:=by
 obtain⟨ps,b,d,c⟩:=h;exact⟨ps,b,bV d a,c⟩
theorem dB.fE {S:Nat->Prop} {w w':World} {g t:Nat} {cs:Array Value} (p:qC w g t cs w') (c:∀b,S b->b≠g):dB S S w w':=λb hb a=>⟨hb,by rw[p.size];exact a,p.other b (c b hb)⟩
theorem Sl.le {α:Type} {P:(Nat->Prop)->α->List Value->World->Prop} {S:Nat->Prop} {xs:List α} {v:Value} {w:World} (h:Sl P S xs v w):xs.length<=1000000000000:=by
 obtain⟨A,c,_,a,_⟩:=h;exact a
theorem Dx (d:Nat) (ih:∀F,F+1=d->∀(l:List ah) (A:Option Addr) (c:Nat) (w:World),(∀x∈l,yT F x w w.heap.size)->Rd w w.heap.size A (l.flatMap ah.cells)->l.length<=1048576->Calls prog 24 #[.slice A l.length c] w (wI F l w))
  (l:List ah) (A:Option Addr) (c:Nat) (w:World) (M:∀x∈l,yT d x w w.heap.size) (hr:Rd w w.heap.size A (l.flatMap ah.cells)) (hl:l.length<=1048576):Calls prog 24 #[.slice A l.length c] w (wI d l w):=by
 obtain⟨iN,hN,a3,a4,ZC⟩:=zG4 JD;have HA:=zH M;have xJ:=zH hr;have HI:=zH ih;clear M hr ih
 go_enter func24,ntmps24
 go_wp2_with fail
 go_loopw [3, 8] (λe i wr => ∃ (k : Nat) (L : Option Addr) (K : Nat) (v : List ah), k ≤ l.length ∧ i = .int .i64 k ∧ e = .slice L k K ∧ Below w w wr ∧ v.length = k ∧ Hid (∀ (i : Nat) (x y : ah), l[i]? = some x → v[i]? = some y → Nu d x y) ∧
   wr.ownsRow w.heap.size 122 7 e k (v.flatMap ah.cells)/\Hid (∀y∈v,okS (λb=>w.heap.size<=b/\some b≠e.ownBlock) d y wr)) (λ_ i _=>l.length-(intOf i).toNat)
 case atStart=>exact⟨0,none,0,[],zFj _,rfl,rfl,zGp _ _,rfl,zH (by intro i x y _ h;simp at h),zGs _ _ _ _,zH (by simp)⟩
 case round=>
  obtain⟨k,L,K,v,hk,rfl,rfl,r,a2,UN,j,UO⟩:=hrel
  by_cases R:k<l.length
  ·as_aux_lemma=>
   obtain⟨b,o,rfl,hb,e⟩:=(xJ.below r).elem (f:=ah.cells) (n:=7) ah.len (by omega) R;have J:=HA.out l[k] (by simp);have p:l[k]? =some l[k]:=zAg R;generalize l[k]=x at *;obtain⟨op,kind,O,c2,g,vk,vb,pos,a⟩:=x;have I:wr.cell? ⟨b,o+k*7,none⟩=some (.int .i64 op):=e 0 _ rfl;have P:wr.cell? ⟨b,o+k*7+1,none⟩=some (.int .i64 kind):=e 1 _ rfl;have C:wr.cell? ⟨b,o+k*7+2,none⟩=some (.slice O g.length c2):=e 2 _ rfl;have H:wr.cell? ⟨b,o+k*7+3,none⟩=some (.int .i64 vk):=e 3 _ rfl;have D:wr.cell? ⟨b,o+k*7+4,none⟩=some (.int .u64 vb):=e 4 _ rfl;have t:wr.cell? ⟨b,o+k*7+5,none⟩=some (.int .i64 pos):=e 5 _ rfl;have Q:wr.cell? ⟨b,o+k*7+6,none⟩=some (.int .i64 a):=e 6 _ rfl;clear e
   obtain⟨F,rfl⟩:∃F,d=F+1:=by
    cases d with
    |zero=>exact J.elim
    |succ F=>exact⟨F,rfl⟩
   have JE:Below w w (wr.alloc (.cells #[op,kind,.slice O g.length c2,vk,.int .u64 vb,pos,a] 122)):=r.alloc r.size _;have e:=yT.old J JE;have m:=HI.out F rfl g O c2 (wr.alloc (.cells #[op,kind,.slice O g.length c2,vk,.int .u64 vb,pos,a] 122)) e.2.2.2 e.1 e.2.1;have a1:=J.2.2.1;have a6:=J.2.1;have S:=zH m;have UE:=zH p;have hz:=r.size;clear m J e p HI;go_wp2_with fail
   refine S.mono ?_;rintro e B ⟨s,c3,N,rfl,Z,JF,z,vY,E⟩;have W:(wr.alloc (.cells #[op,kind,.slice O g.length c2,vk,.int .u64 vb,pos,a] 122)).heap.size=wr.heap.size+1:=by simp
   rw[W]at z vY E;have U:Bk B wr.heap.size 122 #[op,kind,.slice O g.length c2,vk,.int .u64 vb,pos,a]:=(Bk.new wr 122 #[op,kind,.slice O g.length c2,vk,.int .u64 vb,pos,a]).below E (by omega);have JG:=j.alloc (.cells #[op,kind,.slice O g.length c2,vk,.int .u64 vb,pos,a] 122);have G:B.ownsRow w.heap.size 122 7 (.slice L k K) k (v.flatMap ah.cells):=own_below JG E (λq hq=>by have:=(j.lt q hq).2;omega);have JH:Below w w B:=JE.trans (E.mono (by omega));have a7:=U.lt;clear S I P C H D t Q;obtain⟨x0,x1,x2,x3,x4,x5,x6⟩:=zc7 U;have f2:=U.frozen 2;have ky:Bk (B.setCell ⟨wr.heap.size,2,none⟩ (.slice s g.length c3)) wr.heap.size 122 #[op,kind,.slice s g.length c3,vk,.int .u64 vb,pos,a]:=U.put 2 _;obtain⟨y0,y1,y2,y3,y4,y5,y6⟩:=zc7 ky;simp at x0 x1 x2 x3 x4 x5 x6 y0 y1 y2 y3 y4 y5 y6;have a0:some wr.heap.size≠(Value.slice L k K).ownBlock:=λe=>by have:=(j.lt _ e.symm).2;omega
   have t:(B.setCell ⟨wr.heap.size,2,none⟩ (.slice s g.length c3)).ownsRow w.heap.size 122 7 (.slice L k K) k (v.flatMap ah.cells):=zGw G (λe=>a0 e.symm) _;have rW:Below w w (B.setCell ⟨wr.heap.size,2,none⟩ (.slice s g.length c3)):=JH.setCell hz _
   go_wp2_with (first
    |(refine tJ (by rfl) (.tmp 17) (by rfl) (by rfl) ?_)
    |(at_builtin;refine aU rfl _ _ 59 rfl w.heap.size 122 iN _ 7 72 underlying59 hN a3 a4 ZC rfl (by decide) (.slice L k K) k _ rfl (t.alloc _) ((B.setCell ⟨wr.heap.size,2,none⟩ (.slice s g.length c3)).heap.size+1) (some ⟨(B.setCell ⟨wr.heap.size,2,none⟩ (.slice s g.length c3)).heap.size,0,none⟩) 1 1 (ah.mk op kind s c3 N vk vb pos a).cells rfl ?c1 rfl ?c2 ?c3 ?c4 ?c5 ?_))
   case c1=>
    show Rd _ _ _ [Value.int .i64 op,.int .i64 kind,.slice s N.length c3,.int .i64 vk,.int .u64 vb,.int .i64 pos,.int .i64 a]
    rw[Z];exact Rd.lit rfl _ _
   case c2=>intro u hu;simp[ah.cells]at hu;rcases hu with rfl|rfl|rfl|rfl|rfl|rfl|rfl<;>rfl
   case c3=>unfold maxLen;omega
   case c4=>omega
   case c5=>simp;omega
   intro Q X P iQ hg CU;have a5:((B.setCell ⟨wr.heap.size,2,none⟩ (.slice s g.length c3)).alloc (.cells #[op,kind,.slice s g.length c3,vk,.int .u64 vb,pos,a] 122)).heap.size=B.heap.size+1:=by simp
   have m:∀b:Nat,b<B.heap.size->b≠wr.heap.size->some b≠(Value.slice L k K).ownBlock->b<P.heap.size/\P.heap[b]? =B.heap[b]? :=by
    intro b D H p;refine⟨by have:=hg.size;omega,?_⟩;rw[hg.block b (by omega) p,zJ6 _ _ b (by simpa using D),zGt B _ _ b H]
   have C:∀b:Nat,b<B.heap.size->some b≠(Value.slice L k K).ownBlock->some b≠(Value.slice Q (k+1) X).ownBlock:=by
    intro b D H;rcases CU with h|h
    ·rw[h];exact H
    rw[h];intro p;injection p with p;omega
   have I:∀b:Nat,wr.heap.size+1<=b->some b≠(Value.slice L k K).ownBlock:=λb D e=>by have:=(j.lt _ e.symm).2;omega
   have UQ:okS (λb=>w.heap.size<=b/\some b≠(Value.slice Q (k+1) X).ownBlock) (F+1) (.mk op kind s c3 N vk vb pos a) P:=by
    refine⟨(gX z).keep λb D H=>?_,by omega,a1,λy p=>okS.keep (λb D H=>?_) (vY y p)⟩
    ·obtain⟨Y,S⟩:=m b H (by omega) (I b D);exact⟨⟨by omega,C b H (I b D)⟩,Y,S⟩
    obtain⟨Y,S⟩:=m b H (by omega) (I b D.1);exact⟨⟨by omega,C b H (I b D.1)⟩,Y,S⟩
   have JI:∀y∈v++[ah.mk op kind s c3 N vk vb pos a],okS (λb=>w.heap.size<=b/\some b≠(Value.slice Q (k+1) X).ownBlock) (F+1) y P:=by
    intro y p;rcases zFy.1 p with p|p
    ·refine okS.keep (λb D H=>?_) (UO.out y p);obtain⟨Y,S⟩:=m b (by omega) (by omega) D.2;exact⟨⟨D.1,C b (by omega) D.2⟩,Y,by rw[S,E.block b (by omega),zJ6 _ _ b H]⟩
    simp only[zF6,zGi,zHt]at p;subst p;exact UQ
   have Y:∀(i:Nat) (x y:ah),l[i]? =some x->(v++[ah.mk op kind s c3 N vk vb pos a])[i]? =some y->Nu (F+1) x y:=by
    intro i x y J p
    by_cases hi:i<v.length
    ·rw[zGh hi]at p;exact UN.out i x y J p
    rw[zGd (by omega)]at p
    by_cases S:i-v.length=0
    ·rw[S]at p;have H:i=k:=by omega
     rw[H,UE.out]at J;injection J with J
     simp only[zGe,zJ0]at p;subst J;subst p;exact⟨rfl,rfl,rfl,rfl,rfl,rfl,Z.symm,JF⟩
    rw[zG7 (by simp;omega)]at p;cases p
   have UR:Below w w P:=eU (rW.alloc (by simp;omega) _) (t.alloc _) zL hg (by simp;omega)
   have p:P.ownsRow w.heap.size 122 7 (.slice Q (k+1) X) (k+1) ((v++[ah.mk op kind s c3 N vk vb pos a]).flatMap ah.cells):=by
    rw[zGz]
    simpa using iQ
   have H:=zH Y;have S:=zH JI;have iG:(v++[ah.mk op kind s c3 N vk vb pos a]).length=k+1:=by simp;omega
   clear Y JI UQ I C m CU hg iQ t G JG j vY JF z x0 x1 x2 x3 x4 x5 x6 y0 y1 y2 y3 y4 y5 y6 f2 U ky rW JH E W a5;generalize(v++[ah.mk op kind s c3 N vk vb pos a])=m at *;go_wp2
   go_roundw
   case rel=>exact⟨k+1,Q,X,m,by omega,by go_num,rfl,UR,iG,H,p,S⟩
   case measure=>simp[intOf];omega
  as_aux_lemma=>
  obtain rfl:k=l.length:=by omega
  go_wp2_with fail
  go_ret
  exact⟨L,K,v,rfl,a2,UN.out,j,UO.out,r⟩
theorem FV:∀(d:Nat) (l:List ah) (A:Option Addr) (c:Nat) (w:World),(∀x∈l,yT d x w w.heap.size)->Rd w w.heap.size A (l.flatMap ah.cells)->l.length<=1048576->Calls prog 24 #[.slice A l.length c] w (wI d l w)
 |0=>Dx 0 (λa h=>by omega)
 |d+1=>Dx (d+1) (λa h=>by
  obtain rfl:a=d:=by omega
  exact FV a)
def zn (d:Nat) (S:Nat->Prop) (b:qh) (cs:List Value) (w:World):Prop:=∃v,cs=[.int .i64 b.type,v]/\Nd d S b.gs v w
def Oa (d:Nat) (S:Nat->Prop) (e:VG) (cs:List Value) (w:World):Prop:=∃v u,cs=[.int .i64 e.branch,v,u]/\Nd d S e.cs v w/\Sl (zn d) S e.bars u w
def Z5 (d:Nat) (S:Nat->Prop) (s:fQ) (cs:List Value) (w:World):Prop:=∃v4 v5 v6 v7,cs=[.int .i64 s.parent,.int .i64 s.type,.bool s.many,.int .i64 s.window,v4,v5,v6,v7]/\Sl (zn d) S s.bars v4 w/\Nd d S s.lv v5 w/\Nd d S s.gs v6 w/\Sl (Oa d) S s.ends v7 w
def KI (d:Nat) (S:Nat->Prop) (p:dU) (cs:List Value) (w:World):Prop:=∃v u,cs=[.int .i64 p.form,.int .i64 p.type,v,u]/\Nd d S p.gs v w/\Nd d S p.cs u w
def xh (d:Nat) (S:Nat->Prop) (b:dL) (cs:List Value) (w:World):Prop:=∃v,cs=[.int .i64 b.id,.int .i64 b.window,v]/\Sl (KI d) S b.ps v w
instance (d:Nat):CK 2 (zn d) where
 pos:=by decide
 keep:=λhk ⟨v,h1,h2⟩=>⟨v,h1,h2.keep hk⟩
 len:=λ⟨v,h1,h2⟩=>by rw[h1];rfl
 one:=λ⟨v,h1,h2⟩=>by subst h1;simp only[List.all_cons,List.all_nil,h2.one];rfl
instance (d:Nat):CK 3 (Oa d) where
 pos:=by decide
 keep:=λhk ⟨v,u,h1,h2,h3⟩=>⟨v,u,h1,h2.keep hk,h3.keep hk⟩
 len:=λ⟨v,u,h1,_⟩=>by rw[h1];rfl
 one:=λ⟨v,u,h1,h2,h3⟩=>by subst h1;simp only[List.all_cons,List.all_nil,h2.one,h3.one];rfl
instance (d:Nat):CK 8 (Z5 d) where
 pos:=by decide
 keep:=λhk ⟨v4,v5,v6,v7,h1,h2,h3,h4,h5⟩=>⟨v4,v5,v6,v7,h1,h2.keep hk,h3.keep hk,h4.keep hk,h5.keep hk⟩
 len:=λ⟨v4,v5,v6,v7,h1,_⟩=>by rw[h1];rfl
 one:=λ⟨v4,v5,v6,v7,h1,h2,h3,h4,h5⟩=>by subst h1;simp only[List.all_cons,List.all_nil,h2.one,h3.one,h4.one,h5.one];rfl
instance (d:Nat):CK 4 (KI d) where
 pos:=by decide
 keep:=λhk ⟨v,u,h1,h2,h3⟩=>⟨v,u,h1,h2.keep hk,h3.keep hk⟩
 len:=λ⟨v,u,h1,_⟩=>by rw[h1];rfl
 one:=λ⟨v,u,h1,h2,h3⟩=>by subst h1;simp only[List.all_cons,List.all_nil,h2.one,h3.one];rfl
instance (d:Nat):CK 3 (xh d) where
 pos:=by decide
 keep:=λhk ⟨v,h1,h2⟩=>⟨v,h1,h2.keep hk⟩
 len:=λ⟨v,h1,h2⟩=>by rw[h1];rfl
 one:=λ⟨v,h1,h2⟩=>by subst h1;simp only[List.all_cons,List.all_nil,h2.one];rfl
theorem FW:L6 58 72 2 32:=⟨⟨underlying58,⟨.agg #[(),""],by kernel_rfl,rfl⟩,by decide⟩,λw=>by simp[isAgg,go_sem]⟩
theorem Dy:L6 60 64 3 56:=⟨⟨underlying60,⟨.agg #[(),"",""],by kernel_rfl,rfl⟩,by decide⟩,λw=>by simp[isAgg,go_sem]⟩
theorem yu:L6 36 62 8 128:=⟨⟨underlying36,⟨.agg #[(),(),.bool false,(),"","","",""],by kernel_rfl,rfl⟩,by decide⟩,λw=>by simp[isAgg,go_sem]⟩
theorem jU:L6 65 69 4 64:=⟨⟨underlying65,⟨.agg #[(),(),"",""],by kernel_rfl,rfl⟩,by decide⟩,λw=>by simp[isAgg,go_sem]⟩
theorem gW:L6 27 67 3 40:=⟨⟨underlying27,⟨.agg #[(),(),""],by kernel_rfl,rfl⟩,by decide⟩,λw=>by simp[isAgg,go_sem]⟩
theorem P7 {d:Nat} {S:Nat->Prop} {ns:List ah} {g:List T} {w w':World} {e:Ending} (v:ns.length<=1048576) (p:∀y∈ns,okS S d y w) (o:ns.map (eP d)=g) (h:wI d ns w e w'):Rt g.length (Nd d (λq=>w.heap.size<=q) g) w e w':=by
 obtain⟨u,c',m,rfl,j,t,r,k,s⟩:=h;subst o;rw[zF5];refine⟨_,_,rfl,⟨u,c',m,by rw[j],gX r,λy l=>(k y l).keep λb hb f=>⟨hb.1,f,rfl⟩,?_,by omega⟩,s⟩
 apply zLg (by simpa using j)
 intro i a c;simp only[zF5]at a c;rw[zH4,zH4];exact(Hq (p _ (zFe c)).n (k _ (zFe a)).n (t i _ _ (zAg c) (zAg a))).symm
theorem zo {d:Nat} {S:Nat->Prop} {a:List T} {v:Value} {w:World} (h:Nd d S a v w):Calls prog 23 #[v] w (Rt a.length (Nd d (λq=>w.heap.size<=q) a) w):=by
 obtain⟨A,c,ns,rfl,i,b,j,f⟩:=h;refine(twin_any d ns A c w (λx k=>(b x k).n) i.rd f).mono ?_;exact λe w' g=>P7 f b j g
def Ro {α:Type} (S:Nat->Prop) (t n:Nat) (P:(Nat->Prop)->α->List Value->World->Prop) (xs:List α) (w:World) (e:Ending) (w':World):Prop:=∃A c,e=.returned (.slice A xs.length c)/\Bd S w.heap.size t n P xs (.slice A xs.length c) w'/\Below w w w'
def gQ (l:List qh):List dU:=l.map λb=>⟨3,b.type,b.gs,[]⟩
theorem Nd.nil (d:Nat) (S:Nat->Prop) (w:World):Nd d S [] (.slice none 0 0) w:=⟨none,0,[],rfl,.inl rfl,λy a=>absurd a (by simp),rfl,by decide⟩
theorem rC {d:Nat} {S:Nat->Prop} {a:List T} {v:Value} {w:World} (h:Nd d S a v w):Calls prog 24 #[v] w (Rt a.length (Nd d (λq=>w.heap.size<=q) a) w):=by
 obtain⟨A,c,ns,rfl,i,b,j,f⟩:=h;refine(FV d ns A c w (λx k=>(b x k).n) i.rd f).mono ?_;exact λe w' g=>P7 f b j g
theorem Z7 {d:Nat} {S:Nat->Prop} {bs:List qh} {v:Value} {w:World} (h:Sl (zn d) S bs v w):Calls prog 31 #[v] w (Ro (λq=>w.heap.size<=q) 69 4 (KI d) (gQ bs) w):=by
 obtain⟨A,c,rfl,hl,h⟩:=h;have R:=zH h;obtain⟨p,a⟩:=zN (gQ bs)
 have n:p.length=bs.length:=by rw[<-a];simp[gQ]
 have Q:=zH a;rw[a];clear h a
 go_enter func31,ntmps31
 go_wp2_with fail
 go_loopw[3,8] (λa i wr=>∃k:Nat,k<=bs.length/\i=.int .i64 k/\Hid (Below w w wr/\Bd (λq=>w.heap.size<=q) w.heap.size 69 4 (KI d) (p.take k) a wr)) (λ_ i _=>bs.length-(intOf i).toNat)
 case atStart=>exact⟨0,zFj _,rfl,zH ⟨zGp _ _,Bd.nil zL⟩⟩
 case round=>
  obtain⟨k,Y,rfl,f⟩:=hrel;obtain⟨B,x,rfl,_⟩:=f.2.form;rw[zG9,zJu (by omega)]at f⊢
  by_cases a:k<bs.length
  ·obtain⟨b,o,cs,rfl,_,hb,e,M⟩:=(R.old f.1).elem a;have l:=CK.len e;go_upto_region 5 with(first|(refine aj FW rfl _ rfl rfl cs l M ?_)|(refine ae (aY FW.1) rfl _ _ rfl rfl cs rfl (Bk.new _ _ _) l rfl (CK.one e) ?_;intro W D;go_frame))
   obtain⟨g,rfl,I⟩:=e;obtain⟨H,F,rfl⟩:=I.form;have J:=f.1.size;have m:Below wr.heap.size wr W:=D.below _ _ (ba _ _) zL;have z:=m.size;have K:W.cell? ⟨wr.heap.size,0,none⟩=some (.int .i64 bs[k].type):=D.bk.cell 0;have P:W.cell? ⟨wr.heap.size,1,none⟩=some (.slice H bs[k].gs.length F):=D.bk.cell 1;have O:=zH (I.keep (.old m))
   refine wx (λk=>false) [.is (.slice B k x),.is (.pointer (some ⟨wr.heap.size,0,none⟩)),.is (.int .i64 bs[k].type),.is (.pointer (some ⟨wr.heap.size,1,none⟩)),.is (.slice H bs[k].gs.length F),
    sS (xg bs[k].gs.length (Nd d (λq=>W.heap.size<=q) bs[k].gs) λA c=>.slice A bs[k].gs.length c),
    sS (xg bs[k].gs.length (Nd d (λq=>W.heap.size<=q) bs[k].gs) λA c=>.agg #[.int .i64 3,.int .i64 bs[k].type,.slice A bs[k].gs.length c,""]),
    sS (ExB 69 bs[k].gs.length (Nd d (λq=>W.heap.size<=q) bs[k].gs) λA c=>#[.int .i64 3,.int .i64 bs[k].type,.slice A bs[k].gs.length c,""])] [5,6,7] (by kernel_rfl) (by kernel_rfl) (by kernel_rfl)
    (λC=>.c (px C rfl (λ_ _=>rfl)) <| .c (px C rfl (λ_ _=>rfl)) <| .c (px C rfl (λ_ h=>bH (lD (bc h K)))) <| .c (px C rfl (λ_ _=>rfl)) <| .c (px C rfl (λ_ h=>bH (jD (bc h P)))) <|
     .c (pz [4] [] (by kernel_rfl) λe y wr r t j u=>?_) <| .c (pz [2,5] [] (by kernel_rfl) λe y wr r t j u=>?_) <| .c (pz [6] [] (by kernel_rfl) λe y wr r t j u=>?_) .nil) ?_
   ·have N:=aA j.1 rfl rfl;clear t j;go_simp
    go_at_call 24
    refine(rC (O.keep (.old r))).mono ?_;rintro e w2 ⟨A,c,rfl,L,X⟩;exact u _ _ X ⟨A,c,rfl,L.keep λq G a=>⟨zFi r.size G,a,rfl⟩⟩
   ·have U:=aA j.1 rfl rfl;obtain⟨u17,s,A,c,rfl,E⟩:=j.2.1;have s:y.tmps[17]? =some (.slice A bs[k].gs.length c):=s;clear t j;go_simp;exact u _ _ zR ⟨A,c,rfl,E⟩
   ·obtain⟨u18,y,A,c,rfl,E⟩:=j.1;clear t j;refine pI jU (.tmp 18) rfl _ (aB y) rfl ?_;exact u _ _ (ba _ _) ⟨_,A,c,rfl,Bk.new _ _ _,E.keep (.old (ba _ _))⟩
   intro U E r s u;obtain⟨g,A,c,j,y,t⟩:=s 7 rfl rfl;clear s u;simp only[bJ,List.length,List.take,List.drop,zFd]
   go_frame
   generalize U 7=z7 at j⊢;subst j;have u:p[k]=⟨3,bs[k].type,bs[k].gs,[]⟩:=by simp[<-Q.out,gQ]
   have j:=m.trans (r.mono z);have L:=j.size;have s:=t.keep (S':=λq=>w.heap.size<=q/\some q≠(Value.slice B k x).ownBlock) λq G a=>⟨⟨by omega,λe=>by have:=(f.2.lt e.symm).2;omega⟩,a,rfl⟩
   go_wp2_with (at_builtin;refine qY jU rfl _ _ rfl rfl (f.2.old j) rfl [.int .i64 (3:Nat),.int .i64 bs[k].type,.slice A bs[k].gs.length c,.slice none 0 0] y (by omega:k<p.length) (by rw[u];exact⟨_,_,rfl,s,Nd.nil _ _ _⟩) (by omega) (by omega) ?_;intro A9 Z w9 G N X)
   exact⟨⟨k+1,a,by go_num,zH ⟨N _ _ zL (by omega) (f.1.trans (j.mono J)),G⟩⟩,by simp[intOf];omega⟩
  obtain rfl:k=bs.length:=by omega
  rw[show p.take bs.length=p by rw[<-n,zH3]]at f;go_wp2_with fail
  go_ret
  exact⟨B,x,by rw[n];rfl,by rw[n];exact f.2,f.1⟩
end Go.Proofs.YtbjnhllkdilpfaaGreat
