/- Part 44 of the proof. No conditions. -/
import Derived.Test.YtbjnhllkdilpfaaGreatZf39
import Derived.Test.YtbjnhllkdilpfaaGreatZf32
import Derived.Test.YtbjnhllkdilpfaaGreatZf43
set_option linter.unusedVariables false
set_option linter.unusedSimpArgs false
set_option maxRecDepth 100000
set_option maxHeartbeats 16000000
namespace Go.Proofs.YtbjnhllkdilpfaaGreat
open Go.RowKit _root_.Go.Proofs.Tryz
def Ti (p:Nat×Int):dU:=⟨p.1,p.2,[],[]⟩
def jG (s:ai) (win:Nat):Nat->List (List bn)->List dL->MS->List dL×MS
 |_,[],bs,m=>(bs,m)
 |i,l::r,bs,m=>jG s win (i+1) r (bs++[⟨i,win,(wJ s i l 0 0 [] m).1.map Ti⟩]) (wJ s i l 0 0 [] m).2
def gu (s:ai):List az->List dL->MS->List dL×MS
 |[],bs,m=>(bs,m)
 |x::l,bs,m=>gu s l (je s x bs m).1 (je s x bs m).2
structure qg where
 aS:Nat
 keys:List Int
 branches:List dL
def yt:qg:=⟨0,[],[]⟩
def Ho (s:ai):Int:=xO (s.types.map sig) s.syms
def ms0:MS:=⟨[],0,0⟩
def kZ (s:ai) (q:di):qg×Nat×Int:=
 if Ho s≠0 then(yt,0,Ho s)
 else if pG q≠0 then(yt,0,pG q)
 else if(gu s q.cond (jG s q.window 0 q.branches [] ms0).1 (keysT s q.key q.keyAt (jG s q.window 0 q.branches [] ms0).2).2).2.err≠0 then
  (yt,(gu s q.cond (jG s q.window 0 q.branches [] ms0).1 (keysT s q.key q.keyAt (jG s q.window 0 q.branches [] ms0).2).2).2.pos,(gu s q.cond (jG s q.window 0 q.branches [] ms0).1 (keysT s q.key q.keyAt (jG s q.window 0 q.branches [] ms0).2).2).2.err)
 else(⟨q.aS,(keysT s q.key q.keyAt (jG s q.window 0 q.branches [] ms0).2).1,(gu s q.cond (jG s q.window 0 q.branches [] ms0).1 (keysT s q.key q.keyAt (jG s q.window 0 q.branches [] ms0).2).2).1⟩,0,0)
theorem Dt (s:ai) (a:Nat):∀(l:List bn) (i pos:Nat) (ps:List (Nat×Int)) (m:MS),(wJ s a l i pos ps m).1.length=ps.length+l.length/\(wJ s a l i pos ps m).2.items.length=m.items.length+l.length/\∀y∈(wJ s a l i pos ps m).2.items,y∈m.items\/(y.br=a/\y.part<i+l.length)
 |[],i,pos,ps,m=>⟨rfl,rfl,λy c=>.inl c⟩
 |x::l,i,pos,ps,m=>by
  unfold wJ;simp only[];generalize d:(if(decide (typeAt s x.type<0)||(ed x.name m.items).2)=true then dI 10 x.pos m else m)=g
  have j:g.items=m.items:=by
   rw[<-d];split
   ·exact bP _ _ _
   rfl
  generalize f:(if i=0/\x.form=3 then dI 15 x.pos g else g)=b
  have k:b.items=m.items:=by
   rw[<-f];split
   ·rw[bP,j]
   exact j
  have e:=Dt s a l (i+1) (if x.form≠3 then pos+1 else pos) (ps++[(x.form,typeAt s x.type)]) ⟨b.items++[⟨x.name,a,i,pos,x.form,typeAt s x.type⟩],b.err,b.pos⟩;refine⟨by rw[e.1,zFu];simp;omega,by rw[e.2.1];simp[k];omega,λy c=>?_⟩;rcases e.2.2 y c with h|h
  ·rcases zFy.1 h with h|h
   ·rw[k]at h;exact .inl h
   simp only[zF6,zGi,zHt]at h;subst h;exact .inr ⟨rfl,by simp⟩
  exact .inr ⟨h.1,by simp;omega⟩
theorem InT.mono {bs:List dL} {y:dh} (h:InT bs y) (l:List dL):InT (bs++l) y:=by
 obtain⟨b,a,c⟩:=h;exact⟨b,by rw[zGh (zFc.1 a).1];exact a,c⟩
theorem FO (s:ai) (win:Nat):∀(r:List (List bn)) (i:Nat) (bs:List dL) (m:MS),bs.length=i->(∀y∈m.items,InT bs y)->(∀b∈bs,0<b.ps.length/\∀p∈b.ps,p.gs=[]/\p.cs=[])->(∀l∈r,0<l.length)->
  (jG s win i r bs m).1.length=i+r.length/\(∀y∈(jG s win i r bs m).2.items,InT (jG s win i r bs m).1 y)/\(jG s win i r bs m).2.items.length=m.items.length+(r.map List.length).sum/\∀b∈(jG s win i r bs m).1,0<b.ps.length/\∀p∈b.ps,p.gs=[]/\p.cs=[]
 |[],i,bs,m,f,c,hb,_=>⟨f,c,rfl,hb⟩
 |l::r,i,bs,m,f,c,hb,j=>by
  have d:=Dt s i l 0 0 [] m;unfold jG;have e:=FO s win r (i+1) (bs++[⟨i,win,(wJ s i l 0 0 [] m).1.map Ti⟩]) (wJ s i l 0 0 [] m).2 (by simp[f]) (λy k=>?_) (λb g=>?_) (λx h=>j x (by simp[h]))
  ·exact⟨by rw[e.1];simp;omega,e.2.1,by rw[e.2.2.1,d.2.1];simp;omega,e.2.2.2⟩
  ·rcases d.2.2 y k with h|h
   ·exact(c y h).mono _
   refine⟨⟨i,win,(wJ s i l 0 0 [] m).1.map Ti⟩,?_,?_⟩
   ·rw[h.1,zGd (by omega),f,zJi];rfl
   simp only[zF5,d.1]
   simpa using h.2
  rcases zFy.1 g with h|h
  ·exact hb b h
  simp only[zF6,zGi,zHt]at h;subst h;refine⟨by simp only[zF5,d.1];have:=j l (by simp);simpa using this,λp n=>?_⟩;obtain⟨a,_,rfl⟩:=zGa.1 n;exact⟨rfl,rfl⟩
def oH (bs:List dL):List Nat:=bs.map (·.ps.length)
theorem ou {α β:Type} (f:α->β) (g:α->α) (h:∀a,f (g a)=f a):∀(l:List α) (i:Nat),(l.modify i g).map f=l.map f
 |[],i=>by simp
 |a::l,0=>by simp[h]
 |a::l,i+1=>by
  have:=ou f g h l i;simp[this]
theorem ru {α:Type} {P P':α->Prop} {g:α->α} (e:∀a,P a->P' (g a)) (d:∀a,P a->P' a):∀(l:List α) (i:Nat),(∀a∈l,P a)->∀a∈l.modify i g,P' a
 |[],i,_,a,c=>by simp at c
 |b::l,0,h,a,c=>by
  simp at c;rcases c with rfl|c
  ·exact e b (h b (by simp))
  exact d a (h a (by simp[c]))
 |b::l,i+1,h,a,c=>by
  simp at c;rcases c with rfl|c
  ·exact d a (h a (by simp))
  exact ru e d l i (λx f=>h x (by simp[f])) a c
theorem YJ (bs:List dL) (i k:Nat) (g:Bool) (t:T):oH (uX bs i k g t)=oH bs:=by
 unfold oH uX;exact ou _ _ (λa=>by simp) bs i
theorem YK (k:Nat) (t:T) (bs:List dL):oH (tY k t bs)=oH bs:=by
 unfold oH tY;rw[zGr,zHh]
 conv=>rhs;rw[<-zJd k bs,zGr]
 congr 1
 apply zJw
 intro a _;simp[RF]
theorem InT.sh {bs c:List dL} (h:oH c=oH bs) {y:dh} (e:InT bs y):InT c y:=by
 obtain⟨d,f,g⟩:=e;have a:(oH bs)[y.br]? =some d.ps.length:=by unfold oH;rw[zG2,f];rfl
 rw[<-h]at a;unfold oH at a;rw[zG2]at a;cases hb:c[y.br]? with
 |none=>rw[hb]at a;cases a
 |some b=>
  rw[hb]at a;injection a with a
  exact⟨b,hb,by have a:b.ps.length=d.ps.length:=a;omega⟩
theorem Vj {n:Nat} (g:Bool) (t:T) (p:dU) (h:p.gs.length<=n/\p.cs.length<=n):(Hf g t p).gs.length<=n+1/\(Hf g t p).cs.length<=n+1:=by
 unfold Hf;cases g
 ·rw[zF2 (by decide)];simp;omega
 rw[zF3 rfl];simp;omega
theorem Vk {bs:List dL} {n:Nat} (h:jS bs n) (i k:Nat) (g:Bool) (t:T):jS (uX bs i k g t) (n+1):=by
 unfold jS uX;refine ru (P:=λc:dL=>∀p∈c.ps,p.gs.length<=n/\p.cs.length<=n) (P':=λc:dL=>∀p∈c.ps,p.gs.length<=n+1/\p.cs.length<=n+1) (λa d=>?_) (λa d p b=>?_) bs i h
 ·exact ru (P:=λp:dU=>p.gs.length<=n/\p.cs.length<=n) (P':=λp:dU=>p.gs.length<=n+1/\p.cs.length<=n+1) (λp b=>Vj g t p b) (λp b=>⟨by omega,by omega⟩) a.ps k d
 have:=d p b;exact⟨by omega,by omega⟩
theorem Vl {bs:List dL} {n:Nat} (h:jS bs n) (k:Nat) (t:T):jS (tY k t bs) (n+1):=by
 intro b hb;unfold tY at hb;rcases zFy.1 hb with hb|hb
 ·obtain⟨a,d,rfl⟩:=zGa.1 hb;exact ru (P:=λp:dU=>p.gs.length<=n/\p.cs.length<=n) (P':=λp:dU=>p.gs.length<=n+1/\p.cs.length<=n+1) (λp c=>Vj true t p c) (λp c=>⟨by omega,by omega⟩) a.ps 0 (h a (zKu d))
 intro p c;have:=h b (zJ2 hb) p c;exact⟨by omega,by omega⟩
theorem Du (s:ai) (x:az) (bs:List dL) (m:MS) (n:Nat) (h:jS bs n):oH (je s x bs m).1=oH bs/\jS (je s x bs m).1 (n+1)/\(je s x bs m).2.items=m.items:=by
 have a:jS bs (n+1):=λb hb p c=>by have:=h b hb p c;exact⟨by omega,by omega⟩
 unfold je
 split
 ·exact⟨rfl,a,rfl⟩
 split
 ·exact⟨rfl,a,by rw[bP,fK]⟩
 split
 ·exact⟨rfl,a,fK _ _ _⟩
 split
 ·exact⟨YK _ _ _,Vl h _ _,rfl⟩
 split
 ·exact⟨rfl,a,bP _ _ _⟩
 exact⟨YJ _ _ _ _ _,Vk h _ _ _ _,rfl⟩
theorem Ah (s:ai) (a:Str) (b:Int) (p:Nat):∀(l:List dh) (m:MS),(vK s a b p l m).items=m.items
 |[],m=>rfl
 |x::l,m=>by
  unfold vK;rw[Ah s a b p l]
  (repeat' split)<;>first|rfl|exact bP _ _ _
theorem Aj (s:ai) (a:Str) (p:Nat) (m:MS):(keysT s a p m).2.items=m.items:=by
 unfold keysT
 split
 ·rfl
 show(vK s a _ p m.items _).items=m.items
 rw[Ah];unfold zBn
 split
 ·rfl
 split
 ·exact bP _ _ _
 rfl
def iV (D B:Nat) (t:qg) (v:Value) (W:World):Prop:=∃(kv bv:Value) (bs:List bQ),v=.agg #[t.aS,kv,bv]/\W.ownsRow B 3 1 kv t.keys.length (dw t.keys)/\iC B D bv bs W/\bs.map (fJ D)=t.branches
theorem iC.nilK (B D:Nat) (W:World):iC B D (.slice none 0 0) [] W:=
 ⟨zGs _ _ _ _,λb hb=>absurd hb (by simp),List.Pairwise.nil,λx a=>absurd a (by simp[bI]),List.Pairwise.nil,λx a=>absurd a (by simp[bI])⟩
theorem iV.zero (D B:Nat) (W:World):iV D B yt (.agg #[(),"",""]) W:=
 ⟨_,_,[],rfl,zGs _ _ _ _,iC.nilK _ _ _,rfl⟩
def Vm (D:Nat) (s:ai) (q:di) (w:World) (e:Ending) (w':World):Prop:=
 ∃pv:Value,e=.returned (.tuple #[pv,.int .i64 ((kZ s q).2.1:Nat),.int .i64 (kZ s q).2.2])/\iV D w.heap.size (kZ s q).1 pv w'/\Below w w w'
theorem lV (w:World):(sizeOf 29).run prog w=.ok 3 w:=by
 obtain⟨i,a,d,b,c⟩:=zG4 (show(prog.info? 29).map (λi=>(i.zero,i.size,i.bytes))=some (some (.agg #[(),"",""]),3,56) by kernel_rfl);simp[sizeOf,typeInfo,a,b]
theorem iC.chg {b B f D:Nat} {s:ai} {p bv:Value} {m:MS} {bs:List bQ} {W W':World} (h:iC f D bv bs W) (u:jR b B s p m W) (w:vJ b p.ownBlock W W') (A:b<f) (t:∀x∈bI bs,x.2=[]):iC f D bv bs W':=by
 have a:∀{e k n:Nat} {v:Value} {xs:List Value},151≠e->W.ownsRow f e k v n xs->W'.ownsRow f e k v n xs:=fun {e k n v xs} i r=>by
  refine⟨r.1,?_⟩;rcases r.2 with h|⟨g,l,d,z,j,q,c⟩
  ·exact .inl h
  have o:Bk W g e d:=q;exact .inr ⟨g,l,d,z,j,(w.block g o.lt (by omega) (aN u.own o i)).trans q,c⟩
 exact⟨a (by decide) h.dJ,λx c=>a (by decide) (h.prt x c),h.tN,λx c=>a (by decide) (h.mO x c),h.og,λx c y d=>by rw[t x c]at d;cases d⟩
theorem iC.zEu {m D n c wz:Nat} {A:Option Addr} {v':Value} {bs:List bQ} {x:bQ} {W W':World} (h:iC m D (.slice A n c) bs W) (t:bs.length=n) (r:∀z∈bI bs,z.2=[]) (q:W.ownsRow wz 69 4 x.parts x.ps.length (x.ps.flatMap aZ.cells)) (s:m<=wz) (l:∀y∈bs,∀k,y.parts.ownBlock=some k->k<wz)
  (g:∀z∈NK x,z=(.slice none 0 0,[])) (j:W'.ownsRow m 67 3 v' (n+1) (bs.flatMap bQ.cells++x.cells)) (o:W.grownBy W' (Value.slice A n c).ownBlock):iC m D v' (bs++[x]) W'/\∀z∈bI (bs++[x]),z.2=[]:=by
 have i:bI (bs++[x])=bI bs++NK x:=by unfold bI;rw[zGz];simp
 have p:∀z∈bI (bs++[x]),z.2=[]:=by
  intro z d;rw[i]at d;rcases zFy.1 d with d|d
  ·exact r z d
  rw[g z d]
 refine⟨⟨?_,?_,?_,?_,?_,λz d y f=>by rw[p z d]at f;cases f⟩,p⟩
 ·rw[zGz]
  simpa[t]using j
 ·intro y f;rcases zFy.1 f with f|f
  ·exact bU (h.prt y f) h.dJ (by decide) o
  simp only[zF6,zGi,zHt]at f;subst f;exact bV (bU q h.dJ (by decide) o) s
 ·rw[zHn];refine⟨h.tN,by simp,λy f z d=>?_⟩;simp only[zF6,zGi,zHt]at d;subst d;rcases hk:y.parts.ownBlock with _|k
  ·exact .inl rfl
  right
  intro e;have u:=l y f k hk;have v:=(q.lt k e.symm).1;omega
 ·intro z d;rw[i]at d;rcases zFy.1 d with d|d
  ·exact bU (h.mO z d) h.dJ (by decide) o
  rw[g z d];exact zGs _ _ _ _
 rw[i,zHn];refine⟨h.og,?_,λy f z d=>?_⟩
 ·refine List.Pairwise.imp_of_mem (R:=λ_ _=>True) (fun {a b} e hb _=>.inl (by rw[g a e];rfl)) (List.pairwise_of_forall (λ_ _=>trivial))
 rcases hk:y.1.ownBlock with _|k
 ·exact .inl rfl
 exact .inr (by rw[g z d];simp[Value.ownBlock])
theorem jR.zEv {b B g e k n:Nat} {s:ai} {i v:Value} {m:MS} {xs:List Value} {W W':World} (h:jR b B s i m W) (f:W.ownsRow g e k v n xs) (d:151≠e) (hb:b<g) (a:W.grownBy W' v.ownBlock):jR b B s i m W':=by
 have c:some b≠v.ownBlock:=λj=>by have:=(f.lt b j.symm).1;omega
 exact⟨h.bk.grown a c,h.Eh.jQ (jP zR f (zG5 hb) a (zG5 h.bk.lt)),bU h.own f d a⟩
theorem jR.Vo {b B:Nat} {s:ai} {a:Value} {m:MS} {W:World} {g t:Nat} {cs:Array Value} (h:jR b B s a m W) (e:Bk W g t cs) (c:b<g) (d:151≠t) (i:Nat) (u:Value):jR b B s a m (W.setCell ⟨g,i,none⟩ u):=
 ⟨h.bk.far (by show b≠g;omega) _,h.Eh.jQ (zR.setCell (zG5 c) _),Bf h.own e d i u⟩
structure YL (b B1 gp bq br D:Nat) (s:ai) (iv:Value) (m:MS) (ax:Int) (kv bv:Value) (bs:List bQ) (qc:Array Value) (w W:World):Prop where
 st:jR b B1 s iv m W
 pl:iC B1 D bv bs W
 kp:Bk W gp 29 #[ax,kv,bv]
 kq:Bk W bq 52 qc
 kr:Bk W br 29 #[(),"",""]
 bel:Below w w W
theorem YL.old {b f gp d g D:Nat} {s:ai} {e:Value} {m:MS} {ax:Int} {a bv:Value} {bs:List bQ} {c:Array Value} {w W W':World} (h:YL b f gp d g D s e m ax a bv bs c w W) (hb:Below W W W'):YL b f gp d g D s e m ax a bv bs c w W':=
 ⟨h.st.old hb,h.pl.old hb,h.kp.old hb,h.kq.old hb,h.kr.old hb,h.bel.trans (hb.mono h.bel.size)⟩
theorem vJ.trans {b:Nat} {o:Option Nat} {w c w2:World} (h:vJ b o w c) (a:vJ b o c w2):vJ b o w w2:=
 ⟨a.os.trans h.os,a.tape.trans h.tape,a.output.trans h.output,zFi h.size a.size,λk f d e=>(a.block k (zFs f h.size) d e).trans (h.block k f d e)⟩
theorem Vp (b:Nat) (o:Option Nat) (W:World):(∀w,Below W W w->vJ b o W w)/\(∀w w',vJ b o W w->Below w.heap.size w w'->vJ b o W w'):=⟨λw h=>vJ.below h,λw w' h hb=>h.more hb⟩
structure BrO (b B1:Nat) (s:ai) (iv:Value) (MF:MS) (wz:Nat) (PS:List (Nat×Int)) (A:Option Addr) (n c:Nat) (qp:Value) (w:World):Prop where
 ln:n=PS.length
 own:w.ownsRow wz 69 4 (.slice A n c) n (PS.flatMap prC)
 st:jR b B1 s qp MF w
 iv:qp.ownBlock=iv.ownBlock\/∀k,qp.ownBlock=some k->wz<=k
theorem BrO.old {b a:Nat} {s:ai} {e:Value} {d:MS} {wz:Nat} {PS:List (Nat×Int)} {A:Option Addr} {n c:Nat} {qp:Value} {w w':World} (h:BrO b a s e d wz PS A n c qp w) (hb:Below w w w'):BrO b a s e d wz PS A n c qp w':=
 ⟨h.ln,aT h.own hb,h.st.old hb,h.iv⟩
def Vq (k:Nat) (win:Nat) (v:Value) (PS:List (Nat×Int)):bQ:=⟨k,win,v,PS.map λp=>⟨p.1,p.2,.slice none 0 0,.slice none 0 0,[],[]⟩⟩
theorem RP (PS:List (Nat×Int)):(PS.map λp=>(⟨p.1,p.2,.slice none 0 0,.slice none 0 0,[],[]⟩:aZ)).flatMap aZ.cells=PS.flatMap prC:=by
 rw[zHw];rfl
theorem Vr (k win:Nat) (v:Value) (PS:List (Nat×Int)):∀z∈NK (Vq k win v PS),z=(.slice none 0 0,[]):=by
 intro z b;unfold NK Vq at b;obtain⟨p,c,b⟩:=zGn.1 b;obtain⟨a,_,rfl⟩:=zGa.1 c;simp[dQ]at b;exact b
theorem Vs (D k win:Nat) (v:Value) (PS:List (Nat×Int)):fJ D (Vq k win v PS)=⟨k,win,PS.map Ti⟩:=by
 unfold fJ Vq;simp only[zHh]
 congr 1
theorem NZ {q:di} (h:pG q=0):lT q=true/\q.branches.length<=4/\iJ q<=200/\∀l∈q.branches,l.length<=8:=by
 unfold pG at h
 split at h
 ·cases h
 rename_i b
 split at h
 ·cases h
 rename_i d
 split at h
 ·cases h
 rename_i a
 refine⟨by simpa using b,by omega,by omega,λl c=>?_⟩;have a:=zH6.2 a;rw[List.any_eq_false]at a;have:=a l c
 simpa using this
theorem YM:∀(l:List (List bn)),0<l.length->(∀x∈l,0<x.length)->0<(l.map List.length).sum
 |[],h,_=>by simp at h
 |x::l,_,h=>by have:=h x (by simp);simp;omega
theorem zk:∀(l:List az) (i:Nat),l.length<=aX i l
 |[],i=>by simp
 |x::l,i=>by
  have b:=zk l (i+1);have a:1<=aF x:=by cases x<;>simp[aF]<;>omega
  rw[nU,zFh];omega
theorem YO {bs c:List dL} (h:oH c=oH bs) (g:∀b∈bs,0<b.ps.length):∀b∈c,0<b.ps.length:=by
 intro b hb;have d:b.ps.length∈oH c:=zGa.2 ⟨b,hb,rfl⟩;rw[h]at d;obtain⟨a,e,f⟩:=zGa.1 d;rw[<-f];exact g a e
theorem zCd:(prog.info? 67).map (λi=>(i.zero,i.size,i.bytes))=some (some (.agg #[(),(),""]),3,40):=by kernel_rfl
theorem Vt (D:Nat) (hD:200<=D) (s:ai) (q:di) (A1 A2:Option Addr) (Q J Y c2 Bq:Nat) (w:World) (hs:s.ok w w.heap.size) (a1:lK Bq w (.slice A1 Q Y) q.branches) (ab:zS Bq w (.slice A2 J c2) q.cond) (a3:∀e∈q.cond,gm e) (hn:Q<=1000/\J<=100000) (b5:q.aS<=1000) (ak:q.window<=9223372036854775807) (bb:∀l∈q.branches,l.length<=1000) (bm:iJ q<=1000000):
  Calls prog 16 #[s.val,.agg (q.cells (.slice A1 Q Y) (.slice A2 J c2)).toArray] w (Vm D s q w):=by
 have HS:=zH hs;have Ee:=zH a1;have Yx:=zH ab;have Ip:=zH a3;have Yp:=zH (λh:lT q=true=>Af h);have aw:=zH a1.len;have b3:=zH ab.len;have F:Hid (∀W,Below w w W->Calls prog 43 #[.agg (q.cells (.slice A1 Q Y) (.slice A2 J c2)).toArray] W (G9 q W)):=zH λW a=>print_any Bq W q A1 A2 Q J Y c2 (a1.old a) (ab.old a) a3 hn b5 ak bb bm
 have m:Hid (∀W,Below w w W->Calls prog 42 #[s.val] W λe w'=>e=.returned (.int .i64 (Ho s))/\Below W.heap.size W w'):=zH λW a=>Na s W ((hs.jQ a).more a.size)
 obtain⟨⟨PT,AT,ER⟩,a⟩:∃z,kZ s q=z:=⟨_,rfl⟩
 have P:=zH a;unfold Vm;rw[a];simp only[];obtain⟨QC,f⟩:=zN ((q.cells (.slice A1 Q Y) (.slice A2 J c2)).toArray)
 have r:QC=#[.slice A1 Q Y,.slice A2 J c2,.int .i64 q.aS,.int .i64 q.window,.string (bytes q.key),.int .i64 q.keyAt]:=by rw[<-f];rfl
 obtain⟨ce,L⟩:=zN (Ho s)
 obtain⟨pe,a0⟩:=zN (pG q)
 unfold G9 at F;rw[f,a0]at F;rw[L]at m;rw[f,r];rw[r]at F;have b2:=zH L;have Xq:=zH a0;have yS:=zH hn;unfold ai.val at m⊢;obtain⟨ax,G⟩:=zN q.aS
 obtain⟨win,B⟩:=zN q.window
 obtain⟨E,d⟩:=zN (bytes q.key)
 obtain⟨ka,A⟩:=zN q.keyAt
 have HQ:=zH (zA G (zA B (zA d A)));rw[G,B,d,A]at F⊢;clear hs a1 ab a3 hn b5 ak bb bm a f r L a0 G B d A
 go_enter func16,ntmps16
 go_upto_region 1 with fail
 have Z:=Bk.new w 25 #[.slice s.ta s.types.length s.tc,.slice s.sa s.syms.length s.sc];have f:Below w w (w.alloc (.cells #[.slice s.ta s.types.length s.tc,.slice s.sa s.syms.length s.sc] 25)):=zR.alloc zL _;obtain⟨wS,I⟩:=zN (w.alloc (.cells #[.slice s.ta s.types.length s.tc,.slice s.sa s.syms.length s.sc] 25))
 rw[I]at Z f⊢;have kQ:=Bk.new wS 52 #[.slice A1 Q Y,.slice A2 J c2,ax,win,E,ka];have d:Below wS wS (wS.alloc (.cells #[.slice A1 Q Y,.slice A2 J c2,ax,win,E,ka] 52)):=zR.alloc zL _;obtain⟨wQ,H⟩:=zN (wS.alloc (.cells #[.slice A1 Q Y,.slice A2 J c2,ax,win,E,ka] 52))
 rw[H]at kQ d⊢;have K:=Bk.new wQ 29 #[(),"",""];have X:Below wQ wQ (wQ.alloc (.cells #[(),"",""] 29)):=zR.alloc zL _;obtain⟨w0,U⟩:=zN (wQ.alloc (.cells #[(),"",""] 29))
 rw[U]at K X⊢;have R:Below w w w0:=(f.trans (d.mono f.size)).trans (X.mono (zFi f.size d.size));have a4:=Z.lt;have a2:=kQ.lt;have a5:=K.lt;have M:=(Z.old d).old X;have r:=kQ.old X;have A:wS.heap.size=w.heap.size+1:=by rw[<-I];simp
 have B:wQ.heap.size=w.heap.size+2:=by rw[<-H];simp;omega
 rw[A]at r;rw[B]at K;obtain⟨N,O⟩:=zN (w.heap.size+1)
 obtain⟨G,a1⟩:=zN (w.heap.size+2)
 have aq:w.heap.size<=G:=by omega
 have cf:w.heap.size<=N:=by omega
 have cg:G<w0.heap.size:=by omega
 have ca:N<G:=by omega
 rw[O]at r⊢;rw[a1]at K;rw[show N+1=G by omega];obtain⟨b0,a9⟩:=zN w.heap.size
 have a6:=M;rw[a9]at M⊢;have a:Hid (Bk w0 b0 25 #[.slice s.ta s.types.length s.tc,.slice s.sa s.syms.length s.sc]/\Bk w0 N 52 #[.slice A1 Q Y,.slice A2 J c2,ax,win,E,ka]/\Bk w0 G 29 #[(),"",""]/\Below w w w0):=zH ⟨M,r,K,R⟩;have cp:=zH a9;have y0:=M.cell 0;have y1:=M.cell 1;simp only[zF7,zGe,zGg]at y0 y1;clear Z f I kQ d H K X U R M r a4 a2 a5 B A a9 O a1 a6;go_wp2_with fail
 refine(m.out _ a.2.2.2).mono ?_;rintro r w1 ⟨rfl,H⟩;have d:Hid (Bk w1 b0 25 #[.slice s.ta s.types.length s.tc,.slice s.sa s.syms.length s.sc]/\Bk w1 N 52 #[.slice A1 Q Y,.slice A2 J c2,ax,win,E,ka]/\Bk w1 G 29 #[(),"",""]/\Below w w w1):=zH ⟨a.1.old H,a.2.1.old H,a.2.2.1.old H,a.2.2.2.trans (H.mono a.2.2.2.size)⟩;clear H a m y0 y1
 by_cases L:ce=0
 case neg=>
  as_aux_lemma=>
  have cI:(ce !=0)=true:=by rw[zG1];exact L
  have Z:kZ s q=(yt,0,ce):=by unfold kZ;rw[b2.out,zF3 L]
  have A:=P.out;rw[Z]at A;injection A with f I
  injection I with I h3
  subst f;subst I;subst h3;have kr:=d.2.2.1;clear Z P L F;go_wp2_with (first|(refine ae lV rfl _ _ rfl rfl [.int .i64 0,.slice none 0 0,.slice none 0 0] rfl kr rfl rfl rfl ?_;intro w9 p9))
  obtain⟨u0,u1,u2⟩:=zc3 p9.bk;refine zFg (v:=.tuple #[.agg #[(),"",""],(),ce]) (by simp[results,results16,go_sem,u0,u1,u2]) rfl ?_;exact⟨_,rfl,iV.zero _ _ _,p9.below _ _ d.2.2.2 aq⟩
 case pos=>
 have cI:(ce !=0)=false:=by rw[zG0];exact L
 obtain⟨z0,z1,z2,z3,z4,z5⟩:=zc6 d.2.1;simp only[zF7,zGe,zGg]at z0 z1 z2 z3 z4 z5;go_wp2_with fail
 refine(F.out _ d.2.2.2).mono ?_;rintro r w2 ⟨S,rfl,m⟩;have a:Hid (Bk w2 b0 25 #[.slice s.ta s.types.length s.tc,.slice s.sa s.syms.length s.sc]/\Bk w2 N 52 #[.slice A1 Q Y,.slice A2 J c2,ax,win,E,ka]/\Bk w2 G 29 #[(),"",""]/\Below w w w2):=zH ⟨d.1.old m,d.2.1.old m,d.2.2.1.old m,d.2.2.2.trans (m.mono d.2.2.2.size)⟩;have a2:=m.size;clear m d F z0 z1 z2 z3 z4 z5 cI
 by_cases a0:pe=0
 case neg=>
  as_aux_lemma=>
  have cI:((pe:Int) !=0)=true:=by rw[zG1];omega
  have Z:kZ s q=(yt,0,(pe:Int)):=by
   unfold kZ;rw[b2.out,zF2 (by simp[L]),Xq.out,zF3 a0]
  have A:=P.out;rw[Z]at A;injection A with f I
  injection I with I h3
  subst f;subst I;subst h3;have kr:=a.2.2.1;clear Z P L a0;go_wp2_with (first|(refine ae lV rfl _ _ rfl rfl [.int .i64 0,.slice none 0 0,.slice none 0 0] rfl kr rfl rfl rfl ?_;intro w9 p9))
  obtain⟨u0,u1,u2⟩:=zc3 p9.bk;refine zFg (v:=.tuple #[.agg #[(),"",""],(),pe]) (by simp[results,results16,go_sem,u0,u1,u2]) rfl ?_;exact⟨_,rfl,iV.zero _ _ _,p9.below _ _ a.2.2.2 aq⟩
 case pos=>
 have cI:((pe:Int) !=0)=false:=by rw[zG0];omega
 have B:=NZ (Xq.trans a0);have a7:=zH B;have U8:=zH (Yp.out B.1);obtain⟨⟨Tj,M1⟩,d⟩:∃z,jG s q.window 0 q.branches [] ms0=z:=⟨_,rfl⟩
 obtain⟨⟨KS,M2⟩,O⟩:∃z,keysT s q.key q.keyAt M1=z:=⟨_,rfl⟩
 obtain⟨⟨a5,M3⟩,A⟩:∃z,gu s q.cond Tj M2=z:=⟨_,rfl⟩
 have Z:(if M3.err≠0 then(yt,M3.pos,(M3.err:Int))else(⟨q.aS,KS,a5⟩,0,0))=(PT,AT,ER):=by
  have f:=P.out;unfold kZ at f;rw[b2.out,zF2 (by simp[L]),Xq.out,zF2 (by simp[a0]),d]at f;simp only[]at f;rw[O]at f;simp only[]at f;rw[A]at f;exact f
 have m:=FO s q.window q.branches 0 [] ms0 rfl (λy hy=>absurd hy (by simp[ms0])) (λb hb=>absurd hb (by simp)) U8.2.2.2.2.2.1;rw[d]at m;have Xu:=zH m;have c7:=zH d;have bh:=zH O;have c0:=zH A;have ag:=zH Z;have y0:=a.1.cell 0;have y1:=a.1.cell 1;have z2:=a.2.1.cell 2;simp only[zF7,zGe,zGg]at y0 y1 z2;clear B d O A Z m L a0 P;go_upto_region 8 with fail
 have kb:=Bk.new w2 103 #[.slice s.ta s.types.length s.tc,.slice s.sa s.syms.length s.sc,"",(),()];have A:Below w2 w2 (w2.alloc (.cells #[.slice s.ta s.types.length s.tc,.slice s.sa s.syms.length s.sc,"",(),()] 103)):=zR.alloc zL _;obtain⟨wb,d⟩:=zN (w2.alloc (.cells #[.slice s.ta s.types.length s.tc,.slice s.sa s.syms.length s.sc,"",(),()] 103))
 rw[d]at kb A⊢;have K:wb.heap.size=w2.heap.size+1:=by rw[<-d];simp
 have a4:=zE A z2;clear z2 d y0 y1 cI;go_upto_region 9 with fail
 have P:=Bk.new wb 29 #[ax,"",""];have B:Below wb wb (wb.alloc (.cells #[ax,"",""] 29)):=zR.alloc zL _;obtain⟨w3,R⟩:=zN (wb.alloc (.cells #[ax,"",""] 29))
 rw[R]at P B⊢;have m:Below w2 w2 w3:=A.trans (B.mono A.size);have M:=kb.old B;rw[K]at P;obtain⟨gp,nD⟩:=zN (w2.heap.size+1)
 rw[nD]at P⊢;obtain⟨b,U⟩:=zN w2.heap.size
 have bt:w.heap.size<=b:=by have:=a.2.2.2.size;omega
 have c8:b<gp:=by omega
 have cc:gp<w3.heap.size:=by have:=P.lt;omega
 have cd:b<w3.heap.size:=by omega
 have cb:G<b:=by have:=a.2.2.1.lt;omega
 rw[U]at M⊢;obtain⟨d,X⟩:=zN w3.heap.size
 have F:jR b d s (.slice none 0 0) ms0 w3:=⟨M,(HS.jQ (a.2.2.2.trans (m.mono a.2.2.2.size))).more bt,zGs _ _ _ _⟩
 have yG:Hid (YL b d gp N G D s (.slice none 0 0) ms0 ax (.slice none 0 0) (.slice none 0 0) [] #[.slice A1 Q Y,.slice A2 J c2,ax,win,E,ka] w w3/\∀z∈bI [],z.2=[]):=zH ⟨⟨F,iC.nilK _ _ _,P,a.2.1.old m,a.2.2.1.old m,a.2.2.2.trans (m.mono a.2.2.2.size)⟩,λz hz=>absurd hz (by simp[bI])⟩;have bv:=zH X;have H:b<d:=by omega
 have ar:gp<d:=by omega
 have b4:gp≠b:=by omega
 clear kb A K B m P M R U nD F a2 a4 a X;have a:=yG.1.kq.cell 0;simp only[zF7,zGe]at a;have H1:Hid (jG s q.window 0 (q.branches.drop 0) (([]:List bQ).map (fJ D)) ms0=(Tj,M1)):=zH (by rw[zFp];exact c7.out);have ch:=yS.1;have am:d<=w3.heap.size:=by rw[bv.out];exact zFv _
 go_wp2_with fail
 clear a
 go_loopw[39] (λi wr=>∃(k:Nat) (iv:Value) (m:MS) (A:Option Addr) (c:Nat) (bs:List bQ),k<=Q/\i=.int .i64 k/\Hid (bs.length=k/\jG s q.window k (q.branches.drop k) (bs.map (fJ D)) m=(Tj,M1)/\m.items.length<=8*k)/\Hid (YL b d gp N G D s iv m ax (.slice none 0 0) (.slice A k c) bs #[.slice A1 Q Y,.slice A2 J c2,ax,win,E,ka] w wr/\(∀z∈bI bs,z.2=[])/\d<=wr.heap.size)) (λi _=>Q-(intOf i).toNat)
 case atStart=>exact⟨0,.slice none 0 0,ms0,none,0,[],zFj _,rfl,zH ⟨rfl,H1.out,by simp[ms0]⟩,zH ⟨yG.1,yG.2,am⟩⟩
 case round=>
  clear H1 yG am;obtain⟨k,iv,m,A,c,bs,hk,rfl,M,a⟩:=hrel;obtain⟨W,rfl⟩:∃W:World,W=wr:=⟨_,rfl⟩
  by_cases a6:k<Q
  ·
   have a2:k<q.branches.length:=by rw[<-aw.out];exact a6
   obtain⟨g,o,A',c',rfl,hg,B,R⟩:=Ee.get k a2;have Vu:=a7.2.2.2 _ (zFe a2);have U:=M.2.1;rw[zFk a2]at U;obtain⟨l,hl⟩:=zN (q.branches[k])
   rw[hl]at B R U Vu;obtain⟨⟨PS,MF⟩,K⟩:∃z,wJ s k l 0 0 [] m=z:=⟨_,rfl⟩
   have F:=Dt s k l 0 0 [] m;rw[K]at F;have O:jG s q.window (k+1) (q.branches.drop (k+1)) (bs.map (fJ D)++[⟨k,q.window,(wJ s k l 0 0 [] m).1.map Ti⟩]) (wJ s k l 0 0 [] m).2=(Tj,M1):=U;rw[K,HQ.2.1]at O;have aa:=M.2.2;have bx:k<4:=by have:=a7.2.1;omega
   have BB:=zH (zA O F);have c5:=zH Vu;obtain⟨NL,X⟩:=zN l.length
   rw[X]at B;have cm:=a.2.2
   have Xv : Hid (∀ wr, Below W.heap.size W wr → Calls prog 44 #[.pointer (some ⟨b, 0, none⟩), .int .i64 k, .slice A' NL c', .int .i64 win] wr λr w' =>
     ∃(A:Option Addr) (n c:Nat) (qp:Value),r=.returned (.agg #[k,win,.slice A n c])/\n=PS.length/\w'.ownsRow wr.heap.size 69 4 (.slice A n c) n (PS.flatMap prC)/\jR b d s qp MF w'/\vJ b iv.ownBlock wr w'/\(qp.ownBlock=iv.ownBlock\/∀k,qp.ownBlock=some k->wr.heap.size<=k)):=zH λwr hB=>by
    have hm:=a.1.st.old hB
    have f:=JU b d s iv m k (win:Int) l A' c' wr hm H (by have:=hB.size;omega) (by omega) (λj hj=>by
     obtain⟨g',o',a8,ad,a4⟩:=R.elem (n:=4) Df (by omega) hj;have P:=a.1.bel.trans (hB.mono a.1.bel.size);refine⟨g',o',a8,by have:=P.size;omega,by omega,λe=>?_,λq u hu=>?_⟩
     ·have:=(hm.own.lt g' e.symm).1;omega
     have I:=a4 q u hu;rw[zJb]at I
     exact(bK P g' _ ad).trans I)
    rw[X,K]at f;exact f
   have e1:W.cell? ⟨g,o+k,none⟩=some (.slice A' NL c'):=(bK a.1.bel g _ hg).trans B;have y0:W.cell? ⟨N,0,none⟩=some (.slice (some ⟨g,o,none⟩) Q Y):=a.1.kq.cell 0;have y3:W.cell? ⟨N,3,none⟩=some (.int .i64 win):=a.1.kq.cell 3;have p2:W.cell? ⟨gp,2,none⟩=some (.slice A k c):=a.1.kp.cell 2;obtain⟨wz,bp⟩:=zN W.heap.size
   have a4:Hid (some gp≠iv.ownBlock):=zH (aN a.1.st.own a.1.kp (by decide));have b8:=a.1.kp.lt;have ad:=zH p2;clear B R U O hl K F hg X aa Vu;go_upto_region 12 with fail
   have HG:=(Vp b iv.ownBlock W).2;have GB:=(Vp b iv.ownBlock W).1
   refine wg 7 (λw => vJ b iv.ownBlock W w) [.is (.pointer (some ⟨gp, 2, none⟩)),
     .is (.slice A k c),
     .is (.pointer (some ⟨b,0,none⟩)),
     .is (.int .i64 (k:Nat)),
     .is (.slice A' NL c'),
     .is (.pointer (some ⟨N,3,none⟩)),
     .is (.int .i64 (win:Nat)),
     .st (λv w=>∃(A:Option Addr) (n c:Nat) (KD:Value),v=.agg #[.int .i64 (k:Nat),.int .i64 (win:Nat),.slice A n c]/\BrO b d s iv MF wz PS A n c KD w) (λ_ _ _ hb ⟨A,n,c,KD,f,I⟩=>⟨A,n,c,KD,f,I.old hb⟩),
     .st (λv w=>∃(g:Nat) (A:Option Addr) (n c:Nat) (KD:Value),v=.slice (some ⟨g,0,none⟩) 1 1/\Bk w g 67 #[.int .i64 (k:Nat),.int .i64 (win:Nat),.slice A n c]/\BrO b d s iv MF wz PS A n c KD w) (λ_ _ _ hb ⟨g,A,n,c,KD,f,I,h3⟩=>⟨g,A,n,c,KD,f,I.old hb,h3.old hb⟩)] [7,8] (λw h=>GB w h) (by kernel_rfl) (by kernel_rfl) (by kernel_rfl)
     (λC=>.c (ay.x HG C rfl (λ_ _=>rfl)) <|
     .c (ay.x HG C rfl (λwr hG=>by
     have B:wr.cell? ⟨gp,2,none⟩=some (.slice A k c):=(zJe (w:=W) (hG.block gp b8 b4 a4.out)).trans ad.out
     exact bH (ld27 (by assumption)))) <|
     .c (ay.x HG C rfl (λ_ _=>rfl)) <|
     .c (ay.x HG C rfl (λ_ _=>rfl)) <|
     .c (ay.x HG C rfl (λ_ _=>rfl)) <|
     .c (ay.x HG C rfl (λ_ _=>rfl)) <|
     .c (ay.b HG C (by kernel_rfl) (λ_ h=>bH (ld2 (bc h y3)))) <|
     .c (ay.g [2,3,4,6] [] (by kernel_rfl) λqK qa wr hB qO qF hK=>?_) <|
     .c (ay.q HG [7] [] (by kernel_rfl) λqK qa wr hG qO qF hK=>?_) <| .nil) ?_
   ·have af:=aA qF.1 rfl rfl;have al:=aA qF.2.1 rfl rfl;have a8:=aA qF.2.2.1 rfl rfl;have aa:=aA qF.2.2.2.1 rfl rfl;clear qO qF;go_simp
    go_at_call 44
    refine(Xv.out wr hB).mono ?_;rintro r w9 ⟨An,nn,cn,KD,rfl,R,iQ,K,B,P⟩;exact hK _ _ ((vJ.below hB).trans B) B.size ⟨An,nn,cn,KD,rfl,⟨R,bV iQ (by have:=hB.size;omega),K,P.imp id λh k hk=>zFi (by have:=hB.size;omega) (h k hk)⟩⟩
   ·obtain⟨u51,F,q7⟩:=qF.1;have r7:(λv w=>∃(A:Option Addr) (n c:Nat) (KD:Value),v=.agg #[.int .i64 (k:Nat),.int .i64 (win:Nat),.slice A n c]/\BrO b d s iv MF wz PS A n c KD w) u51 wr:=Sp.self.1 q7;obtain⟨An,nn,cn,KD,X,mD⟩:=r7;subst X;have F:qa.tmps[51]? =some (.agg #[.int .i64 (k:Nat),.int .i64 (win:Nat),.slice An nn cn]):=F;clear qO qF;go_simp;exact hK _ _ (zR.alloc zL _) ⟨_,_,_,_,_,rfl,Bk.new _ _ _,mD.old (zR.alloc zL _)⟩
   intro qx wr hG Z;have B:(λv w=>∃(g:Nat) (A:Option Addr) (n c:Nat) (KD:Value),v=.slice (some ⟨g,0,none⟩) 1 1/\Bk w g 67 #[.int .i64 (k:Nat),.int .i64 (win:Nat),.slice A n c]/\BrO b d s iv MF wz PS A n c KD w) (qx 8) wr:=Z 8 rfl rfl;clear Z;simp only[bJ,zF0,zGb,zF1,zFp,zFd,zFh,zF4,Act.put,zFf,zFw,zFx];generalize qx 8=cj at B⊢;obtain⟨g8,An,nn,cn,KD,rfl,k8,mD⟩:=B;have F:=hG;have K:=a.1.pl.chg a.1.st F H a.2.1;have iQ:=K.dJ;have aa:=M.1;rw[aa]at iQ;have R:Bk wr gp 29 #[ax,"",.slice A k c]:=(F.block gp a.1.kp.lt b4 a4.out).trans a.1.kp;obtain⟨iB,b6,bd,bi,be⟩:=zG4 zCd;have B:=zH (zA F (zA K (zA R (zA mD iQ))));have uT:d<=wr.heap.size:=by have:=F.size;omega
   have P:=Rd.bk k8 (zJ8 _);clear F K R mD hG e1 y0 y3 p2;go_wp2_with (first|at_builtin;(refine aU (by rfl) _ _ 27 (by rfl) d 67 iB _ 3 40 underlying27 b6 bd bi be rfl (by decide) (.slice A k c) k _ (by rfl) iQ (g8+1) (some ⟨g8,0,none⟩) 1 1 _ (by rfl) P (by rfl) ?c2 ?c3 ?c4 uT ?_))
   case c2=>first|exact⟨rfl,rfl,rfl⟩|(intro u hu;simp at hu;rcases hu with rfl|rfl|rfl<;>rfl)
   case c3=>unfold maxLen;omega
   case c4=>omega
   intro A6 c6 w6 F lX _;have a8:=B.2.2.1;have X:some gp≠(Value.slice A k c).ownBlock:=aN iQ a8 (by decide);have K:=a8.grown lX X;have f6:=K.frozen 2;have co:w6.cell? ⟨gp,2,none⟩=some (.slice A k c):=K.cell 2;have R:=zH (zA F lX);have KE:=zH K;clear F lX K a8 X P k8;have P:=(B.2.2.2.1.st.zEv iQ (by decide) H R.2).Vo KE.out (by omega) (by decide) 2 (.slice A6 (k+1) c6)
   have K:=iC.zEu (x:=Vq k win (.slice An nn cn) PS) (v':=.slice A6 (k+1) c6) B.2.1 M.1 a.2.1 (wz:=wz) (by
    show wr.ownsRow wz 69 4 (.slice An nn cn) (PS.map _).length ((PS.map _).flatMap aZ.cells)
    rw[RP,zF5,<-B.2.2.2.1.ln]
    exact B.2.2.2.1.own) (by omega) (λy hy F af=>by rw[<-bp];exact((a.1.pl.prt y hy).lt F af).2) (Vr _ _ _ _) R.1 R.2
   have F:iC d D (.slice A6 (k+1) c6) (bs++[Vq k win (.slice An nn cn) PS]) (w6.setCell ⟨gp,2,none⟩ (.slice A6 (k+1) c6)):=K.1.grown (cO (zF8 _ _)) ar
   have Vx:Bk (w6.setCell ⟨gp,2,none⟩ (.slice A6 (k+1) c6)) N 52 #[.slice (some ⟨g,o,none⟩) Q Y,.slice A2 J c2,ax,win,E,ka]:=
    ((show Bk wr N _ _ from(B.1.block N a.1.kq.lt (by omega) (aN a.1.st.own a.1.kq (by decide))).trans a.1.kq).grown R.2 (aN iQ (show Bk wr N _ _ from(B.1.block N a.1.kq.lt (by omega) (aN a.1.st.own a.1.kq (by decide))).trans a.1.kq) (by decide))).far (by show N≠gp;omega) _
   have Vy:Bk (w6.setCell ⟨gp,2,none⟩ (.slice A6 (k+1) c6)) G 29 #[(),"",""]:=
    ((show Bk wr G _ _ from(B.1.block G a.1.kr.lt (by omega) (aN a.1.st.own a.1.kr (by decide))).trans a.1.kr).grown R.2 (aN iQ (show Bk wr G _ _ from(B.1.block G a.1.kr.lt (by omega) (aN a.1.st.own a.1.kr (by decide))).trans a.1.kr) (by decide))).far (by show G≠gp;omega) _
   have rU:Below w.heap.size w (w6.setCell ⟨gp,2,none⟩ (.slice A6 (k+1) c6)):=by
    have hb:=a.1.bel;have f:Below w.heap.size w wr:=⟨B.1.os.trans hb.os,B.1.tape.trans hb.tape,B.1.output.trans hb.output,zFi hb.size B.1.size,λq hq=>(B.1.block q (by have:=hb.size;omega) (by omega) (λe=>by have:=(a.1.st.own.lt q e.symm).1;omega)).trans (hb.block q hq)⟩
    exact(eU f iQ (by omega) R.2 (by have:=f.size;omega)).setCell (by show w.heap.size<=gp;omega) _
   have iW:Hid (YL b d gp N G D s KD MF ax (.slice none 0 0) (.slice A6 (k+1) c6) (bs++[Vq k win (.slice An nn cn) PS]) #[.slice (some ⟨g,o,none⟩) Q Y,.slice A2 J c2,ax,win,E,ka] w (w6.setCell ⟨gp,2,none⟩ (.slice A6 (k+1) c6))/\(∀z∈bI (bs++[Vq k win (.slice An nn cn) PS]),z.2=[])/\d<=(w6.setCell ⟨gp,2,none⟩ (.slice A6 (k+1) c6)).heap.size):=zH
    ⟨⟨P,F,KE.put 2 _,Vx,Vy,rU⟩,K.2,by have:=R.2.size;simp;omega⟩
   have ap:Hid ((bs++[Vq k win (.slice An nn cn) PS]).length=k+1/\jG s q.window (k+1) (q.branches.drop (k+1)) ((bs++[Vq k win (.slice An nn cn) PS]).map (fJ D)) MF=(Tj,M1)/\MF.items.length<=8*(k+1)):=zH
    ⟨by simp[M.1],by rw[zGr,zGq,zHc,Vs,HQ.2.1];exact BB.1,by
     have f:=BB.2.2.1;have I:=M.2.2;have h3:=c5.out
     omega⟩
   clear P K F Vx Vy rU R KE B iQ uT a M BB Xv a4 ad aa;go_wp2
   go_roundw
   case rel=>exact⟨k+1,KD,MF,A6,c6,bs++[Vq k win (.slice An nn cn) PS],by omega,by go_num,ap,iW⟩
   case measure=>simp[intOf];omega
  
  obtain rfl:k=Q:=by omega
  have U:=M.2.1;rw[zFq (by rw[<-aw.out];exact zFv _)]at U;have U:(bs.map (fJ D),m)=(Tj,M1):=U;injection U with hp1 hm1
  have B:=M.2.2;subst hm1;have pY:=zH hp1;have K:=M.1;have cl:=zH K
  have P:0<m.items.length:=by
   have f:=Xu.2.2.1;have I:=YM q.branches U8.2.2.2.2.2.2 U8.2.2.2.2.2.1;omega
  have bx:k<=4:=by have:=a7.2.1;have:=aw.out;omega
  have Zz:=zH (U0 b d s iv m (.slice A1 k Y) (.slice A2 J c2) (.int .i64 ax) (.int .i64 win) E ka W a.1.st H (by omega) P)
  have F:keysT s E.toList ka m=(KS,M2):=by
   rw[<-bh.out,<-HQ.2.2.1,aI,HQ.2.2.2]
  rw[F]at Zz;simp only[]at Zz;obtain⟨z0,z1,z2,z3,z4,z5⟩:=zc6 a.1.kq;simp only[zF7,zGe,zGg]at z0 z1 z2 z3 z4 z5;have bw:=zH B;clear U hp1 K P F M B a6 hk;go_upto_region 14 with fail
  go_wp2_with fail
  refine Zz.mono ?_;rintro r w4 ⟨X,K,R,rfl,a4,F,P⟩;have YP:=a.1.kp.grown P.grown (aG b4);have f4:=YP.frozen 1;have an:w4.cell? ⟨gp,1,none⟩=some (.slice none 0 0):=YP.cell 1;have B:=zH (zA P (zA F (zA YP a4)));clear P F YP a4 Zz z0 z1 z2 z3 z4 z5;have a4:=B.1.st.Vo B.2.2.1 c8 (by decide) 1 (.slice X K R);have ad:iC d D (.slice A k c) bs (w4.setCell ⟨gp,1,none⟩ (.slice X K R)):=(a.1.pl.grown B.1.grown H).grown (cO (zF8 _ _)) ar;have a8:=(a.1.kq.grown B.1.grown (aG (show N≠b by omega))).far (p:=⟨gp,1,none⟩) (by show N≠gp;omega) (.slice X K R);have F:=(a.1.kr.grown B.1.grown (aG (show G≠b by omega))).far (p:=⟨gp,1,none⟩) (by show G≠gp;omega) (.slice X K R);have zU:Below w.heap.size w (w4.setCell ⟨gp,1,none⟩ (.slice X K R)):=(a.1.bel.grown B.1.grown a.1.bel.size (λk hk=>by injection hk with hk;omega)).setCell (by show w.heap.size<=gp;omega) _;have aa:=Bf (bV B.2.1 a.2.2) B.2.2.1 (by decide) 1 (.slice X K R)
  have av:Hid (YL b d gp N G D s iv M2 ax (.slice X K R) (.slice A k c) bs #[.slice A1 k Y,.slice A2 J c2,ax,win,E,ka] w (w4.setCell ⟨gp,1,none⟩ (.slice X K R))/\(w4.setCell ⟨gp,1,none⟩ (.slice X K R)).ownsRow d 3 1 (.slice X K R) K (dw KS)/\d<=(w4.setCell ⟨gp,1,none⟩ (.slice X K R)).heap.size):=zH
   ⟨⟨a4,ad,B.2.2.1.put 1 _,a8,F,zU⟩,aa,by have:=B.1.grown.size;have:=a.2.2;simp;omega⟩
  have U7:Hid (K=KS.length):=zH B.2.2.2
  have al:M2.items=m.items:=by
   have:=Aj s q.key q.keyAt m;rw[bh.out]at this;exact this
  have P:jS Tj 0:=λb hb p hp=>by
   have:=(Xu.2.2.2 b hb).2 p hp;rw[this.1,this.2];exact⟨zFv _,zFv _⟩
  have bj:Hid (gu s (q.cond.drop 0) (bs.map (fJ D)) M2=(a5,M3)/\M2.items=m.items/\oH (bs.map (fJ D))=oH Tj/\jS (bs.map (fJ D)) 0):=zH ⟨by rw[zFp,pY.out];exact c0.out,al,by rw[pY.out],by rw[pY.out];exact P⟩;have x1:=av.1.kq.cell 1;simp only[zF7,zGe,zGg]at x1
  have c9:J<=200:=by
   have f:=zk q.cond 0;have I:iJ q=aX 0 q.cond:=rfl;have:=a7.2.2.1;have:=b3.out;omega
  clear a4 ad a8 F zU aa al P B a;go_wp2_with fail
  clear x1 f4 an
  go_loopw[63] (λi wr=>∃(t:Nat) (P:MS) (B:List bQ),t<=J/\i=.int .i64 t/\Hid (gu s (q.cond.drop t) (B.map (fJ D)) P=(a5,M3)/\P.items=m.items/\oH (B.map (fJ D))=oH Tj/\jS (B.map (fJ D)) t)/\Hid (YL b d gp N G D s iv P ax (.slice X K R) (.slice A k c) B #[.slice A1 k Y,.slice A2 J c2,ax,win,E,ka] w wr/\wr.ownsRow d 3 1 (.slice X K R) K (dw KS)/\d<=wr.heap.size)) (λi _=>J-(intOf i).toNat)
  case atStart=>exact⟨0,M2,bs,zFj _,rfl,bj,av⟩
  case round=>
   clear bj av;obtain⟨t,P,B,ht,rfl,M,a⟩:=hrel;obtain⟨W,rfl⟩:∃W:World,W=wr:=⟨_,rfl⟩
   by_cases a6:t<J
   ·as_aux_lemma=>
    have a2:t<q.cond.length:=by rw[<-b3.out];exact a6
    obtain⟨g,o,y0,y1,y2,y3,y4,y5,y6,rfl,hg,b1,hc⟩:=Yx.get t a2;have a4:=zFe a2;have U:=M.1;rw[zFk a2]at U;have bo:=wL q.cond 0 _ a4;have ad:=U8.2.1 _ a4;have a3:=Ip.out _ a4;obtain⟨e,he⟩:=zN (q.cond[t])
    rw[he]at b1 U bo ad a3;have O:gu s (q.cond.drop (t+1)) (je s e (B.map (fJ D)) P).1 (je s e (B.map (fJ D)) P).2=(a5,M3):=U;have AY:aF e<=200:=by have I:iJ q=aX 0 q.cond:=rfl;have:=a7.2.2.1;omega
    have an:mM (λg=>g<d/\g≠b) W e [y0,y1,y2,y3,y4,y5,y6]:=b1.keep λg' hP F=>⟨⟨by omega,by omega⟩,a.1.bel.block g' F⟩
    have al:∀y∈P.items,InT (B.map (fJ D)) y:=λy hy=>by
     rw[M.2.1]at hy;exact(Xu.2.1 y hy).sh M.2.2.1
    have ao:InT (B.map (fJ D)) Nh:=by
     have hl:0<Tj.length:=by rw[Xu.1,zFr];exact U8.2.2.2.2.2.2
     exact InT.sh M.2.2.1 ⟨Tj[0],zAg hl,(Xu.2.2.2 _ (zFe hl)).1⟩
    have b7:P.items.length<=1000:=by rw[M.2.1];have:=bw.out;omega
    have aa:=RH b d d D gp s iv P (ax:Int) (.slice X K R) (.slice A k c) B (B.map (fJ D)) e [y0,y1,y2,y3,y4,y5,y6] W a.1.st H H ar a.2.2 a.1.pl a.1.kp an rfl b7 (uI e ad a3) (uJ e ad) (by omega) (by have:=uK e;omega) al ao (YO M.2.2.1 λb hb=>(Xu.2.2.2 b hb).1) (λb hb p hp=>by have:=M.2.2.2 b hb p hp;exact⟨by omega,by omega⟩);have a8:=Du s e (B.map (fJ D)) P t M.2.2.2;obtain⟨⟨ci,Mn⟩,b9⟩:∃z,je s e (B.map (fJ D)) P=z:=⟨_,rfl⟩
    rw[b9]at aa O a8;simp only[]at aa;have bl:=zH aa;have BB:=zH (zA O a8)
    have F:∀(j:Nat) (u:Value),[y0,y1,y2,y3,y4,y5,y6][j]? =some u->W.cell? ⟨g,o+t*7+j,none⟩=some u:=λj u hu=>by
     have f:=hc j u hu;rw[<-zJb]at f;exact(bK a.1.bel g _ hg).trans f
    have r0:W.cell? ⟨g,o+t*7,none⟩=some y0:=F 0 _ rfl;have r1:W.cell? ⟨g,o+t*7+1,none⟩=some y1:=F 1 _ rfl;have r2:W.cell? ⟨g,o+t*7+2,none⟩=some y2:=F 2 _ rfl;have r3:W.cell? ⟨g,o+t*7+3,none⟩=some y3:=F 3 _ rfl;have r4:W.cell? ⟨g,o+t*7+4,none⟩=some y4:=F 4 _ rfl;have r5:W.cell? ⟨g,o+t*7+5,none⟩=some y5:=F 5 _ rfl;have r6:W.cell? ⟨g,o+t*7+6,none⟩=some y6:=F 6 _ rfl;have x1:=a.1.kq.cell 1;simp only[zF7,zGe,zGg]at x1;clear b1 hc F U bo ad a3 he O AY an al ao b7 aa a8 b9 a4 hg;go_wp2_with fail
    refine bl.mono ?_;rintro r w6 ⟨rfl,FH,F⟩
    have rU:Below w.heap.size w w6:=by
     have hb:=a.1.bel;exact⟨F.fr.os.trans hb.os,F.fr.tape.trans hb.tape,F.fr.output.trans hb.output,zFi hb.size F.fr.size,λq hq=>(F.fr.block q (by have:=hb.size;omega) (by omega) (a.1.pl.low (by omega))).trans (hb.block q hq)⟩
    have Vx:=(F.fr.block N a.1.kq.lt (by omega) (a.1.pl.yj a.1.kq (by decide) (by decide) (by decide))).trans a.1.kq;have Vy:=(F.fr.block G a.1.kr.lt (by omega) (a.1.pl.low (by omega))).trans a.1.kr
    have a4:w6.ownsRow d 3 1 (.slice X K R) K (dw KS):=by
     refine⟨a.2.1.1,?_⟩;rcases a.2.1.2 with h0|⟨g',aa,a8,hv,a9,hh,hx⟩
     ·exact .inl h0
     have af:Bk W g' 3 a8:=hh;exact .inr ⟨g',aa,a8,hv,a9,(F.fr.block g' af.lt (by omega) (a.1.pl.yj af (by decide) (by decide) (by decide))).trans hh,hx⟩
    have iW:Hid (YL b d gp N G D s iv Mn ax (.slice X K R) (.slice A k c) FH #[.slice A1 k Y,.slice (some ⟨g,o,none⟩) J c2,ax,win,E,ka] w w6/\w6.ownsRow d 3 1 (.slice X K R) K (dw KS)/\d<=w6.heap.size):=zH
     ⟨⟨F.st,F.pl,F.kp,Vx,Vy,rU⟩,a4,by have:=F.fr.size;have:=a.2.2;omega⟩
    have ap:Hid (gu s (q.cond.drop (t+1)) (FH.map (fJ D)) Mn=(a5,M3)/\Mn.items=m.items/\oH (FH.map (fJ D))=oH Tj/\jS (FH.map (fJ D)) (t+1)):=zH (by
     rw[F.tr]
     exact⟨BB.1,BB.2.2.2.trans M.2.1,BB.2.1.trans M.2.2.1,BB.2.2.1⟩)
    clear F rU Vx Vy a4 BB bl a M r0 r1 r2 r3 r4 r5 r6 x1;go_wp2
    go_roundw
    case rel=>exact⟨t+1,Mn,FH,by omega,by go_num,ap,iW⟩
    case measure=>simp[intOf];omega
   
   obtain rfl:t=J:=by omega
   have U:=M.1;rw[zFq (by rw[<-b3.out];exact zFv _)]at U;have U:(B.map (fJ D),P)=(a5,M3):=U;injection U with hp3 hm3
   subst hm3;have a8:=zH hp3;have e3:=a.1.st.c3;clear U hp3 M a6 ht
   by_cases h0:P.err=0
   case neg=>
    have jA:((P.err:Int) !=0)=true:=by rw[zG1];omega
    have Z:=ag.out;rw[zF3 h0]at Z;injection Z with f I
    injection I with I h3
    subst f;subst I;subst h3;go_upto_region 21 with fail
    have c4:=a.1.st.c4;have c3:=e3;have F:=a.1.st;have k3:=a.1.kr;have a4:G≠b:=by omega
    have bp:=a.1.kr.lt;clear h0 ag e3 jA
    refine Go.Proofs.YtbjnhllkdilpfaaGreat.wr 9 (some G) [.is (.agg #[(), .slice none 0 0, .slice none 0 0]),
      .is (.pointer (some ⟨b,0,none⟩)),
      .is (.pointer (some ⟨b,0,none⟩)),
      .is (.pointer (some ⟨b,4,none⟩)),
      .is (.int .i64 (P.pos:Nat)),
      .is (.pointer (some ⟨b,0,none⟩)),
      .is (.pointer (some ⟨b,0,none⟩)),
      .is (.pointer (some ⟨b,3,none⟩)),
      .is (.int .i64 (P.err:Nat)),
      .st (λv W=>Bk W G 29 #[(),"",""]) (λv w w2 hb h=>h.old hb),
      .is (.int .i64 (P.pos:Nat)),
      .is (.int .i64 (P.err:Nat))] [0,9] (by kernel_rfl) (by kernel_rfl) (by kernel_rfl)
      (λC=>.c (ay.z (rG _) [] [] (by kernel_rfl) λqK qa wr hB qO qF hK=>?_) <|
      .c (ay.x (rG _) C rfl (λ_ _=>rfl)) <|
      .c (ay.x (rG _) C rfl (λ_ _=>rfl)) <|
      .c (ay.x (rG _) C rfl (λ_ _=>rfl)) <|
      .c (ay.x (rG _) C rfl (λwr hG=>by
      have c4:wr.cell? ⟨b,4,none⟩=some (.int .i64 (P.pos:Nat)):=(F.bk.grown hG (aG (by omega))).cell 4
      exact bH (lD (by assumption)))) <|
      .c (ay.x (rG _) C rfl (λ_ _=>rfl)) <|
      .c (ay.x (rG _) C rfl (λ_ _=>rfl)) <|
      .c (ay.x (rG _) C rfl (λ_ _=>rfl)) <|
      .c (ay.x (rG _) C rfl (λwr hG=>by
      have c3:wr.cell? ⟨b,3,none⟩=some (.int .i64 (P.err:Nat)):=(F.bk.grown hG (aG (by omega))).cell 3
      exact bH (lD (by assumption)))) <|
      .c (ay.g [0] [4] (by kernel_rfl) λqK qa wr hB qO qF hK=>?_) <|
      .c (ay.x (rG _) C rfl (λ_ _=>rfl)) <|
      .c (ay.x (rG _) C rfl (λ_ _=>rfl)) <| .nil) ?_
    ·clear qO qF;go_simp;exact hK _ _ zR rfl
    ·have e4:qa.tmps[4]? =some (.pointer (some ⟨G,0,none⟩)):=qO.1.trans rfl;have h:=aA qF.1 rfl rfl;clear qO qF;exact Bl lV _ _ rfl (sQ (by assumption)) [.int .i64 0,.slice none 0 0,.slice none 0 0] (sQ (by assumption)) (k3.old hB) rfl rfl rfl (λw9 p9=>hK _ _ ((below_grown hB _).trans p9.grown) (zK5 p9.size.symm) p9.bk)
    intro qx wr hG Z;have r9:(λv W=>Bk W G 29 #[(),"",""]) (qx 9) wr:=Z 9 rfl rfl;clear Z;simp only[bJ,zF0,zGb,zF1,zFp,zFd,zFh,zF4,Act.put,zFf,zFw,zFx];generalize qx 9=aa at r9⊢;refine zM ?_;clear k3 c3 c4;have h:Hid (Below w.heap.size w wr):=zH (a.1.bel.grown hG a.1.bel.size (λk hk=>by injection hk with hk;omega));clear hG;go_wp2
    obtain⟨u0,u1,u2⟩:=zc3 r9;refine zFg (v:=.tuple #[.agg #[(),"",""],.int .i64 (P.pos:Nat),.int .i64 (P.err:Nat)]) (by simp[results,results16,go_sem,u0,u1,u2]) rfl ?_;exact⟨_,rfl,iV.zero _ _ _,h.out⟩
   case pos=>
    as_aux_lemma=>
    have jA:((P.err:Int) !=0)=false:=by rw[zG0];omega
    have Z:=ag.out;rw[zF2 (by omega)]at Z;injection Z with f I
    injection I with I h3
    obtain⟨k0,k1,k2⟩:=zc3 a.1.kp;simp only[zF7,zGe,zGg]at k0 k1 k2;have kr:=a.1.kr;have F:=zH f;subst I;subst h3;clear h0 ag f;go_wp2_with (first|(refine ae lV rfl _ _ rfl rfl [.int .i64 ax,.slice X K R,.slice A k c] rfl kr rfl rfl rfl ?_;intro w9 p9))
    have u0:=p9.bk.cell 0;have u1:=p9.bk.cell 1;have u2:=p9.bk.cell 2
    have h:Hid (iV D w.heap.size PT (.agg #[ax,.slice X K R,.slice A k c]) w9/\Below w.heap.size w w9):=zH
     ⟨⟨.slice X K R,.slice A k c,B,by rw[<-F.out,HQ.1],by rw[<-F.out];show w9.ownsRow _ _ _ _ KS.length _;rw[<-U7.out];exact bV (ik a.2.1 p9.grown (by omega)) (by omega),(a.1.pl.grown p9.grown (by omega)).mono (by omega),by rw[<-F.out];exact a8.out⟩,p9.below _ _ a.1.bel aq⟩
    clear p9 k0 k1 k2 kr;refine zFg (v:=.tuple #[.agg #[ax,.slice X K R,.slice A k c],(),()]) (by simp[results,results16,go_sem,u0,u1,u2]) rfl ?_;exact⟨_,rfl,h.1,h.2⟩
structure QB (q:di):Prop where
 bd:∀e∈q.cond,gm e
 br:q.branches.length<=1000
 cd:q.cond.length<=100000
 st:q.aS<=1000
 win:q.window<=9223372036854775807
 it:∀l∈q.branches,l.length<=1000
 nd:iJ q<=1000000
def jH (s:ai) (tx:Str):qg×Bool:=
 if(jK tx).2.2≠0 then(yt,false)else((kZ s (jK tx).1).1,(kZ s (jK tx).1).2.2==0)
def Vz (D:Nat) (s:ai) (tx:Str) (w:World) (e:Ending) (w':World):Prop:=
 ∃pv:Value,e=.returned (.tuple #[pv,.bool (jH s tx).2])/\iV D w.heap.size (jH s tx).1 pv w'/\Below w w w'
theorem iV.form {D B:Nat} {t:qg} {v:Value} {W:World} (h:iV D B t v W):∃(a d:Option Addr) (f e c b:Nat),v=.agg #[t.aS,.slice a f c,.slice d e b]:=by
 obtain⟨g,bv,bs,rfl,e,f,_⟩:=h;obtain⟨a,c,rfl,_⟩:=aK e;obtain⟨d,b,rfl,_⟩:=aK f.dJ;exact⟨a,d,_,_,c,b,rfl⟩
theorem iV.old {D B:Nat} {t:qg} {v:Value} {W W':World} (h:iV D B t v W) (hb:Below W W W'):iV D B t v W':=by
 obtain⟨a,bv,bs,b,c,d,e⟩:=h;exact⟨a,bv,bs,b,aT c hb,d.old hb,e⟩
theorem iV.mono {D B B':Nat} {t:qg} {v:Value} {W:World} (h:iV D B t v W) (a:B'<=B):iV D B' t v W:=by
 obtain⟨b,bv,bs,c,d,e,f⟩:=h;exact⟨b,bv,bs,c,bV d a,e.mono a,f⟩
theorem iV.grown {D B b:Nat} {t:qg} {v:Value} {W W':World} (h:iV D B t v W) (a:W.grownBy W' (some b)) (hb:b<B):iV D B t v W':=by
 obtain⟨c,bv,bs,d,e,f,g⟩:=h;exact⟨c,bv,bs,d,ik e a hb,f.grown a hb,g⟩
theorem Dv (D:Nat) (hD:200<=D) (s:ai) (d:ByteArray) (w:World) (hs:s.ok w w.heap.size) (I:(jK d.toList).2.2=0->QB (jK d.toList).1):
  Calls prog 5 #[s.val,d] w (Vz D s d.toList w):=by
 have HS:=zH hs;have p:Hid (∀W:World,Calls prog 15 #[d] W (G6 d.toList W)):=zH λW=>parse_any d W
 unfold G6 at p;obtain⟨⟨q,ap,K⟩,b⟩:∃z,jK d.toList=z:=⟨_,rfl⟩
 rw[b]at p I;simp only[]at p I;obtain⟨⟨PT,OK⟩,a⟩:∃z,jH s d.toList=z:=⟨_,rfl⟩
 have h:(if K≠0 then(yt,false)else((kZ s q).1,(kZ s q).2.2==0))=(PT,OK):=by
  rw[<-a];unfold jH;rw[b]
 have M:=zH h;have R:=zH I;unfold Vz;rw[a];simp only[];unfold ai.val;clear hs b a h I
 go_enter func5,ntmps5
 go_upto_region 1 with fail
 have r:=Bk.new w 25 #[.slice s.ta s.types.length s.tc,.slice s.sa s.syms.length s.sc];have b:Below w w (w.alloc (.cells #[.slice s.ta s.types.length s.tc,.slice s.sa s.syms.length s.sc] 25)):=zR.alloc zL _;obtain⟨l,f⟩:=zN (w.alloc (.cells #[.slice s.ta s.types.length s.tc,.slice s.sa s.syms.length s.sc] 25))
 rw[f]at r b⊢;have i:=Bk.new l 29 #[(),"",""];have n:Below l l (l.alloc (.cells #[(),"",""] 29)):=zR.alloc zL _;obtain⟨H,m⟩:=zN (l.alloc (.cells #[(),"",""] 29))
 rw[m]at i n⊢;have e:l.heap.size=w.heap.size+1:=by rw[<-f];simp
 have k:=b.trans (n.mono b.size);rw[e]at i;have t:=r.old n;have o:=i.lt;obtain⟨L,c⟩:=zN (w.heap.size+1)
 rw[c]at i⊢;have j:w.heap.size<=L:=by omega
 obtain⟨Q,g⟩:=zN w.heap.size
 rw[g]at t⊢;have a:Hid (Bk H Q 25 #[.slice s.ta s.types.length s.tc,.slice s.sa s.syms.length s.sc]/\Bk H L 29 #[(),"",""]/\Below w w H):=zH ⟨t,i,k⟩;have Yu:=zH g;clear r b f i n m e k t o c g;go_wp2_with fail
 refine(p.out H).mono ?_;rintro r g ⟨G,cs,rfl,A,⟨bv,wv,rfl,c,f⟩,i⟩;obtain⟨vs,F,B⟩:=id c;obtain⟨C,E,rfl,-⟩:=aK F;obtain⟨P,m,o⟩:=id f;obtain⟨t,x,rfl,-⟩:=aK m;have u:=o.len.1;obtain⟨y,e⟩:=zN q.branches.length
 obtain⟨n,k⟩:=zN P.length
 rw[e]at c;rw[k]at f u;have HN:=zH (zA e u);have b:Hid (Bk g Q 25 #[.slice s.ta s.types.length s.tc,.slice s.sa s.syms.length s.sc]/\Bk g L 29 #[(),"",""]/\Below w w g/\lK G g (.slice C y E) q.branches/\zS G g (.slice t n x) q.cond):=zH ⟨a.1.old i,a.2.1.old i,a.2.2.trans (i.mono a.2.2.size),c,f⟩;unfold di.cells ja;rw[e,k];clear c f F B m o u e k i p a A;obtain⟨ax,f⟩:=zN q.aS
 obtain⟨win,e⟩:=zN q.window
 obtain⟨A,a⟩:=zN (bytes q.key)
 obtain⟨ka,c⟩:=zN q.keyAt
 have N:=zH (zA f (zA e (zA a c)));rw[f,e,a,c];clear f e a c;go_upto_region 2 with(first|(refine ae nZ rfl _ _ rfl rfl [.slice C y E,.slice t n x,.int .i64 ax,.int .i64 win,.string A,.int .i64 ka] rfl (Bk.new g _ _) rfl rfl rfl ?_;intro w2 p2;go_frame))
 have c:Below g g w2:=p2.below _ _ (zR.alloc zL _) zL;have f:=p2.bk;obtain⟨gq,e⟩:=zN g.heap.size
 rw[e]at f⊢;have a:Hid (Bk w2 Q 25 #[.slice s.ta s.types.length s.tc,.slice s.sa s.syms.length s.sc]/\Bk w2 L 29 #[(),"",""]/\Below w w w2/\lK G w2 (.slice C y E) q.branches/\zS G w2 (.slice t n x) q.cond/\Bk w2 gq 52 #[.slice C y E,.slice t n x,ax,win,A,ka]):=zH ⟨b.1.old c,b.2.1.old c,b.2.2.1.trans (c.mono b.2.2.1.size),b.2.2.2.1.old c,b.2.2.2.2.old c,f⟩;clear c f e p2 b
 by_cases e:K=0
 case neg=>
  as_aux_lemma=>
  have eI:((K:Int) !=0)=true:=by rw[zG1];omega
  have h:=M.out;rw[zF3 e]at h;injection h with h1 h2
  subst h1;subst h2;have J:=a.2.1;clear e M;go_wp2_with (first|(refine ae lV rfl _ _ rfl rfl [.int .i64 0,.slice none 0 0,.slice none 0 0] rfl J rfl rfl rfl ?_;intro Z k))
  obtain⟨u0,u1,u2⟩:=zc3 k.bk;refine zFg (v:=.tuple #[.agg #[(),"",""],.bool false]) (by simp[results,results5,go_sem,u0,u1,u2]) rfl ?_;exact⟨_,rfl,iV.zero _ _ _,k.below _ _ a.2.2.1 j⟩
 case pos=>
  as_aux_lemma=>
  have eI:((K:Int) !=0)=false:=by rw[zG0];omega
  have h:=M.out;rw[zF2 (by omega)]at h;have b:=R.out e;have B:=zH (Vt D hD s q C t y n E x G w2 ((HS.jQ a.2.2.1).more a.2.2.1.size) a.2.2.2.1 a.2.2.2.2.1 b.bd ⟨by have:=HN.1;have:=b.br;omega,by have:=HN.2;have:=b.cd;omega⟩ b.st b.win b.it b.nd);unfold Vm ai.val di.cells ja at B;obtain⟨⟨i,MA,ME⟩,c⟩:∃z,kZ s q=z:=⟨_,rfl⟩
  rw[c,N.1,N.2.1,N.2.2.1,N.2.2.2]at B;rw[c]at h;injection h with h1 h2
  subst h1;have vV:=zH h2;simp only[]at B;have y0:=a.1.cell 0;have X:=a.1.cell 1;obtain⟨z0,S,z2,z3,z4,z5⟩:=zc6 a.2.2.2.2.2;simp only[zF7,zGe,zGg]at y0 X z0 S z2 z3 z4 z5;clear e M b c h2;go_wp2_with fail
  refine B.mono ?_;rintro r O ⟨pv,rfl,f,c⟩;obtain⟨F,z,p,m,u,o,rfl⟩:=f.form;have b:=zH (zA f (zA (a.2.1.old c) (a.2.2.1.trans (c.mono a.2.2.1.size))));have U:w.heap.size<=O.heap.size:=b.2.2.size;have a0:=b.2.1.lt;have Y:=a.2.1.lt;clear f c B y0 X z0 S z2 z3 z4 z5;go_upto_region 5 with(first|(refine ae lV rfl _ _ rfl rfl [.int .i64 i.aS,.slice F p u,.slice z m o] rfl (Bk.new O _ _) rfl rfl rfl ?_;intro S B;go_frame))
  have c:Below O O S:=B.below _ _ (zR.alloc zL _) zL;have J:=b.2.1.old c;obtain⟨v0,v1,v2⟩:=zc3 B.bk;simp only[zF7,zGe,zGg]at v0 v1 v2;have ZW:Hid (iV D w2.heap.size i (.agg #[i.aS,.slice F p u,.slice z m o]) S/\Below w w S):=zH ⟨b.1.old c,b.2.2.trans (c.mono U)⟩;have X:=vV.out;have f:w.heap.size<=w2.heap.size:=a.2.2.1.size;clear c B b a vV;go_wp2_with (first|(refine ae lV rfl _ _ rfl rfl [.int .i64 i.aS,.slice F p u,.slice z m o] rfl J rfl rfl rfl ?_;intro Z k))
  obtain⟨u0,u1,u2⟩:=zc3 k.bk;have b:Hid (iV D w.heap.size i (.agg #[i.aS,.slice F p u,.slice z m o]) Z/\Below w w Z):=zH ⟨(ZW.1.grown k.grown Y).mono f,k.below _ _ ZW.2 j⟩;clear k v0 v1 v2 J;refine zFg (v:=.tuple #[.agg #[i.aS,.slice F p u,.slice z m o],.bool OK]) (by simp[results,results5,go_sem,u0,u1,u2,X]) rfl ?_;exact⟨_,rfl,b.1,b.2⟩
end Go.Proofs.YtbjnhllkdilpfaaGreat
