/- Part 6 of the proof. No conditions. -/
import Derived.Test.YtbjnhllkdilpfaaGreatZf05
set_option linter.unusedVariables false
set_option linter.unusedSimpArgs false
set_option maxRecDepth 100000
set_option maxHeartbeats 16000000
namespace Go.Proofs.YtbjnhllkdilpfaaGreat
open Go.RowKit _root_.Go.Proofs.Tryz
theorem JC (b g a d e c f:Value) (w:World):(Instr.buildSlice 59 1 #[(0,.agg #[b,g,a,d,e,c,f])]).run prog w=.ok (.slice (some ⟨w.heap.size,0,none⟩) 1 1) (w.alloc (.cells #[b,g,a,d,e,c,f] 122)):=by kernel_rfl
theorem aB {a:Act} {d:Nat} {v:Value} (h:a.tmps[d]? =some v):a.eval (.tmp d)=v:=by simp[Act.eval,h]
theorem nX {w:World} {o:Oper} {a:Act} {K:Act->World->Prop} {Q:Exit->Act->World->Prop} {c i b e f d g:Value} (x:Operand) (j:o.op=.buildSlice 59 1 #[(0,x)]) (k:a.eval x=.agg #[c,i,b,e,f,d,g])
  (h:K (a.put o.dst (.slice (some ⟨w.heap.size,0,none⟩) 1 1)) (w.alloc (.cells #[c,i,b,e,f,d,g] 122))):o.wp prog a w K Q:=by
 unfold Oper.wp execOp;simp only[j,zHp,zGq,zHc,k,zH5,JC,Result.andThen_ok,Sem.run_pure];exact h
theorem tJ {w:World} {ops:Array Oper} {b:List Oper} {o:Oper} {a:Act} {Q:Exit->Act->World->Prop} {e k d g i f j:Value} (c:o.guard=none) (x:Operand) (l:o.op=.buildSlice 59 1 #[(0,x)]) (m:a.eval x=.agg #[e,k,d,g,i,f,j])
  (h:wpList prog ops Q b (a.put o.dst (.slice (some ⟨w.heap.size,0,none⟩) 1 1)) (w.alloc (.cells #[e,k,d,g,i,f,j] 122))):wpList prog ops Q (o::b) a w:=
 zH8 c λ_ n=>nX x l m (n _ _ h)
def Q3 (w:World) (S:Nat->Prop) (A:Option Addr) (cs:List Value):Prop:=
 cs=[]\/∃b o,A=some ⟨b,o,none⟩/\S b/\b<w.heap.size/\∀(j:Nat) (u:Value),cs[j]? =some u->w.cell? ⟨b,o+j,none⟩=some u
def okS (S:Nat->Prop):Nat->ah->World->Prop
 |0,_,_=>False
 |d+1,.mk op kind A c args vk vb pos a,w=>Q3 w S A (args.flatMap ah.cells)/\args.length<=1048576/\vb<18446744073709551616/\∀x∈args,okS S d x w
theorem Q3.rd {w:World} {S:Nat->Prop} {A:Option Addr} {cs:List Value} (h:Q3 w S A cs):Rd w w.heap.size A cs:=by
 rcases h with h|⟨b,o,a,_,d,c⟩
 ·exact .inl h
 exact .inr ⟨b,o,a,d,c⟩
theorem okS.n {w:World} {S:Nat->Prop}:∀{d:Nat} {n:ah},okS S d n w->yT d n w w.heap.size
 |0,_,h=>h
 |d+1,.mk ..,h=>⟨h.1.rd,h.2.1,h.2.2.1,λx a=>(h.2.2.2 x a).n⟩
theorem Q3.keep {w w':World} {S S':Nat->Prop} {A:Option Addr} {cs:List Value} (h:Q3 w S A cs) (e:∀b,S b->b<w.heap.size->S' b/\b<w'.heap.size/\w'.heap[b]? =w.heap[b]?):Q3 w' S' A cs:=by
 rcases h with h|⟨b,o,d,l,g,f⟩
 ·exact .inl h
 obtain⟨a,k,c⟩:=e b l g;exact .inr ⟨b,o,d,a,k,λj u i=>by rw[<-f j u i];simp[World.cell?,c]⟩
theorem okS.keep {w w':World} {S S':Nat->Prop} (a:∀b,S b->b<w.heap.size->S' b/\b<w'.heap.size/\w'.heap[b]? =w.heap[b]?):∀{d:Nat} {n:ah},okS S d n w->okS S' d n w'
 |0,_,h=>h
 |d+1,.mk ..,h=>⟨h.1.keep a,h.2.1,h.2.2.1,λx c=>okS.keep a (h.2.2.2 x c)⟩
theorem gX {w:World} {base e a n:Nat} {A:Option Addr} {c:Nat} {xs:List Value} (h:w.ownsRow base e a (.slice A n c) n xs):Q3 w (λb=>base<=b) A xs:=by
 have f:=fM h;rcases h.2 with⟨r,p⟩|⟨g,j,i,m,hb,q,_⟩
 ·subst p;exact .inl (zHa (by simpa using h.1))
 have d:A=some ⟨g,0,none⟩:=by injection m
 subst d;rcases f with f|⟨b,o,d,l,k⟩
 ·exact .inl f
 have:g=b:=by injection d with d;injection d
 subst this;exact .inr ⟨_,_,d,hb,l,k⟩
def Nu:Nat->ah->ah->Prop
 |0,_,_=>False
 |d+1,.mk op kind _ _ args vk vb pos a,.mk op' kind' _ _ args' vk' vb' pos' a'=>op=op'/\kind=kind'/\vk=vk'/\vb=vb'/\pos=pos'/\a=a'/\args.length=args'.length/\∀(i:Nat) (x y:ah),args[i]? =some x->args'[i]? =some y->Nu d x y
theorem JD:(prog.info? 122).map (λi=>(i.zero,i.size,i.bytes))=some (some (.agg #[(),(),"",(),.int .u64 0,(),()]),7,72):=by kernel_rfl
def wI (d:Nat) (l:List ah) (w:World) (e:Ending) (w':World):Prop:=
 ∃(A':Option Addr) (c':Nat) (l':List ah),e=.returned (.slice A' l.length c')/\l'.length=l.length/\(∀(i:Nat) (x y:ah),l[i]? =some x->l'[i]? =some y->Nu d x y)/\
  w'.ownsRow w.heap.size 122 7 (.slice A' l.length c') l.length (l'.flatMap ah.cells)/\(∀y∈l',okS (λb=>w.heap.size<=b/\some b≠(Value.slice A' l.length c').ownBlock) d y w')/\Below w w w'
theorem Fg (d:Nat) (ih:∀F,F+1=d->∀(l:List ah) (A:Option Addr) (c:Nat) (w:World),(∀x∈l,yT F x w w.heap.size)->Rd w w.heap.size A (l.flatMap ah.cells)->l.length<=1048576->Calls prog 23 #[.slice A l.length c] w (wI F l w))
  (l:List ah) (A:Option Addr) (c:Nat) (w:World) (M:∀x∈l,yT d x w w.heap.size) (hr:Rd w w.heap.size A (l.flatMap ah.cells)) (hl:l.length<=1048576):Calls prog 23 #[.slice A l.length c] w (wI d l w):=by
 obtain⟨iN,hN,a3,a4,ZC⟩:=zG4 JD;have HA:=zH M;have xJ:=zH hr;have HI:=zH ih;clear M hr ih
 go_enter func23,ntmps23
 go_wp2_with fail
 go_loopw [3, 8] (λe i wr => ∃ (k : Nat) (L : Option Addr) (K : Nat) (v : List ah), k ≤ l.length ∧ i = .int .i64 k ∧ e = .slice L k K ∧ Below w w wr ∧ v.length = k ∧ Hid (∀ (i : Nat) (x y : ah), l[i]? = some x → v[i]? = some y → Nu d x y) ∧
   wr.ownsRow w.heap.size 122 7 e k (v.flatMap ah.cells)/\Hid (∀y∈v,okS (λb=>w.heap.size<=b/\some b≠e.ownBlock) d y wr)) (λ_ i _=>l.length-(intOf i).toNat)
 case atStart=>exact⟨0,none,0,[],zFj _,rfl,rfl,zGp _ _,rfl,zH (by intro i x y _ h;simp at h),zGs _ _ _ _,zH (by simp)⟩
 case round=>
  obtain⟨k,L,K,v,hk,rfl,rfl,r,a2,UN,j,UO⟩:=hrel
  by_cases R:k<l.length
  ·as_aux_lemma=>
   obtain⟨b,o,rfl,hb,e⟩:=(xJ.below r).elem (f:=ah.cells) (n:=7) ah.len (by omega) R;have J:=HA.out l[k] (by simp);have p:l[k]? =some l[k]:=zAg R;generalize l[k]=x at *;obtain⟨op,kind,O,c2,g,vk,vb,pos,a⟩:=x;have I:wr.cell? ⟨b,o+k*7,none⟩=some (.int .i64 op):=e 0 _ rfl;have P:wr.cell? ⟨b,o+k*7+1,none⟩=some (.int .i64 kind):=e 1 _ rfl;have C:wr.cell? ⟨b,o+k*7+2,none⟩=some (.slice O g.length c2):=e 2 _ rfl;have H:wr.cell? ⟨b,o+k*7+3,none⟩=some (.int .i64 vk):=e 3 _ rfl;have D:wr.cell? ⟨b,o+k*7+4,none⟩=some (.int .u64 vb):=e 4 _ rfl;have t:wr.cell? ⟨b,o+k*7+5,none⟩=some (.int .i64 pos):=e 5 _ rfl;have Q:wr.cell? ⟨b,o+k*7+6,none⟩=some (.int .i64 a):=e 6 _ rfl;clear e
   obtain⟨F,rfl⟩:∃F,d=F+1:=by
    cases d with
    |zero=>exact J.elim
    |succ F=>exact⟨F,rfl⟩
   have JE:Below w w (wr.alloc (.cells #[op,kind,.slice O g.length c2,vk,.int .u64 vb,pos,a] 122)):=r.alloc r.size _;have e:=yT.old J JE;have m:=HI.out F rfl g O c2 (wr.alloc (.cells #[op,kind,.slice O g.length c2,vk,.int .u64 vb,pos,a] 122)) e.2.2.2 e.1 e.2.1;have a1:=J.2.2.1;have a6:=J.2.1;have S:=zH m;have UE:=zH p;have hz:=r.size;clear m J e p HI;go_wp2_with fail
   refine S.mono ?_;rintro e B ⟨s,c3,N,rfl,Z,JF,z,vY,E⟩;have W:(wr.alloc (.cells #[op,kind,.slice O g.length c2,vk,.int .u64 vb,pos,a] 122)).heap.size=wr.heap.size+1:=by simp
   rw[W]at z vY E;have U:Bk B wr.heap.size 122 #[op,kind,.slice O g.length c2,vk,.int .u64 vb,pos,a]:=(Bk.new wr 122 #[op,kind,.slice O g.length c2,vk,.int .u64 vb,pos,a]).below E (by omega);have JG:=j.alloc (.cells #[op,kind,.slice O g.length c2,vk,.int .u64 vb,pos,a] 122);have G:B.ownsRow w.heap.size 122 7 (.slice L k K) k (v.flatMap ah.cells):=own_below JG E (λq hq=>by have:=(j.lt q hq).2;omega);have JH:Below w w B:=JE.trans (E.mono (by omega));have a7:=U.lt;clear S I P C H D t Q;obtain⟨x0,x1,x2,x3,x4,x5,x6⟩:=zc7 U;have f2:=U.frozen 2;have ky:Bk (B.setCell ⟨wr.heap.size,2,none⟩ (.slice s g.length c3)) wr.heap.size 122 #[op,kind,.slice s g.length c3,vk,.int .u64 vb,pos,a]:=U.put 2 _;obtain⟨y0,y1,y2,y3,y4,y5,y6⟩:=zc7 ky;simp at x0 x1 x2 x3 x4 x5 x6 y0 y1 y2 y3 y4 y5 y6;have a0:some wr.heap.size≠(Value.slice L k K).ownBlock:=λe=>by have:=(j.lt _ e.symm).2;omega
   have t:(B.setCell ⟨wr.heap.size,2,none⟩ (.slice s g.length c3)).ownsRow w.heap.size 122 7 (.slice L k K) k (v.flatMap ah.cells):=zGw G (λe=>a0 e.symm) _;have rW:Below w w (B.setCell ⟨wr.heap.size,2,none⟩ (.slice s g.length c3)):=JH.setCell hz _
   go_wp2_with (first
    |(refine tJ (by rfl) (.tmp 20) (by rfl) (by rfl) ?_)
    |(at_builtin;refine aU rfl _ _ 59 rfl w.heap.size 122 iN _ 7 72 underlying59 hN a3 a4 ZC rfl (by decide) (.slice L k K) k _ rfl (t.alloc _) ((B.setCell ⟨wr.heap.size,2,none⟩ (.slice s g.length c3)).heap.size+1) (some ⟨(B.setCell ⟨wr.heap.size,2,none⟩ (.slice s g.length c3)).heap.size,0,none⟩) 1 1 (ah.mk op kind s c3 N vk vb pos a).cells rfl ?c1 rfl ?c2 ?c3 ?c4 ?c5 ?_))
   case c1=>
    show Rd _ _ _ [Value.int .i64 op,.int .i64 kind,.slice s N.length c3,.int .i64 vk,.int .u64 vb,.int .i64 pos,.int .i64 a]
    rw[Z];exact Rd.lit rfl _ _
   case c2=>intro u hu;simp[ah.cells]at hu;rcases hu with rfl|rfl|rfl|rfl|rfl|rfl|rfl<;>rfl
   case c3=>unfold maxLen;omega
   case c4=>omega
   case c5=>simp;omega
   intro Q X P iQ hg CU;have a5:((B.setCell ⟨wr.heap.size,2,none⟩ (.slice s g.length c3)).alloc (.cells #[op,kind,.slice s g.length c3,vk,.int .u64 vb,pos,a] 122)).heap.size=B.heap.size+1:=by simp
   have m:∀b:Nat,b<B.heap.size->b≠wr.heap.size->some b≠(Value.slice L k K).ownBlock->b<P.heap.size/\P.heap[b]? =B.heap[b]? :=by
    intro b D H p;refine⟨by have:=hg.size;omega,?_⟩;rw[hg.block b (by omega) p,zJ6 _ _ b (by simpa using D),zGt B _ _ b H]
   have C:∀b:Nat,b<B.heap.size->some b≠(Value.slice L k K).ownBlock->some b≠(Value.slice Q (k+1) X).ownBlock:=by
    intro b D H;rcases CU with h|h
    ·rw[h];exact H
    rw[h];intro p;injection p with p;omega
   have I:∀b:Nat,wr.heap.size+1<=b->some b≠(Value.slice L k K).ownBlock:=λb D e=>by have:=(j.lt _ e.symm).2;omega
   have UQ:okS (λb=>w.heap.size<=b/\some b≠(Value.slice Q (k+1) X).ownBlock) (F+1) (.mk op kind s c3 N vk vb pos a) P:=by
    refine⟨(gX z).keep λb D H=>?_,by omega,a1,λy p=>okS.keep (λb D H=>?_) (vY y p)⟩
    ·obtain⟨Y,S⟩:=m b H (by omega) (I b D);exact⟨⟨by omega,C b H (I b D)⟩,Y,S⟩
    obtain⟨Y,S⟩:=m b H (by omega) (I b D.1);exact⟨⟨by omega,C b H (I b D.1)⟩,Y,S⟩
   have JI:∀y∈v++[ah.mk op kind s c3 N vk vb pos a],okS (λb=>w.heap.size<=b/\some b≠(Value.slice Q (k+1) X).ownBlock) (F+1) y P:=by
    intro y p;rcases zFy.1 p with p|p
    ·refine okS.keep (λb D H=>?_) (UO.out y p);obtain⟨Y,S⟩:=m b (by omega) (by omega) D.2;exact⟨⟨D.1,C b (by omega) D.2⟩,Y,by rw[S,E.block b (by omega),zJ6 _ _ b H]⟩
    simp only[zF6,zGi,zHt]at p;subst p;exact UQ
   have Y:∀(i:Nat) (x y:ah),l[i]? =some x->(v++[ah.mk op kind s c3 N vk vb pos a])[i]? =some y->Nu (F+1) x y:=by
    intro i x y J p
    by_cases hi:i<v.length
    ·rw[zGh hi]at p;exact UN.out i x y J p
    rw[zGd (by omega)]at p
    by_cases S:i-v.length=0
    ·rw[S]at p;have H:i=k:=by omega
     rw[H,UE.out]at J;injection J with J
     simp only[zGe,zJ0]at p;subst J;subst p;exact⟨rfl,rfl,rfl,rfl,rfl,rfl,Z.symm,JF⟩
    rw[zG7 (by simp;omega)]at p;cases p
   have UR:Below w w P:=eU (rW.alloc (by simp;omega) _) (t.alloc _) zL hg (by simp;omega)
   have p:P.ownsRow w.heap.size 122 7 (.slice Q (k+1) X) (k+1) ((v++[ah.mk op kind s c3 N vk vb pos a]).flatMap ah.cells):=by
    rw[zGz]
    simpa using iQ
   have H:=zH Y;have S:=zH JI;have iG:(v++[ah.mk op kind s c3 N vk vb pos a]).length=k+1:=by simp;omega
   clear Y JI UQ I C m CU hg iQ t G JG j vY JF z x0 x1 x2 x3 x4 x5 x6 y0 y1 y2 y3 y4 y5 y6 f2 U ky rW JH E W a5;generalize(v++[ah.mk op kind s c3 N vk vb pos a])=m at *;go_wp2
   go_roundw
   case rel=>exact⟨k+1,Q,X,m,by omega,by go_num,rfl,UR,iG,H,p,S⟩
   case measure=>simp[intOf];omega
  as_aux_lemma=>
  obtain rfl:k=l.length:=by omega
  go_wp2_with fail
  go_ret
  exact⟨L,K,v,rfl,a2,UN.out,j,UO.out,r⟩
theorem twin_any:∀(d:Nat) (l:List ah) (A:Option Addr) (c:Nat) (w:World),(∀x∈l,yT d x w w.heap.size)->Rd w w.heap.size A (l.flatMap ah.cells)->l.length<=1048576->Calls prog 23 #[.slice A l.length c] w (wI d l w)
 |0=>Fg 0 (λa h=>by omega)
 |d+1=>Fg (d+1) (λa h=>by obtain rfl:a=d:=(by omega);exact twin_any a)
end Go.Proofs.YtbjnhllkdilpfaaGreat
