/- Part 39 of the proof. No conditions. -/
import Derived.Test.YtbjnhllkdilpfaaGreatZf27
set_option linter.unusedVariables false
set_option linter.unusedSimpArgs false
set_option maxRecDepth 100000
set_option maxHeartbeats 16000000
namespace Go.Proofs.YtbjnhllkdilpfaaGreat
open Go.RowKit _root_.Go.Proofs.Tryz
def wJ (s:ai) (br:Nat):List bn->Nat->Nat->List (Nat×Int)->MS->List (Nat×Int)×MS
 |[],_,_,ps,m=>(ps,m)
 |x::l,i,pos,ps,m=>
  let m1:=if(decide (typeAt s x.type<0)||(ed x.name m.items).2)=true then dI 10 x.pos m else m
  let m2:=if i=0/\x.form=3 then dI 15 x.pos m1 else m1
  wJ s br l (i+1) (if x.form≠3 then pos+1 else pos) (ps++[(x.form,typeAt s x.type)]) ⟨m2.items++[⟨x.name,br,i,pos,x.form,typeAt s x.type⟩],m2.err,m2.pos⟩
def prC (p:Nat×Int):List Value:=[.int .i64 p.1,.int .i64 p.2,.slice none 0 0,.slice none 0 0]
structure vJ (b:Nat) (o:Option Nat) (w w':World):Prop where
 os:w'.os=w.os
 tape:w'.tape=w.tape
 output:w'.output=w.output
 size:w.heap.size<=w'.heap.size
 block:∀k,k<w.heap.size->k≠b->some k≠o->w'.heap[k]? =w.heap[k]?
section
variable {b:Nat} {o:Option Nat} {w w' w2:World}
theorem vJ.below (hb:Below w w w'):vJ b o w w':=⟨hb.os,hb.tape,hb.output,hb.size,λk a _ _=>hb.block k a⟩
theorem vJ.more (h:vJ b o w w') (hb:Below w' w' w2):vJ b o w w2:=⟨hb.os.trans h.os,hb.tape.trans h.tape,hb.output.trans h.output,zFi h.size hb.size,λk a d c=>(hb.block k (zFs a h.size)).trans (h.block k a d c)⟩
theorem vJ.set (h:vJ b o w w') {g:Nat} (e:g=b\/w.heap.size<=g) (i:Nat) (u:Value):vJ b o w (w'.setCell ⟨g,i,none⟩ u):=
 ⟨h.os,h.tape,h.output,by simpa using h.size,λk c a d=>(zGt w' _ _ k (by show k≠g;omega)).trans (h.block k c a d)⟩
theorem vJ.row (h:vJ b o w w') {r:Option Nat} (c:r=o\/∀k,r=some k->w.heap.size<=k) (a:w'.grownBy w2 r):vJ b o w w2:=
 ⟨a.os.trans h.os,a.tape.trans h.tape,a.output.trans h.output,zFi h.size a.size,λk d g f=>(a.block k (zFs d h.size) (by
  rcases c with rfl|c
  ·exact f
  intro e;have:=c k e.symm
  omega)).trans (h.block k d g f)⟩
theorem vJ.st (h:vJ b o w w') (a:w'.grownBy w2 (some b)):vJ b o w w2:=
 ⟨a.os.trans h.os,a.tape.trans h.tape,a.output.trans h.output,zFi h.size a.size,λk d c e=>(a.block k (zFs d h.size) (aG c)).trans (h.block k d c e)⟩
theorem vJ.put (h:vJ b o w w') {g t:Nat} {cs:Array Value} (a:qC w' g t cs w2) (f:w.heap.size<=g):vJ b o w w2:=
 ⟨a.grown.os.trans h.os,a.grown.tape.trans h.tape,a.grown.output.trans h.output,zFi h.size a.grown.size,λk d c e=>(a.other k (by omega)).trans (h.block k d c e)⟩
end
theorem UY:(prog.info? 69).map (λi=>(i.zero,i.size,i.bytes))=some (some (.agg #[(),(),"",""]),4,64):=by kernel_rfl
theorem jR.app {b B:Nat} {s:ai} {i qp:Value} {m:MS} {W W':World} {x:dh} (h:jR b B s i m W) (f:b<B) (c:W'.ownsRow B 151 6 qp (m.items.length+1) (m.items.flatMap dh.cells++x.cells)) (j:W.grownBy W' i.ownBlock):jR b B s qp ⟨m.items++[x],m.err,m.pos⟩ (W'.setCell ⟨b,2,none⟩ qp):=by
 have g:some b≠i.ownBlock:=λe=>by have:=(h.own.lt b e.symm).1;omega
 have d:some b≠qp.ownBlock:=λe=>by have:=(c.lt b e.symm).1;omega
 refine⟨(h.bk.grown j g).put 2 _,h.Eh.jQ ((jP zR h.own (zG5 f) j (zG5 h.bk.lt)).setCell zL _),?_⟩;have:=zGw c (λe=>d e.symm) qp (a:=⟨b,2,none⟩)
 simpa using this
structure Fj (b B:Nat) (s:ai) (iv:Value) (m:MS) (gr gb B1:Nat) (br within:Int) (A:Option Addr) (n c:Nat) (ps:List (Nat×Int)) (PD:Value) (w W:World):Prop where
 st:jR b B s iv m W
 kr:Bk W gr 67 #[(),(),""]
 kb:Bk W gb 67 #[br,within,.slice A n c]
 own:W.ownsRow B1 69 4 (.slice A n c) n (ps.flatMap prC)
 far:vJ b PD.ownBlock w W
 iv:iv.ownBlock=PD.ownBlock\/∀k,iv.ownBlock=some k->w.heap.size<=k
 sz:B1<=W.heap.size
theorem Fj.old {b B:Nat} {s:ai} {j:Value} {m:MS} {d f g:Nat} {i a:Int} {A:Option Addr} {n c:Nat} {ps:List (Nat×Int)} {e:Value} {w W W':World} (h:Fj b B s j m d f g i a A n c ps e w W) (hb:Below W W W'):Fj b B s j m d f g i a A n c ps e w W':=
 ⟨h.st.old hb,h.kr.old hb,h.kb.old hb,aT h.own hb,h.far.more hb,h.iv,zFi h.sz hb.size⟩
theorem Fj.stp {b B:Nat} {s:ai} {j:Value} {m k:MS} {f g i:Nat} {o a:Int} {A:Option Addr} {n c:Nat} {ps:List (Nat×Int)} {l:Value} {w W W':World} (h:Fj b B s j m f g i o a A n c ps l w W) (d:iK b B s j k W W') (hb:b<w.heap.size) (q:f≠b) (e:g≠b) (p:w.heap.size<=i):Fj b B s j k f g i o a A n c ps l w W':=
 ⟨d.st,h.kr.grown d.grown (aG q),h.kb.grown d.grown (aG e),ik h.own d.grown (by omega),h.far.st d.grown,h.iv,zFi h.sz d.grown.size⟩
theorem Fj.item {b B:Nat} {s:ai} {r qp:Value} {m:MS} {l p q:Nat} {u a:Int} {A:Option Addr} {n c:Nat} {ps:List (Nat×Int)} {t:Value} {w W W':World} {x:dh} (h:Fj b B s r m l p q u a A n c ps t w W) (i:b<B) (hb:b<q) (v:l≠b) (j:p≠b)
  (g:W'.ownsRow B 151 6 qp (m.items.length+1) (m.items.flatMap dh.cells++x.cells)) (f:W.grownBy W' r.ownBlock) (o:qp.ownBlock=r.ownBlock\/∀k,qp.ownBlock=some k->w.heap.size<=k):
  Fj b B s qp ⟨m.items++[x],m.err,m.pos⟩ l p q u a A n c ps t w (W'.setCell ⟨b,2,none⟩ qp):=by
 have d:=bU h.own h.st.own (by decide) f;refine⟨h.st.app i g f,(h.kr.grown f (aN h.st.own h.kr (by decide))).far (by exact v) _,(h.kb.grown f (aN h.st.own h.kb (by decide))).far (by exact j) _,zGw d (λe=>by have:=(d.lt b e).1;omega) _,(h.far.row h.iv f).set (.inl rfl) _ _,?_,?_⟩
 ·rcases o with e|e
  ·rw[e];exact h.iv
  exact .inr e
 have:=h.sz;have:=f.size;simp;omega
theorem Fj.part {b B:Nat} {s:ai} {t:Value} {m:MS} {v d j:Nat} {z a:Int} {A p:Option Addr} {n c c':Nat} {ps:List (Nat×Int)} {C:Value} {w W W':World} {x:Nat×Int} (h:Fj b B s t m v d j z a A n c ps C w W) (hb:b<j) (F:v≠d) (u:d≠b) (g:d<j) (E:w.heap.size<=j) (r:w.heap.size<=d) (G:b<w.heap.size)
  (l:W'.ownsRow j 69 4 (.slice p (n+1) c') (n+1) (ps.flatMap prC++prC x)) (f:W.grownBy W' (Value.slice A n c).ownBlock):
  Fj b B s t m v d j z a p (n+1) c' (ps++[x]) C w (W'.setCell ⟨d,2,none⟩ (.slice p (n+1) c')):=by
 have o:∀q,q<j->some q≠(Value.slice A n c).ownBlock:=λq H e=>by have:=(h.own.lt q e.symm).1;omega
 have i:jR b B s t m W':=⟨h.st.bk.grown f (o b hb),h.st.Eh.jQ (jP zR h.own (zG5 hb) f (zG5 h.st.bk.lt)),bU h.st.own h.own (by decide) f⟩
 refine⟨⟨i.bk.far (by exact u.symm) _,?_,Bf i.own ((h.kb.grown f (o d g))) (by decide) _ _⟩,(h.kr.grown f (aN h.own h.kr (by decide))).far (by exact F) _,(h.kb.grown f (o d g)).put 2 _,?_,?_,h.iv,?_⟩
 ·have y:b<=d:=by omega
  exact i.Eh.jQ (zR.setCell y _)
 ·rw[zGz];have:=Bf l (h.kb.grown f (o d g)) (by decide) 2 (.slice p (n+1) c')
  simpa using this
 ·exact(h.far.row (.inr λk D=>by have:=(h.own.lt k D).1;omega) f).set (.inr r) _ _
 have:=h.sz;have:=f.size;simp;omega
theorem PE (w:World):(sizeOf 67).run prog w=.ok 3 w:=by
 obtain⟨i,a,d,b,c⟩:=zG4 (show(prog.info? 67).map (λi=>(i.zero,i.size,i.bytes))=some (some (.agg #[(),(),""]),3,40) by kernel_rfl);simp[sizeOf,typeInfo,a,b]
theorem JR (b f a d e c:Value) (w:World):(Instr.buildSlice 101 1 #[(0,.agg #[b,f,a,d,e,c])]).run prog w=.ok (.slice (some ⟨w.heap.size,0,none⟩) 1 1) (w.alloc (.cells #[b,f,a,d,e,c] 151)):=by kernel_rfl
theorem Nz {w:World} {o:Oper} {a:Act} {K:Act->World->Prop} {Q:Exit->Act->World->Prop} {c g b e f d:Value} (x:Operand) (i:o.op=.buildSlice 101 1 #[(0,x)]) (j:a.eval x=.agg #[c,g,b,e,f,d])
  (h:K (a.put o.dst (.slice (some ⟨w.heap.size,0,none⟩) 1 1)) (w.alloc (.cells #[c,g,b,e,f,d] 151))):o.wp prog a w K Q:=by
 unfold Oper.wp execOp;simp only[i,zHp,zGq,zHc,j,zH5,JR,Result.andThen_ok,Sem.run_pure];exact h
theorem GR (a:ByteArray) (f d c e b:Int) (w:World):(Instr.build 151 #[(0,.string a),(1,.int .i64 f),(2,.int .i64 d),(3,.int .i64 c),(4,.int .i64 e),(5,.int .i64 b)]).run prog w=.ok (.agg #[a,f,d,c,e,b]) w:=by kernel_rfl
theorem JS {w:World} {o:Oper} {a:Act} {K:Act->World->Prop} {Q:Exit->Act->World->Prop} {b:ByteArray} {k f d g c:Int} (p0 p1 p2 i e j:Operand) (l:o.op=.build 151 #[(0,p0),(1,p1),(2,p2),(3,i),(4,e),(5,j)])
  (s:a.eval p0=.string b) (m:a.eval p1=.int .i64 k) (q:a.eval p2=.int .i64 f) (p:a.eval i=.int .i64 d) (r:a.eval e=.int .i64 g) (n:a.eval j=.int .i64 c)
  (h:K (a.put o.dst (.agg #[b,k,f,d,g,c])) w):o.wp prog a w K Q:=by
 unfold Oper.wp execOp;simp only[l,zHp,zGq,zHc,s,m,q,p,r,n,zH5,GR,Result.andThen_ok,Sem.run_pure];exact h
theorem JU (b B:Nat) (s:ai) (P:Value) (m:MS) (f:Nat) (a:Int) (l:List bn) (A0:Option Addr) (cc:Nat) (w:World) (h:jR b B s P m w) (a2:b<B) (Q:B<=w.heap.size) (hn:m.items.length+l.length<=1000)
  (hr:∀(j:Nat) (hj:j<l.length),∃g o,A0=some ⟨g,o,none⟩/\g<w.heap.size/\g≠b/\some g≠P.ownBlock/\∀(q:Nat) (u:Value),l[j].cells[q]? =some u->w.cell? ⟨g,o+(j*4+q),none⟩=some u):
  Calls prog 44 #[.pointer (some ⟨b,0,none⟩),f,.slice A0 l.length cc,a] w λr w'=>
   ∃(A:Option Addr) (n c:Nat) (qp:Value),r=.returned (.agg #[f,a,.slice A n c])/\n=(wJ s f l 0 0 [] m).1.length/\w'.ownsRow w.heap.size 69 4 (.slice A n c) n ((wJ s f l 0 0 [] m).1.flatMap prC)/\jR b B s qp (wJ s f l 0 0 [] m).2 w'/\vJ b P.ownBlock w w'/\(qp.ownBlock=P.ownBlock\/∀k,qp.ownBlock=some k->w.heap.size<=k):=by
 obtain⟨⟨PS,MF⟩,d⟩:∃z,wJ s f l 0 0 [] m=z:=⟨_,rfl⟩
 rw[d];simp only[];have H0:Hid (wJ s f (l.drop 0) 0 0 [] m=(PS,MF)):=zH d;have a4:=zH hr;have HM:=zH h;have bb:=h.bk.lt;obtain⟨N,e⟩:=zN l.length
 have yS:=zH e;have be:N<=1000:=by omega
 have HN:=zH hn;rw[e];clear d hr h e hn
 go_enter func44,ntmps44
 have kr:=Bk.new w 67 #[(),(),""];have t:Below w w (w.alloc (.cells #[(),(),""] 67)):=zR.alloc zL _;go_upto_region 1 with fail
 obtain⟨wa,d⟩:=zN (w.alloc (.cells #[(),(),""] 67))
 rw[d]at kr t⊢;obtain⟨Z,ao⟩:=zN w.heap.size
 rw[ao]at kr⊢;have b6:=kr.lt;clear d;go_upto_region 2 with(first|(refine ae PE rfl _ _ rfl rfl [.int .i64 f,.int .i64 a,.slice none 0 0] rfl (Bk.new wa _ _) rfl rfl rfl ?_;intro J p0))
 obtain⟨S,D⟩:=zN wa.heap.size
 have e:=p0.bk;rw[D]at e p0⊢;have y:Below wa wa J:=p0.below _ _ (zR.alloc zL _) (by omega);have b9:=e.lt;have d:Below w w J:=t.trans (y.mono t.size);have E:Fj b B s P m Z S J.heap.size f a none 0 0 [] P w J:=⟨HM.old d,kr.old y,e,zGs _ _ _ _,vJ.below d,.inl rfl,zFv _⟩
 have sO:=zH E;have a3:Z≠b:=by omega
 have Yl:S≠b:=by omega
 have bh:Z<S:=by omega
 have am:w.heap.size<=J.heap.size:=d.size;clear kr t p0 e y d E D;go_wp2_with fail
 go_loopw[10,21] (λpo i wr=>∃(j F:Nat) (qp:Value) (U:MS) (A:Option Addr) (c:Nat) (ps:List (Nat×Int)),j<=N/\po=.int .i64 F/\F<=j/\i=.int .i64 j/\ps.length=j/\U.items.length+(N-j)<=1000/\Hid (wJ s f (l.drop j) j F ps U=(PS,MF))/\Hid (Fj b B s qp U Z S J.heap.size f a A j c ps P w wr)) (λ_ i _=>N-(intOf i).toNat)
 case atStart=>exact⟨0,0,P,m,none,0,[],zFj _,rfl,zFv _,rfl,rfl,by have:=HN.out;have:=yS.out;omega,H0,sO⟩
 case round=>
  clear sO H0;obtain⟨j,F,qp,U,A,c,ps,hj,rfl,bd,rfl,ag,ap,HR,K⟩:=hrel;obtain⟨W,rfl⟩:∃W:World,W=wr:=⟨_,rfl⟩
  by_cases a9:j<N
  ·
   have aa:j<l.length:=by rw[yS.out];exact a9
   obtain⟨g,o,rfl,hg,D,E,G⟩:=a4.out j aa;have t:=HR.out;rw[zFk aa]at t;obtain⟨⟨d,ty,nm,po⟩,H⟩:∃z,l[j]=z:=⟨_,rfl⟩
   rw[H]at G t
   have e:∀(q:Nat) (u:Value),(bn.mk d ty nm po).cells[q]? =some u->W.cell? ⟨g,o+(j*4+q),none⟩=some u:=λq u hu=>by
    rw[<-G q u hu];exact zJe (K.far.block g hg D E)
   obtain⟨R,a7⟩:=zN (bytes ty)
   obtain⟨y,M⟩:=zN (bytes nm)
   have a8:=zH M;have r0:W.cell? ⟨g,o+j*4,none⟩=some (.int .i64 d):=e 0 _ rfl;have r1:W.cell? ⟨g,o+j*4+1,none⟩=some (.string R):=by rw[<-a7];exact e 1 _ rfl
   have r2:W.cell? ⟨g,o+j*4+2,none⟩=some (.string y):=by rw[<-M];exact e 2 _ rfl
   have r3:W.cell? ⟨g,o+j*4+3,none⟩=some (.int .i64 po):=e 3 _ rfl;have an:=zH t;clear G e t HR H E D;go_upto_region 6 with(first|(refine ae yP rfl _ _ rfl rfl [.int .i64 d,.string R,.string y,.int .i64 po] rfl (Bk.new W _ _) rfl rfl rfl ?_;intro w1 p1))
   have ak:Below W W w1:=p1.below _ _ (zR.alloc zL _) zL;have kt:=p1.bk;obtain⟨D,ab⟩:=zN W.heap.size
   rw[ab]at kt⊢;have G:=K.old ak;have Ym:D≠b:=by have:=K.st.bk.lt;omega
   have b8:J.heap.size<=D:=by have:=K.sz;omega
   have a0:R.toList=ty:=by rw[<-a7,aI]
   have Y:y.toList=nm:=by rw[<-M,aI]
   obtain⟨E,a6⟩:=zN (typeAt s ty)
   obtain⟨⟨⟨yn,yb,yp,yo,yf,yk⟩,fb⟩,a5⟩:∃z,ed nm U.items=z:=⟨_,rfl⟩
   obtain⟨YN,al⟩:=zN (bytes yn)
   have af:Hid (∀W':World,Below w1 w1 W'->Calls prog 69 #[.agg #[.slice s.ta s.types.length s.tc,.slice s.sa s.syms.length s.sc],R] W' λe w'=>e=.returned (.int .i64 E)/\Below W' W' w'):=zH λW' hW=>by
    have:=MZ s R W' ((G.st.old hW).Eh.more (zG5 (G.st.old hW).bk.lt));rw[a0,a6]at this;exact this
   have xG:Hid (∀W':World,Below w1 w1 W'->Calls prog 70 #[.pointer (some ⟨b,0,none⟩),y] W' λr w'=>r=.returned (.tuple #[.agg #[YN,yb,yp,yo,yf,yk],.bool fb])/\Below W'.heap.size W' w'):=zH λW' hW=>by
    have:=xP b B s qp U W' y (G.st.old hW) (by omega);rw[Y,a5]at this;simp only[dh.cells,al]at this;exact this
   have t:=an.out;unfold wJ at t;simp only[a6,a5]at t;obtain⟨ng,CV⟩:=zN (decide (E<0))
   obtain⟨m1,I⟩:=zN (if(ng||fb)=true then dI 10 po U else U)
   rw[CV,I]at t;obtain⟨q3,H⟩:=zN (decide (j=0)&&decide (d=3))
   have a1:(j=0/\d=3)<->q3=true:=by rw[<-H];simp
   obtain⟨O,X⟩:=zN (if j=0/\d=3 then dI 15 po m1 else m1)
   rw[X]at t;have ad:=zH t;have IP:=zH I;have oI:Hid ((if q3=true then dI 15 po m1 else m1)=O):=zH (by rw[<-X];by_cases h:j=0/\d=3<;>simp[h,a1.1,<-H]);have b0:=zH H;have MQ:=zH CV
   have aq:Hid (O.items=U.items):=zH (by
    rw[<-X,<-I]
    (repeat' split)<;>first|rfl|exact bP _ _ _|(rw[bP];done)|(rw[bP,bP]))
   have s0:w1.cell? ⟨b,0,none⟩=some (.slice s.ta s.types.length s.tc):=G.st.bk.cell 0;have s1:w1.cell? ⟨b,1,none⟩=some (.slice s.sa s.syms.length s.sc):=G.st.bk.cell 1;have t1:w1.cell? ⟨D,1,none⟩=some (.string R):=kt.cell 1;have zO:=zH (zA G kt);clear r0 r1 r2 r3 ak p1 ab G kt a7 M a0 Y a6 a5 al an t CV I X H a1 hg a4 K
   refine wx (λk => false) [.is (.pointer (some ⟨b, 0, none⟩)),
     .is (.pointer (some ⟨b,0,none⟩)),
     .is (.pointer (some ⟨b,0,none⟩)),
     .is (.agg #[.slice s.ta s.types.length s.tc,.slice s.sa s.syms.length s.sc]),
     .is (.pointer (some ⟨D,1,none⟩)),
     .is (.string R)] [3] (by kernel_rfl) (by kernel_rfl) (by kernel_rfl)
     (λC=>.c (px C rfl (λ_ _=>rfl)) <|
     .c (px C rfl (λ_ _=>rfl)) <|
     .c (px C rfl (λ_ _=>rfl)) <|
     .c (pz [2] [] (by kernel_rfl) λqK qa wr Q qO G hK=>?_) <|
     .c (px C rfl (λ_ _=>rfl)) <|
     .c (px C rfl (λ_ h=>bH (I7 (bc h t1)))) <| .nil) ?_
   ·have X:=aA G.1 rfl rfl;clear qO G;have H:=zE Q s0;have M:=zE Q s1;go_simp;exact hK _ _ zR rfl
   intro qx wr Q t H;clear t H;simp only[bJ,zF0,zGb,zF1,zFp,zFd,zFh,zF4,Act.put,zFf,zFw,zFx];have X:=zH Q;have t2:wr.cell? ⟨D,2,none⟩=some (.string y):=(zO.2.old Q).cell 2;clear Q s0 s1 t1;go_wp2_with fail
   refine(af.out _ X.out).mono ?_;rintro r w2 ⟨rfl,H⟩;have t2:w2.cell? ⟨D,2,none⟩=some (.string y):=zE H t2;have M:=zH (X.trans (H.mono X.size));clear af H X;go_wp2_with fail
   refine(xG.out _ M.out).mono ?_;rintro r w3 ⟨rfl,X⟩;have H:=zH (M.trans (X.mono M.size));clear xG X M t2;go_upto_region 8 with(first|(refine ae iw rfl _ _ rfl rfl [.string YN,.int .i64 yb,.int .i64 yp,.int .i64 yo,.int .i64 yf,.int .i64 yk] rfl (Bk.new w3 _ _) rfl rfl rfl ?_;intro w4 X;go_frame))
   have M:Below w1 w1 w4:=X.below _ _ (H.alloc H.size _) H.size;have lG:Hid (Fj b B s qp U Z S J.heap.size f a A j c ps P w w4/\Bk w4 D 136 #[d,R,y,po]):=zH ⟨zO.1.old M,zO.2.old M⟩;clear X M H zO;obtain⟨q4,H⟩:=zN (ng||fb)
   have I:=IP.out;rw[H]at I;have IP:=zH I;have a7:=zH H;clear I H
   go_cut[44] (λH wx=>H=.bool q4/\w4=wx)
   case first=>
    as_aux_lemma=>
    cases ng
    ·have hn:¬E<0:=by have:=MQ.out;simpa using this
     cases fb
     all_goals
      obtain rfl:=a7.out;go_wp2_with fail
      go_meet
      exact⟨rfl,rfl⟩
    have hn:E<0:=by have:=MQ.out;simpa using this
    obtain rfl:=a7.out;go_wp2_with fail
    go_meet
    exact⟨rfl,rfl⟩
   case rest=>
   obtain⟨rfl,X⟩:=hcut;subst X;go_upto_if 44 with fail
   go_cut[] (λwx=>Hid (Fj b B s qp m1 Z S J.heap.size f a A j c ps P w wx/\Bk wx D 136 #[d,R,y,po]))
   case first=>
    as_aux_lemma=>
    have Y:=IP.out;cases q4
    ·rw[zF2 (by decide)]at Y;subst Y;clear IP;go_wp2_with fail
     go_meet
     exact lG
    rw[zF3 rfl]at Y;have lF:=zH (ku b B s qp U w4 10 po lG.1.st a2);rw[Y]at lF;have t3:w4.cell? ⟨D,3,none⟩=some (.int .i64 po):=lG.2.cell 3;clear IP Y;go_wp2_with fail
    refine lF.mono ?_;rintro r w5 ⟨rfl,M⟩;have UZ:Hid (Fj b B s qp m1 Z S J.heap.size f a A j c ps P w w5/\Bk w5 D 136 #[d,R,y,po]):=zH ⟨lG.1.stp M (by omega) a3 Yl am,lG.2.grown M.grown (aG Ym)⟩;clear lF M t3;go_wp2_with fail
    go_meet
    exact UZ
   case rest=>
   rename World=>GU
   have H:=hcut;clear lG hcut;obtain⟨w5,rfl⟩:∃z:World,z=GU:=⟨_,rfl⟩
   go_upto_region 10 with fail
   have t0:w5.cell? ⟨D,0,none⟩=some (.int .i64 d):=H.2.cell 0
   go_cut[55] (λa0 wx=>a0=.bool q3/\w5=wx)
   case first=>
    as_aux_lemma=>
    have hq:=b0.out
    by_cases h0:j=0
    ·have e0:((j:Int)==0)=true:=by rw[zFt];omega
     by_cases h3:d=3
     ·have e3:((d:Int)==3)=true:=by rw[zFt];omega
      have hq:q3=true:=by rw[<-hq];simp[h0,h3]
      subst hq;clear h0 h3;go_wp2_with fail
      go_meet
      exact⟨rfl,rfl⟩
     have e3:((d:Int)==3)=false:=zB (by omega)
     have hq:q3=false:=by rw[<-hq];simp[h3]
     subst hq;clear h0 h3;go_wp2_with fail
     go_meet
     exact⟨rfl,rfl⟩
    have e0:((j:Int)==0)=false:=zB (by omega)
    have hq:q3=false:=by rw[<-hq];simp[h0]
    subst hq;clear h0;go_wp2_with fail
    go_meet
    exact⟨rfl,rfl⟩
   case rest=>
   obtain⟨rfl,X⟩:=hcut;subst X;clear t0;go_upto_if 55 with fail
   go_cut[] (λwx=>Hid (Fj b B s qp O Z S J.heap.size f a A j c ps P w wx/\Bk wx D 136 #[d,R,y,po]))
   case first=>
    as_aux_lemma=>
    have Y:=oI.out;cases q3
    ·rw[zF2 (by decide)]at Y;subst Y;clear oI;go_wp2_with fail
     go_meet
     exact H
    rw[zF3 rfl]at Y;have lF:=zH (ku b B s qp m1 w5 15 po H.1.st a2);rw[Y]at lF;have t3:w5.cell? ⟨D,3,none⟩=some (.int .i64 po):=H.2.cell 3;clear oI Y;go_wp2_with fail
    refine lF.mono ?_;rintro r w5 ⟨rfl,M⟩;have UZ:Hid (Fj b B s qp O Z S J.heap.size f a A j c ps P w w5/\Bk w5 D 136 #[d,R,y,po]):=zH ⟨H.1.stp M (by omega) a3 Yl am,H.2.grown M.grown (aG Ym)⟩;clear lF M t3;go_wp2_with fail
    go_meet
    exact UZ
   case rest=>
   rename World=>GU
   have M:=hcut;clear H hcut;obtain⟨w6,rfl⟩:∃z:World,z=GU:=⟨_,rfl⟩
   go_upto_region 12 with fail
   obtain⟨AI,ci,H,-⟩:=aK M.1.st.own;subst H;obtain⟨L,hL⟩:=zN O.items.length
   have XV:=zH hL;have bi:L+(N-j)<=1000:=by rw[<-hL,aq.out];exact ap
   have CW:=M.1.st.own;have i2:w6.cell? ⟨b,2,none⟩=some (.slice AI L ci):=by rw[<-hL];exact M.1.st.bk.cell 2
   have t2:w6.cell? ⟨D,2,none⟩=some (.string y):=M.2.cell 2;have t0:w6.cell? ⟨D,0,none⟩=some (.int .i64 d):=M.2.cell 0;rw[hL]at CW;have yV:B<=w6.heap.size:=by have:=M.1.far.size;omega
   have ab:w.heap.size<=w6.heap.size:=M.1.far.size;obtain⟨iI,hI,aw,ak,al⟩:=zG4 GG;have H:=zH CW;have uS:Hid (bytes nm=y):=a8;obtain⟨wz,a0⟩:=zN w.heap.size
   obtain⟨xs,Y⟩:=zN (O.items.flatMap dh.cells)
   have an:=zH a0;have zY:=zH Y;rw[Y]at CW;have H:=zH CW;have b7:wz<=w6.heap.size:=by omega
   clear CW hL a0 Y
   refine Go.Proofs.YtbjnhllkdilpfaaGreat.wr 15 ((Value.slice AI L ci).ownBlock) [.is (.pointer (some ⟨b, 0, none⟩)),
     .is (.pointer (some ⟨b,0,none⟩)),
     .is (.pointer (some ⟨b,0,none⟩)),
     .is (.pointer (some ⟨b,2,none⟩)),
     .is (.slice AI L ci),
     .is (.pointer (some ⟨D,2,none⟩)),
     .is (.string y),
     .is (.int .i64 f),
     .is (.int .i64 j),
     .is (.int .i64 F),
     .is (.pointer (some ⟨D,0,none⟩)),
     .is (.int .i64 d),
     .is (.int .i64 E),
     .is (.agg #[y,f,j,F,d,E]),
     .st (λv w=>∃g,v=.slice (some ⟨g,0,none⟩) 1 1/\Bk w g 151 #[y,f,j,F,d,E]) (λ_ _ _ hb ⟨g,h1,h2⟩=>⟨g,h1,h2.old hb⟩),
     .st (λv w=>∃(A:Option Addr) (c:Nat),v=.slice A (L+1) c/\w.ownsRow B 151 6 (.slice A (L+1) c) (L+1) (xs++[.string y,.int .i64 f,.int .i64 j,.int .i64 F,.int .i64 d,.int .i64 E])/\((Value.slice A (L+1) c).ownBlock=(Value.slice AI L ci).ownBlock\/∀k,(Value.slice A (L+1) c).ownBlock=some k->wz<=k)) (λ_ _ _ hb ⟨A,c,h1,h2,h3⟩=>⟨A,c,h1,aT h2 hb,h3⟩)] [13,14,15] (by kernel_rfl) (by kernel_rfl) (by kernel_rfl)
     (λC=>.c (ay.x (rG _) C rfl (λ_ _=>rfl)) <|
     .c (ay.x (rG _) C rfl (λ_ _=>rfl)) <|
     .c (ay.x (rG _) C rfl (λ_ _=>rfl)) <|
     .c (ay.x (rG _) C rfl (λ_ _=>rfl)) <|
     .c (ay.b (rG _) C (by kernel_rfl) (λ_ h=>bH (O5 (bc h i2)))) <|
     .c (ay.x (rG _) C rfl (λ_ _=>rfl)) <|
     .c (ay.b (rG _) C (by kernel_rfl) (λ_ h=>bH (I7 (bc h t2)))) <|
     .c (ay.x (rG _) C rfl (λ_ _=>rfl)) <|
     .c (ay.x (rG _) C rfl (λ_ _=>rfl)) <|
     .c (ay.x (rG _) C rfl (λ_ _=>rfl)) <|
     .c (ay.x (rG _) C rfl (λ_ _=>rfl)) <|
     .c (ay.b (rG _) C (by kernel_rfl) (λ_ h=>bH (lD (bc h t0)))) <|
     .c (ay.x (rG _) C rfl (λ_ _=>rfl)) <|
     .c (ay.z (rG _) [6,7,8,9,11,12] [] (by kernel_rfl) λqK qa wr Q qO G hK=>?_) <|
     .c (ay.z (rG _) [13] [] (by kernel_rfl) λqK qa wr Q qO G hK=>?_) <|
     .c (ay.g [4,14] [] (by kernel_rfl) λqK qa wr Q qO G hK=>?_) <| .nil) ?_
   ·have av:=aA G.1 rfl rfl;have ax:=aA G.2.1 rfl rfl;have b3:=aA G.2.2.1 rfl rfl;have b4:=aA G.2.2.2.1 rfl rfl;have b1:=aA G.2.2.2.2.1 rfl rfl;have a6:=aA G.2.2.2.2.2.1 rfl rfl;clear qO G;refine JS (.tmp 66) (.tmp 67) (.tmp 68) (.tmp 69) (.tmp 71) (.tmp 72) rfl (aB av) (aB ax) (aB b3) (aB b4) (aB b1) (aB a6) ?_;exact hK _ _ zR rfl
   ·have af:=aA G.1 rfl rfl;clear qO G;refine Nz (.tmp 73) rfl (aB af) ?_;exact hK _ _ (zR.alloc zL _) ⟨_,rfl,Bk.new _ _ _⟩
   ·have b5:=aA G.1 rfl rfl;obtain⟨u74,a0,a5⟩:=G.2.1;obtain⟨a1,Y,ar⟩:=(show∃g,u74=.slice (some ⟨g,0,none⟩) 1 1/\Bk wr g 151 #[y,f,j,F,d,E]from a5)
    subst Y;have a0:qa.tmps[74]? =some (.slice (some ⟨a1,0,none⟩) 1 1):=a0;clear qO G;refine iH _ _ 101 rfl B 151 iI _ 6 56 underlying101 hI aw ak al rfl (by decide) (.slice AI L ci) L _ (aB b5) (aT H.out Q) (a1+1) (some ⟨a1,0,none⟩) 1 1 [.string y,.int .i64 f,.int .i64 j,.int .i64 F,.int .i64 d,.int .i64 E] (aB a0) (Rd.bk ar (zJ8 _)) rfl (by intro u hu;simp at hu;rcases hu with rfl|rfl|rfl|rfl|rfl|rfl<;>rfl) (by unfold maxLen;omega) (by omega) (by have:=Q.size;omega) ?_;intro A9 c9 w9 iQ fV Y;exact hK _ _ (zKx (below_grown Q _) fV) fV.size ⟨A9,c9,rfl,iQ,Y.imp id λh k G=>by rw[h]at G;injection G with G;have:=Q.size;omega⟩
   intro qx wr hG t;have G:(λv w=>∃(A:Option Addr) (c:Nat),v=.slice A (L+1) c/\w.ownsRow B 151 6 (.slice A (L+1) c) (L+1) (xs++[.string y,.int .i64 f,.int .i64 j,.int .i64 F,.int .i64 d,.int .i64 E])/\((Value.slice A (L+1) c).ownBlock=(Value.slice AI L ci).ownBlock\/∀k,(Value.slice A (L+1) c).ownBlock=some k->wz<=k)) (qx 15) wr:=t 15 rfl rfl;clear t;simp only[bJ,zF0,zGb,zF1,zFp,zFd,zFh,zF4,Act.put,zFf,zFw,zFx];generalize qx 15=b3 at G⊢;obtain⟨A9,c9,rfl,iQ,Y⟩:=G;have a5:=M.1.item (x:=⟨nm,f,j,F,d,E⟩) (qp:=.slice A9 (L+1) c9) a2 (by omega) a3 Yl (by rw[XV.out,zY.out];simpa[dh.cells,uS.out]using iQ) (by rw[XV.out];exact hG) (by rw[XV.out];rw[<-an.out]at Y;exact Y);have a1:some b≠(Value.slice AI L ci).ownBlock:=λe=>by have:=(H.lt b e.symm).1;omega
   have G:some D≠(Value.slice AI L ci).ownBlock:=aN H.out M.2 (by decide);have a0:=M.1.st.bk.grown hG a1;have f2:=a0.frozen 2;have c2:wr.cell? ⟨b,2,none⟩=some (.slice AI O.items.length ci):=a0.cell 2;have a6:=(M.2.grown hG G).far (p:=⟨b,2,none⟩) (by show D≠b;exact Ym) (.slice A9 (L+1) c9);have vI:=zH (zA a5 a6);clear iQ Y hG a5 a1 G a0 a6 i2 t2 t0 H yV ab M;go_upto_region 13 with fail
   generalize wr.setCell ⟨b,2,none⟩ (.slice A9 (L+1) c9)=M at vI⊢;clear f2 c2;have t0:M.cell? ⟨D,0,none⟩=some (.int .i64 d):=vI.2.cell 0;obtain⟨a5,G⟩:=zN (if d≠3 then F+1 else F)
   have t:=ad.out;rw[G]at t;have av:=zH t;have a6:=zH G;have ab:a5<=j+1:=by rw[<-G];split<;>omega
   clear t ad G;have a1:Hid (Fj b B s (.slice A9 (L+1) c9) ⟨O.items++[⟨nm,f,j,F,d,E⟩],O.err,O.pos⟩ Z S J.heap.size f a A j c ps P w M/\Bk M D 136 #[d,R,y,po]):=vI;clear vI;have ad:F<=1000:=by omega
   go_upto_if 80 with fail
   go_cut[10] (λv wx=>v=.int .i64 a5/\M=wx)
   case first=>
    as_aux_lemma=>
    have G:=a6.out
    by_cases h3:d=3
    ·have e3:((d:Int) !=3)=false:=by rw[zG0];omega
     rw[zF2 (by simpa using h3)]at G;subst G;clear h3;go_wp2_with fail
     go_meet
     exact⟨rfl,rfl⟩
    have e3:((d:Int) !=3)=true:=by rw[zG1];omega
    rw[zF3 h3]at G;subst G;clear h3;go_wp2_with fail
    go_meet
    exact⟨by go_num,rfl⟩
   case rest=>
   obtain⟨rfl,X⟩:=hcut;subst X;obtain⟨iP,hP,b1,af,ax⟩:=zG4 UY;have b2:M.cell? ⟨S,2,none⟩=some (.slice A j c):=a1.1.kb.cell 2;have jL:Below M M (M.alloc (.cells #[d,E,"",""] 69)):=zR.alloc zL _;have G:=a1.1.old jL;have a0:=zH G;have dZ:=G.own;have uT:J.heap.size<=(M.alloc (.cells #[d,E,"",""] 69)).heap.size:=G.sz;clear G a6 a1;go_wp2_with (first|at_builtin;(refine aU (by rfl) _ _ 65 (by rfl) J.heap.size 69 iP _ 4 64 underlying65 hP b1 af ax rfl (by decide) (.slice A j c) j _ (by rfl) dZ (M.heap.size+1) (some ⟨M.heap.size,0,none⟩) 1 1 [.int .i64 d,.int .i64 E,.slice none 0 0,.slice none 0 0] (by rfl) (Rd.lit rfl _ _) (by rfl) ?c2 ?c3 ?c4 uT ?_))
   case c2=>intro u hu;simp at hu;rcases hu with rfl|rfl|rfl|rfl<;>rfl
   case c3=>unfold maxLen;omega
   case c4=>omega
   intro A6 c6 w9 G lX _;have yX:some S≠(Value.slice A j c).ownBlock:=aN dZ a0.kb (by decide);have ZE:=a0.kb.grown lX yX;have f9:=ZE.frozen 2;have b4:w9.cell? ⟨S,2,none⟩=some (.slice A j c):=ZE.cell 2;have a6:=zH (a0.part (x:=(d,E)) (by omega) (by omega) Yl (by omega) (by omega) (by omega) (by omega) G lX)
   have ar:Hid ((O.items++[(⟨nm,f,j,F,d,E⟩:dh)]).length+(N-(j+1))<=1000):=zH (by
    rw[zFu,XV.out]
    show L+1+(N-(j+1))<=1000
    omega)
   have EZ:Hid ((ps++[(d,E)]).length=j+1):=zH (by rw[zFu,ag];rfl);clear G lX dZ uT yX ZE jL a0 b2;go_wp2
   go_roundw
   case rel=>exact⟨j+1,a5,.slice A9 (L+1) c9,⟨O.items++[⟨nm,f,j,F,d,E⟩],O.err,O.pos⟩,A6,c6,ps++[(d,E)],by omega,rfl,ab,by go_num,EZ.out,ar.out,av,a6⟩
   case measure=>simp[intOf];omega
  as_aux_lemma=>
  obtain rfl:j=N:=by omega
  have t:=HR.out;rw[zFq (by rw[yS.out];exact zFv _)]at t;have t:(ps,U)=(PS,MF):=t;injection t with h1 h2
  subst h1;subst h2;obtain⟨x0,x1,x2⟩:=zc3 K.kb;have kr:=K.kr;clear HR a4 yS a9 hj;go_wp2_with (first|(refine ae PE rfl _ _ rfl rfl [.int .i64 f,.int .i64 a,.slice A j c] rfl kr rfl rfl rfl ?_;intro w9 G))
  obtain⟨u0,u1,u2⟩:=zc3 G.bk;refine zFg (v:=.agg #[f,a,.slice A j c]) (by simp[results,results44,go_sem,u0,u1,u2]) rfl ?_;have a0:w.heap.size<=Z:=by omega
  have a1:jR b B s qp U w9:=⟨K.st.bk.grown G.grown (aG (by omega)),K.st.Eh.jQ (G.below b _ zR (by omega)),K.st.own.kept G.grown (.inr λe=>aN K.st.own K.kr (by decide) e.symm)⟩
  exact⟨A,j,c,qp,rfl,ag.symm,bV (ik K.own G.grown (by omega)) (by omega),a1,K.far.put G a0,K.iv⟩
end Go.Proofs.YtbjnhllkdilpfaaGreat
