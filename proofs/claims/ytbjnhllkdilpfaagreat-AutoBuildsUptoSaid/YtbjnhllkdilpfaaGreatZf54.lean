/- Part 54 of the proof. No conditions. -/
import Derived.Test.YtbjnhllkdilpfaaGreatZf45
set_option linter.unusedVariables false
set_option linter.unusedSimpArgs false
set_option maxRecDepth 100000
set_option maxHeartbeats 16000000
namespace Go.Proofs.YtbjnhllkdilpfaaGreat
open Go.RowKit _root_.Go.Proofs.Tryz
def jo (ps:List dU) (i j:Nat):List qh:=((ps.drop i).take (j-i)).map λp=>⟨p.type,p.gs⟩
theorem ql {ps:List dU} {i j:Nat} (b:i<=j) (a:j<=ps.length):(jo ps i j).length=j-i:=by
 unfold jo;rw[zF5,zG9,zHj];omega
theorem DJ {ps:List dU} {i k:Nat} (b:i<=k) (a:k<ps.length):jo ps i (k+1)=jo ps i k++[⟨ps[k].type,ps[k].gs⟩]:=by
 unfold jo
 have h:(ps.drop i)[k-i]? =some ps[k]:=by
  rw[zHd,show i+(k-i)=k by omega,zAg a]
 rw[show k+1-i=(k-i)+1 by omega,List.take_add_one,h,zGr];rfl
section
set_option maxRecDepth 100000
set_option maxHeartbeats 8000000
theorem VY {d:Nat} {S:Nat->Prop} {b:dL} {cs:List Value} {w:World} {i j:Nat} (h:xh d S b cs w) (t:i<=j) (Y:j<=b.ps.length):Calls prog 26 #[.agg cs.toArray,i,j] w (Ro (λq=>w.heap.size<=q) 72 2 (zn d) (jo b.ps i j) w):=by
 obtain⟨_,rfl,W,F,rfl,X,e⟩:=h;obtain⟨n,B⟩:=zN b.ps.length
 have Q:=zH B;rw[B]at X Y⊢
 go_enter func26,ntmps26
 go_upto_region 1 with fail
 have f:=Bk.new w 67 #[b.id,b.window,.slice W n F];have a:=ba w (.cells #[b.id,b.window,.slice W n F] 67);generalize w.alloc (.cells #[b.id,b.window,.slice W n F] 67)=D at *;have HP:=zH (e.old a);have HB:=zH a;have HK:=zH f;have u:=a.size;clear f a e B;go_wp2_with fail
 go_loopw[7,8] (λv x wr=>∃(k:Nat) (A:Option Addr) (c:Nat),i<=k/\k<=j/\x=.int .i64 k/\v=.slice A (k-i) c/\Hid (Below D D wr/\Bd (λq=>D.heap.size<=q) D.heap.size 72 2 (zn d) (jo b.ps i k) (.slice A (k-i) c) wr)) (λ_ x _=>j-(intOf x).toNat)
 case atStart=>exact⟨i,none,0,zFv _,t,rfl,by rw[zJi],zH ⟨zGp _ _,by rw[zJi];unfold jo;rw[zJi];exact Bd.nil zL⟩⟩
 case round=>
  obtain⟨P,rfl⟩:∃z:World,z=wr:=⟨_,rfl⟩
  obtain⟨k,A,c,H,a4,rfl,rfl,p⟩:=hrel;have Nb:=p.1.size
  by_cases f:k<j
  ·have L:k<b.ps.length:=by rw[Q.out];omega
   have a0:k<n:=by omega
   have Qy:(k:Int)<(j:Int):=by omega
   have Z:(k:Int)<(n:Int):=by omega
   obtain⟨g,o,cs,rfl,_,hg,e,E⟩:=(HP.old p.1).elem L;obtain⟨v2,v3,rfl,a,_⟩:=e;obtain⟨l,s⟩:=zN (b.ps[k])
   have z:=E 1 _ rfl;have I:=E 2 _ rfl;rw[s]at z a;obtain⟨Ag,cg,rfl⟩:=a.form;obtain⟨m,G⟩:=zN l.gs.length
   rw[G]at a I;have Yu:=zH (zA a G);have nN:=zH s;have U:P.cell? ⟨w.heap.size,2,none⟩=some (.slice (some ⟨g,o,none⟩) n F):=(HK.old p.1).cell 2;obtain⟨J,e⟩:=zN (k-i)
   have r:(jo b.ps i k).length=J:=by rw[ql H (by omega),e]
   rw[e]at p;have y:=zH (zA r e);have M:J<=1000000000000:=by omega
   rw[e];clear E a G s e r;go_upto_region 5 with fail
   refine wx (λk=>false) [.is (.slice A J c),.is (.pointer (some ⟨w.heap.size,2,none⟩)),.is (.slice (some ⟨g,o,none⟩) n F),.is (.int .i64 k),.is (.pointer (some ⟨g,o+k*4,none⟩)),.is (.pointer (some ⟨g,o+k*4+1,none⟩)),.is (.int .i64 l.type),.is (.pointer (some ⟨w.heap.size,2,none⟩)),.is (.slice (some ⟨g,o,none⟩) n F),.is (.int .i64 k),.is (.pointer (some ⟨g,o+k*4,none⟩)),.is (.pointer (some ⟨g,o+k*4+2,none⟩)),.is (.slice Ag m cg),
    sS (xg m (Nd d (λq=>P.heap.size<=q) l.gs) λA c=>.slice A m c),sS (xg m (Nd d (λq=>P.heap.size<=q) l.gs) λA c=>.agg #[l.type,.slice A m c]),sS (ExB 72 m (Nd d (λq=>P.heap.size<=q) l.gs) λA c=>#[l.type,.slice A m c])] [4,10,13,14,15] (by kernel_rfl) (by kernel_rfl) (by kernel_rfl)
    (λC=>.c (px C rfl (λ_ _=>rfl)) <| .c (px C rfl (λ_ _=>rfl)) <| .c (px C rfl (λ_ h=>bH (pX (bc h U)))) <| .c (px C rfl (λ_ _=>rfl)) <| .c (pz [2,3] [] (by kernel_rfl) λN G wr E s a r=>?_) <| .c (px C rfl (λ_ _=>rfl)) <| .c (px C rfl (λ_ h=>bH (lD (bc h z)))) <|
     .c (px C rfl (λ_ _=>rfl)) <| .c (px C rfl (λ_ h=>bH (pX (bc h U)))) <| .c (px C rfl (λ_ _=>rfl)) <| .c (pz [8,9] [] (by kernel_rfl) λN G wr E s a r=>?_) <| .c (px C rfl (λ_ _=>rfl)) <| .c (px C rfl (λ_ h=>bH (jD (bc h I)))) <|
     .c (pz [12] [] (by kernel_rfl) λN G wr E s a r=>?_) <| .c (pz [6,13] [] (by kernel_rfl) λN G wr E s a r=>?_) <| .c (pz [14] [] (by kernel_rfl) λN G wr E s a r=>?_) .nil) ?_
   ·have a6:=aA a.1 rfl rfl;have a1:=aA a.2.1 rfl rfl;clear s a;go_simp;exact r _ _ zR rfl
   ·have a3:=aA a.1 rfl rfl;have a2:=aA a.2.1 rfl rfl;clear s a;go_simp;exact r _ _ zR rfl
   ·have a5:=aA a.1 rfl rfl;clear s a;go_simp
    go_at_call 23
    refine(zo (Yu.1.keep (.old E))).mono ?_;rintro e w2 ⟨A,c,rfl,z,I⟩;rw[Yu.2]at z⊢;exact r _ _ I ⟨A,c,rfl,z.keep λq O f=>⟨zFi E.size O,f,rfl⟩⟩
   ·have a7:=aA a.1 rfl rfl;obtain⟨u28,K,A,c,rfl,B⟩:=a.2.1;have K:G.tmps[28]? =some (.slice A m c):=K;clear s a;go_simp;exact r _ _ zR ⟨A,c,rfl,B⟩
   ·obtain⟨u29,R,A,c,rfl,B⟩:=a.1;exact pI FW (.tmp 29) rfl [.int .i64 l.type,.slice A m c] (aB R) rfl (r _ _ (ba _ _) ⟨_,A,c,rfl,Bk.new _ _ _,B.keep (.old (ba _ _))⟩)
   intro qx w8 s E G;obtain⟨gq,Aq,R,a,r,O⟩:=E 15 rfl rfl;clear E G;simp only[bJ,List.length,List.take,List.drop,zFd]
   go_frame
   generalize qx 15=N at a⊢;subst a;have G:=s.size;have a:=zH (zA (p.2.old s) (zA r (zA O (zA (λq (h:(Value.slice A J c).ownBlock=some q)=>(p.2.lt h).2) (p.1.trans (s.mono Nb))))));clear O r z I U;go_wp2_with (at_builtin;refine bu FW rfl _ _ rfl rfl a.1 rfl [.int .i64 l.type,.slice Aq m R] a.2.1 (⟨l.type,l.gs⟩:qh) ⟨_,rfl,a.2.2.1.keep λb hb f=>⟨⟨by omega,λe=>by have:=a.2.2.2.1 b e.symm;omega⟩,f,rfl⟩⟩ (by rw[y.1];exact M) (by omega) ?_;intro K O w9 E U fV sH;rw[y.1]at E sH⊢)
   have dM:Below D D w9:=U _ _ zL (by omega) a.2.2.2.2;have r:k+1-i=J+1:=by have:=y.2;omega
   refine⟨⟨k+1,K,O,by omega,f,by go_num,by rw[r],zH ⟨dM,?_⟩⟩,by simp[intOf];omega⟩;rw[r,DJ H L,nN.out];exact E
  obtain rfl:k=j:=by omega
  go_wp2_with fail
  go_ret
  refine⟨A,c,by rw[ql t (by rw[Q.out];exact Y)];rfl,?_,HB.trans (p.1.mono u)⟩;rw[ql t (by rw[Q.out];exact Y)];exact p.2.wide (λb hb=>zFi u hb) u
end
def ptZ:dU:=⟨0,0,[],[]⟩
def Su (ps:List dU) (i:Nat):dU:=(ps[i]?).getD ptZ
theorem BC {ps:List dU} {i:Nat} (h:i<ps.length):Su ps i=ps[i]:=by unfold Su;rw[zAg h];rfl
def vN (b:dL) (P:List Nat) (n k:Nat):fQ:=
 let q:=Su b.ps (P.getD k 0)
 let a:=P.getD (k-1) 0
 ⟨if 0<k then(n:Int)-1 else -1,q.type,q.form==2,b.window,if 0<k then jo b.ps (a+1) (P.getD k 0)else[],if 0<k then(Su b.ps a).cs else[],q.gs,if k+1=P.length then[⟨b.id,q.cs,jo b.ps (P.getD k 0+1) b.ps.length⟩]else[]⟩
def lq (b:dL) (P:List Nat) (bD:List fQ):Nat->List fQ
 |0=>bD
 |k+1=>lq b P bD k++[vN b P (lq b P bD k).length k]
theorem nP (b:dL) (P:List Nat) (a:List fQ):∀k,(lq b P a k).length=a.length+k
 |0=>rfl
 |k+1=>by rw[lq,zFu,nP b P a k];rfl
def lu:List dL->List fQ->List fQ
 |[],bD=>bD
 |b::l,bD=>lu l (lq b (jf 0 b.ps) bD (jf 0 b.ps).length)
def pK (ax:Int) (ks:List Int) (bs:List dL):Z4×Int:=if 32<(lu bs []).length then(⟨0,[],[]⟩,4)else(⟨ax,ks,lu bs []⟩,0)
theorem VZ (e g c:Int) (b:Bool) (d:Option Addr) (a f:Nat) (w:World):(Instr.build 62 #[(0,.int .i64 e),(1,.int .i64 g),(2,.bool b),(3,.int .i64 c),(6,.slice d a f)]).run prog w=.ok (.agg #[e,g,.bool b,c,"","",.slice d a f,""]) w:=by kernel_rfl
theorem YU {w:World} {o:Oper} {a:Act} {K:Act->World->Prop} {Q:Exit->Act->World->Prop} {f k d:Int} {b:Bool} {e:Option Addr} {c g:Nat} (p0 p1 p2 j i:Operand) (l:o.op=.build 62 #[(0,p0),(1,p1),(2,p2),(3,j),(6,i)])
  (r:a.eval p0=.int .i64 f) (m:a.eval p1=.int .i64 k) (p:a.eval p2=.bool b) (n:a.eval j=.int .i64 d) (q:a.eval i=.slice e c g)
  (h:K (a.put o.dst (.agg #[f,k,.bool b,d,"","",.slice e c g,""])) w):o.wp prog a w K Q:=by
 unfold Oper.wp execOp;simp only[l,zHp,zGq,zHc,r,m,p,n,q,zH5,VZ,Result.andThen_ok,Sem.run_pure];exact h
structure RbK (d:Nat) (W0 W1:World) (g4 gb:Nat) (ax:Int) (kv:Value) (cb:List Value) (P:List Nat) (pv:Value) (bD:List fQ) (A:Option Addr) (c:Nat) (w:World):Prop where
 sz:W1.heap.size<=w.heap.size
 gr:W0.grownBy w (some g4)
 k4:Bk w g4 38 #[ax,kv,.slice A bD.length c]
 kb:Bk w gb 67 cb.toArray
 pr:Bd (λ_=>False) W0.heap.size 3 1 gK (ints P) pv w
 bD:Bd (λq=>W0.heap.size<=q) W0.heap.size 62 8 (Z5 d) bD (.slice A bD.length c) w
theorem RbK.old {d:Nat} {j W1:World} {f i:Nat} {ax:Int} {e:Value} {b:List Value} {P:List Nat} {g:Value} {a:List fQ} {A:Option Addr} {c:Nat} {w w':World} (h:RbK d j W1 f i ax e b P g a A c w) (hb:Below w w w'):RbK d j W1 f i ax e b P g a A c w':=
 ⟨zFi h.sz hb.size,dD h.gr (hb.mono h.gr.size),h.k4.old hb,h.kb.old hb,h.pr.old hb,h.bD.old hb⟩
theorem KY {w:World} {S:Nat->Prop} {A:Option Addr} {g t:Nat} {cs:Array Value} {ns:List ah} (h:Q3 w S A (ns.flatMap ah.cells)) (l:Bk w g t cs) (p:∀o A n c,cs[o+2]? =some (.slice A n c)->cs[o+6]? =none):Q3 w (λq=>S q/\q≠g) A (ns.flatMap ah.cells):=by
 rcases h with h|⟨b,o,k,r,m,f⟩
 ·exact .inl h
 cases ns with
 |nil=>exact .inl rfl
 |cons n ns=>
  refine .inr ⟨b,o,k,⟨r,λe=>?_⟩,m,f⟩;subst e;obtain⟨op,kind,s,j,d,vk,vb,pos,a⟩:=n;have e:=f 6 (.int .i64 a) rfl;have i:=f 2 (.slice s d.length j) rfl;rw[l.cell]at e i;rw[p o _ _ _ i]at e;cases e
theorem KZ {w:World} {S:Nat->Prop} {g t:Nat} {cs:Array Value} (a:Bk w g t cs) (b:∀o A n c,cs[o+2]? =some (.slice A n c)->cs[o+6]? =none):∀{d:Nat} {n:ah},okS S d n w->okS (λq=>S q/\q≠g) d n w
 |0,_,h=>h
 |d+1,.mk ..,h=>⟨KY h.1 a b,h.2.1,h.2.2.1,λx e=>KZ a b (h.2.2.2 x e)⟩
theorem Nd.J9 {d:Nat} {S:Nat->Prop} {a:List T} {v:Value} {w:World} {g t:Nat} {cs:Array Value} (h:Nd d S a v w) (b:Bk w g t cs) (e:∀o A n c,cs[o+2]? =some (.slice A n c)->cs[o+6]? =none):Nd d (λq=>S q/\q≠g) a v w:=by
 obtain⟨A,c,ns,i,k,j,l⟩:=h;exact⟨A,c,ns,i,KY k b e,λy f=>KZ b e (j y f),l⟩
theorem ints_at' {P:List Nat} {q:Nat} (h:q<P.length):(ints P)[q]'(by simpa[ints]using h)=((P[q]:Nat):Int):=by simp[ints]
section
set_option maxRecDepth 100000
set_option maxHeartbeats 16000000
theorem YV {d:Nat} {S:Nat->Prop} {ax:Int} {ks:List Int} {bs:List dL} {cs:List Value} {w:World} (cw:bs.length<=1000) (b3:∀b∈bs,b.ps.length<=1000) (h:dO d S ax ks bs cs w):Calls prog 10 #[.agg cs.toArray] w λe w'=>∃a:List Value,e=.returned (.tuple #[.agg a.toArray,.int .i64 (pK ax ks bs).2])/\wO d (λq=>w.heap.size<=q) (pK ax ks bs).1.aS (pK ax ks bs).1.keys (pK ax ks bs).1.states a w'/\Below w w w':=by
 have LQ:=zH b3;clear b3;obtain⟨kv,bv,rfl,L,hb⟩:=h;obtain⟨Ak,ck,rfl⟩:=L.form;obtain⟨Ab,cb,a,cf,hb⟩:=hb;subst a;have y:=zH L;have HR:=zH hb.lo;clear L hb
 go_enter func10,ntmps10
 go_upto_region 1 with fail
 obtain⟨w0,a⟩:=zN ((w.alloc (.cells #[ax,.slice Ak ks.length ck,.slice Ab bs.length cb] 29)).alloc (.cells #[(),"",""] 38))
 have r:Bk w0 w.heap.size 29 #[ax,.slice Ak ks.length ck,.slice Ab bs.length cb]:=a▸(Bk.new _ _ _).alloc _;have k2:Bk w0 (w.heap.size+1) 38 #[(),"",""]:=a▸Bk.newAt (by simp) _ _;have l:Below w w w0:=a▸bel2 w _ _;simp only[a];clear a;have E:w0.cell? ⟨w.heap.size,0,none⟩=some (.int .i64 ax):=r.cell 0;have F:w0.cell? ⟨w.heap.size,1,none⟩=some (.slice Ak ks.length ck):=r.cell 1
 refine wx (λk=>k==6) [.is (.pointer (some ⟨w.heap.size,0,none⟩)),.is (.int .i64 ax),.is (.pointer (some ⟨w.heap.size,1,none⟩)),.is (.slice Ak ks.length ck),
  sS (xg ks.length (Bd (λ_=>False) w0.heap.size 3 1 gK ks) λA c=>.slice A ks.length c),sS (xg ks.length (Bd (λ_=>False) w0.heap.size 3 1 gK ks) λA c=>.agg #[ax,.slice A ks.length c,""]),
  .st (λv w=>∃g,v=.pointer (some ⟨g,0,none⟩)/\w0.heap.size<=g/\Bk w g 38 #[(),"",""]) (λ_ _ _ hb ⟨g,K,h0,h2⟩=>⟨g,K,h0,h2.old hb⟩)] [4,5,6] (by kernel_rfl) (by kernel_rfl) (by kernel_rfl)
  (λC=>.c (px C rfl (λ_ _=>rfl)) <| .c (px C rfl (λ_ h=>bH (lD (bc h E)))) <| .c (px C rfl (λ_ _=>rfl)) <| .c (px C rfl (λ_ h=>bH (Gq (bc h F)))) <|
   .c (pz [3] [] (by kernel_rfl) λI G wr s B f t=>?_) <| .c (pz [1,4] [] (by kernel_rfl) λI G wr s B f t=>?_) <| .c (pf [] [] (by kernel_rfl) λI G wr s B f t=>?_) .nil) ?_
 ·exact xZ (.tmp 15) rfl (aB (aA f.1 rfl rfl)) ((y.keep (.old l)).keep (.old s)) λA c w' K h2=>t _ _ h2 ⟨A,c,rfl,K.NU s.size⟩
 ·have m:=aA f.1 rfl rfl;obtain⟨u16,a,A,c,rfl,hn⟩:=f.2.1;have a:G.tmps[16]? =some (.slice A ks.length c):=a;clear B f;go_simp;exact t _ _ zR ⟨A,c,rfl,hn⟩
 ·clear B f;go_simp;exact t _ _ (ba _ _) ⟨_,rfl,s.size,Bk.new _ _ _⟩ ⟨_,rfl,by simp,by simp⟩
 intro qx wr s H hS;obtain⟨A3,c3,a,n5⟩:=H 5 rfl rfl;obtain⟨g4,z,ct,m⟩:=H 6 rfl rfl;clear H hS;simp only[bJ,List.length,List.take,List.drop,zFd]
 go_frame
 generalize qx 6=z6 at z⊢;generalize qx 5=z5 at a⊢;subst z a;go_upto_region 2 with(refine ae gZ rfl _ _ rfl rfl [.int .i64 ax,.slice A3 ks.length c3,.slice none 0 0] rfl m rfl rfl rfl ?_;intro W p0;go_frame)
 have b4:=p0.size;have z:=s.size;have d8:=k2.lt;have D:=m.lt;have a:Below w.heap.size w W:=p0.below _ _ (l.trans (s.mono l.size)) (by omega);have oK:Hid (Bk W w.heap.size 29 #[ax,.slice Ak ks.length ck,.slice Ab bs.length cb]/\Bk W (w.heap.size+1) 38 #[(),"",""]/\Sl gK (λq=>w0.heap.size<=q/\some q≠some g4) ks (.slice A3 ks.length c3) W):=zH ⟨p0.zJ (r.old s) (by omega),p0.zJ (k2.old s) (by omega),?keys⟩
 case keys=>exact(n5.Kq (S:=λq=>w0.heap.size<=q/\some q≠some g4) (λb hb J=>⟨hb,λe=>n5.ne m (by decide) (e.symm.trans J.symm)⟩) (λb h=>h.elim) y.le).keep (dB.fE p0 λb hb e=>hb.2 (zGv some e))
 have HG:=zH p0;have a8:=zH a;have bb:=zH (HR.old a);have da:=l.size;have b5:g4<W.heap.size:=p0.bk.lt;have cm:w0.heap.size<=W.heap.size:=by omega
 clear p0 r k2 m s l a E F n5 b4 z y D;have y2:=oK.1.cell 2;obtain⟨R,H⟩:=zN (lu bs [])
 have aH:=zH H;clear H;go_wp2_with fail
 go_loopw[21] (λi wr=>∃(k:Nat) (a:List fQ) (A:Option Addr) (c:Nat),k<=bs.length/\i=.int .i64 k/\a.length<=k*1000/\Hid (lu (bs.drop k) a=R)/\Hid (W.grownBy wr (some g4)/\Bk wr g4 38 #[ax,.slice A3 ks.length c3,.slice A a.length c]/\Bd (λq=>W.heap.size<=q) W.heap.size 62 8 (Z5 d) a (.slice A a.length c) wr)) (λi _=>bs.length-(intOf i).toNat)
 case atStart=>exact⟨0,[],none,0,zFj _,rfl,by simp,aH,zH ⟨zF8 _ _,HG.bk,Bd.nil zL⟩⟩
 case round=>
  obtain⟨M,rfl⟩:∃z:World,z=wr:=⟨_,rfl⟩
  obtain⟨k,rJ,A0,c0,L,rfl,cn,an,X⟩:=hrel;have bm:=X.1.size
  by_cases y:k<bs.length
  ·obtain⟨b,o,cs,a,d5,hb,hP,Q⟩:=(bb.keep (dB.gV X.1 λb hb=>by omega)).elem y;subst a;have l:=CK.len hP;have b2:=LQ.out _ (zFe y);go_upto_region 5 with(first|(refine aj gW rfl _ rfl rfl cs l Q ?_)|(refine ae (aY gW.1) rfl _ _ rfl rfl cs rfl (Bk.new _ _ _) l rfl (CK.one hP) ?_;intro V1 p1;go_frame))
   obtain⟨_,rfl,Ap,J,rfl,a6,r⟩:=hP;have N:Below M M V1:=p1.below _ _ (ba _ _) zL;have d6:M.heap.size<V1.heap.size:=by rw[p1.size];simp
   obtain⟨a,D⟩:=zN (bs[k])
   rw[D]at a6 r p1 b2;obtain⟨m,O⟩:=zN a.ps.length
   have a9:Hid (Rw (KI d) (λq=>S q/\q<w.heap.size) a.ps Ap V1):=zH (r.old N);have E:=Ia (d:=d) (S:=λq=>S q/\q<w.heap.size) (b:=a) (w:=V1) ⟨_,rfl,Ap,J,rfl,a6,r.old N⟩;rw[O]at a6 p1 b2 E;have U:=zH E;have KU:=zH (zA D O);have a4:=zH p1.bk;have QK:=zH (dD X.1 (N.mono bm));have F:=zH (zA (X.2.1.old N) (X.2.2.old N));clear r p1 Q l D X O E N;go_wp2_with (refine aj gW rfl (.tmp 6) rfl rfl [.int .i64 a.id,.int .i64 a.window,.slice Ap m J] rfl (λi v hv=>by rw[zFr,a4.cell i];simpa using hv) ?_)
   refine U.mono ?_;rintro e V2 ⟨Aq,cq,rfl,hq,l⟩;obtain⟨P,hP⟩:=zN (jf 0 a.ps)
   have D:∀x∈P,x<m:=λx hx=>by
    have:=(uP a.ps 0 x (by rw[hP];exact hx)).2;rw[KU.2]at this;omega
   have r:P.Pairwise (·<·):=hP▸yB a.ps 0;have O:P.length<=m:=by rw[<-hP,<-KU.2];exact KX _ _
   rw[hP]at hq⊢;obtain⟨Y,N⟩:=zN ((ints P).length)
   have E:P.length=Y:=by rw[<-N];simp[ints]
   rw[N]at hq⊢;have cz:=l.size;have HP:=zH (zA hP (zA D (zA r (zA N E))))
   have Ox:Hid (RbK d W V2 g4 M.heap.size ax (.slice A3 ks.length c3) [.int .i64 a.id,.int .i64 a.window,.slice Ap m J] P (.slice Aq Y cq) rJ A0 c0 V2):=zH
    ⟨zFv _,dD QK.out (l.mono (by omega)),F.1.old l,a4.old l,hq.wide (λ_ h=>h) (by omega),F.2.old l⟩
   have bw:Y<=1000:=by omega
   clear hP D r O hq N E l U a4 F;go_wp2_with fail
   go_loopw[29] (λi wr=>∃(q:Nat) (A:Option Addr) (c:Nat),q<=Y/\i=.int .i64 q/\Hid (RbK d W V2 g4 M.heap.size ax (.slice A3 ks.length c3) [.int .i64 a.id,.int .i64 a.window,.slice Ap m J] P (.slice Aq Y cq) (lq a P rJ q) A c wr)) (λi _=>Y-(intOf i).toNat)
   case atStart=>exact⟨0,A0,c0,zFj _,rfl,Ox⟩
   case round=>
    clear Ox;obtain⟨wl,rfl⟩:∃z:World,z=wr:=⟨_,rfl⟩
    obtain⟨q,A,c,hq,rfl,hJ⟩:=hrel;have ch:=hJ.sz
    by_cases am:q<Y
    ·have ab:q<P.length:=by rw[HP.2.2.2.2];exact am
     have be:q<(ints P).length:=by rw[HP.2.2.2.1];exact am
     obtain⟨pg,co,D,_,_,l,r⟩:=hJ.pr.elem be;subst D;obtain rfl:=l;have Oz:=r 0 _ rfl;rw[ints_at' ab,zLe,Nat.add_zero]at Oz;obtain⟨l,N⟩:=zN (P[q])
     have ar:l<m:=N▸HP.2.1 _ (zFe ab);have cd:(l:Int)<(m:Int):=by omega
     have ad:l<a.ps.length:=by rw[KU.2];exact ar
     have a7:P.getD q 0=l:=by rw[zGy,zAg ab];exact N
     rw[N]at Oz;obtain⟨b9,o9,NW,D,_,dM,F,a5⟩:=(a9.keep (dB.two QK.out hJ.gr λb hb=>⟨by omega,by omega⟩)).elem ad;subst D;have iG:=CK.len F;have xb:wl.cell? ⟨M.heap.size,2,none⟩=some (.slice (some ⟨b9,o9,none⟩) m J):=hJ.kb.cell 2;clear r;go_upto_region 10 with(first|(refine aj jU rfl _ rfl rfl NW iG a5 ?_)|(refine ae (aY jU.1) rfl _ _ rfl rfl NW rfl (Bk.new _ _ _) iG rfl (CK.one F) ?_;intro D U;go_frame))
     obtain⟨gv,cv,rfl,hg,E⟩:=F;obtain⟨r,Q⟩:=zN (a.ps[l])
     rw[Q]at hg E U;obtain⟨Ag,cg,rfl⟩:=hg.form;obtain⟨Ac,cc,rfl⟩:=E.form;have aa:Below wl wl D:=U.below _ _ (ba _ _) zL;have d1:wl.heap.size<D.heap.size:=by rw[U.size];simp
     obtain⟨ng,CV⟩:=zN r.gs.length
     obtain⟨nc,O⟩:=zN r.cs.length
     rw[CV,O]at U;rw[CV]at hg;rw[O]at E;have HV:=zH (zA (hg.keep (.old aa)) (zA (E.keep (.old aa)) U.bk));have a1:=zH (hJ.old aa);have nN:=zH (zA ((BC ad).trans Q) (zA CV (zA O a7)));have bh:=zH N;obtain⟨ns,a3⟩:=zN ((lq a P rJ q).length)
     have br:ns<=10000000:=by rw[<-a3,nP];omega
     have Zw:=zH a3;have b6:∀g,(Value.slice A ns c).ownBlock=some g->W.heap.size<=g/\g<wl.heap.size:=λg h=>hJ.bD.lt (by rw[a3];exact h)
     obtain⟨F,Z⟩:=zN (vN a P ns q)
     have a2:=zH Z;have y0:D.cell? ⟨wl.heap.size,0,none⟩=some (.int .i64 (r.form:Nat)):=HV.2.2.cell 0;have y1:D.cell? ⟨wl.heap.size,1,none⟩=some (.int .i64 r.type):=HV.2.2.cell 1;have a0:D.cell? ⟨wl.heap.size,2,none⟩=some (.slice Ag ng cg):=HV.2.2.cell 2;have af:D.cell? ⟨M.heap.size,1,none⟩=some (.int .i64 a.window):=a1.kb.cell 1;clear Q hg E U a5 iG CV O a7 N a3 Z Oz xb
     refine wx (λk=>k==11) [.is (.pointer (some ⟨wl.heap.size,1,none⟩)),.is (.int .i64 r.type),.is (.pointer (some ⟨wl.heap.size,0,none⟩)),.is (.int .i64 (r.form:Nat)),.is (.bool (r.form==2)),.is (.pointer (some ⟨M.heap.size,1,none⟩)),.is (.int .i64 a.window),.is (.pointer (some ⟨wl.heap.size,2,none⟩)),.is (.slice Ag ng cg),
      sS (xg ng (Nd d (λq=>D.heap.size<=q) r.gs) λA c=>.slice A ng c),sS (xg ng (Nd d (λq=>D.heap.size<=q) r.gs) λO c'=>.agg #[.int .i64 (-1),r.type,.bool (r.form==2),a.window,"","",.slice O ng c',""]),
      .st (λv w=>∃g,v=.pointer (some ⟨g,0,none⟩)/\D.heap.size<=g/\Bk w g 62 #[(),(),.bool false,(),"","","",""]) (λ_ _ _ hb ⟨g,K,h0,h2⟩=>⟨g,K,h0,h2.old hb⟩)] [4,9,10,11] (by kernel_rfl) (by kernel_rfl) (by kernel_rfl)
      (λC=>.c (px C rfl (λ_ _=>rfl)) <| .c (px C rfl (λ_ h=>bH (lD (bc h y1)))) <| .c (px C rfl (λ_ _=>rfl)) <| .c (px C rfl (λ_ h=>bH (lD (bc h y0)))) <| .c (pz [3] [] (by kernel_rfl) λI G wr s B f t=>?_) <|
       .c (px C rfl (λ_ _=>rfl)) <| .c (px C rfl (λ_ h=>bH (ld2 (bc h af)))) <| .c (px C rfl (λ_ _=>rfl)) <| .c (px C rfl (λ_ h=>bH (jD (bc h a0)))) <|
       .c (pz [8] [] (by kernel_rfl) λI G wr s B f t=>?_) <| .c (pz [1,4,6,9] [] (by kernel_rfl) λI G wr s B f t=>?_) <| .c (pf [] [] (by kernel_rfl) λI G wr s B f t=>?_) .nil) ?_
     ·have Z:=aA f.1 rfl rfl;clear B f;go_simp;exact t _ _ zR (by show(_:Value)=_;first|rfl|exact zGv Value.bool (um r.form 2)|(simp;exact um r.form 2)|(simp;omega))
     ·have a5:=aA f.1 rfl rfl;clear B f;go_simp
      go_at_call 23
      refine(zo (HV.1.keep (.old s))).mono ?_;rintro e w2 ⟨A,c,rfl,K,h2⟩;rw[nN.2.1]at K⊢;exact t _ _ h2 ⟨A,c,rfl,K.keep λq hq y=>⟨zFi s.size hq,y,rfl⟩⟩
     ·have U:=aA f.1 rfl rfl;have E:=aA f.2.1 rfl rfl;have Q:=aA f.2.2.1 rfl rfl;obtain⟨u48,N,O,c',rfl,hn⟩:=f.2.2.2.1;exact YU (.const (.int .i64 (-1))) (.tmp 40) (.tmp 43) (.tmp 45) (.tmp 48) rfl rfl (aB U) (aB E) (aB Q) (aB N) (t _ _ zR ⟨O,c',rfl,hn⟩)
     ·clear B f;go_simp;exact t _ _ (ba _ _) ⟨_,rfl,s.size,Bk.new _ _ _⟩ ⟨_,rfl,by simp,by simp⟩
     intro qx w6 Z H hS;obtain⟨A6,c6,Q,O⟩:=H 10 rfl rfl;obtain⟨E,N,a5,U⟩:=H 11 rfl rfl;clear H hS;simp only[bJ,List.length,List.take,List.drop,zFd]
     go_frame
     generalize qx 11=ap at N⊢;generalize qx 10=ci at Q⊢;subst N Q;go_upto_region 11 with(refine ae (aY yu.1) rfl _ _ rfl rfl [.int .i64 (-1),.int .i64 r.type,.bool (r.form==2),.int .i64 a.window,.slice none 0 0,.slice none 0 0,.slice A6 ng c6,.slice none 0 0] rfl U rfl rfl rfl ?_;intro V4 Q;go_frame)
     have N:Below D D V4:=Q.below _ _ Z a5
     have rZ:=zH (zA Q.bk (zA N ((O.J9 U (by
      intro o A n c h
      match o with
      |0=>cases h
      |1=>cases h
      |o+2=>exact zHz (by simp))).keep (dB.fE Q λb hb=>hb.2))))
     have d2:=N.size;have bo:=Q.bk.lt;clear Q U O Z N y0 y1 a0 af;go_upto_if 51 with fail
     go_cut[] (λwx=>∃(A4 A5:Option Addr) (n4 c4 n5 c5:Nat),Hid (Below D D wx/\Bk wx E 62 #[F.parent,r.type,.bool (r.form==2),a.window,.slice A4 n4 c4,.slice A5 n5 c5,.slice A6 ng c6,""]/\Sl (zn d) (λq=>D.heap.size<=q/\q≠E) F.bars (.slice A4 n4 c4) wx/\Nd d (λq=>D.heap.size<=q/\q≠E) F.lv (.slice A5 n5 c5) wx/\Nd d (λq=>D.heap.size<=q/\q≠E) r.gs (.slice A6 ng c6) wx))
     case first=>
      by_cases h0:0<q
      ·obtain⟨U,rfl⟩:∃z,q=z+1:=⟨q-1,by omega⟩
       have jA:(0:Int)<((U+1:Nat):Int):=by omega
       have YW:U<P.length:=by omega
       have af:U<(ints P).length:=by omega
       have ca:(U:Int)<(Y:Int):=by omega
       have bq:(((U+1:Nat):Int)-1)=(U:Int):=by omega
       obtain⟨a',N⟩:=zN (P[U])
       have aq:a'<l:=by
        have K:=zH1.1 HP.2.2.1 U (U+1) YW ab (by omega);rw[bh.out,N]at K;exact K
       have Q:P.getD U 0=a':=by rw[zGy,zAg YW];exact N
       have ao:a'<a.ps.length:=by omega
       have cu:(a':Int)<(m:Int):=by omega
       have O:F.parent=(ns:Int)-1/\F.bars=jo a.ps (a'+1) l/\F.lv=(a.ps[a']).cs:=by
        rw[<-a2.out];unfold vN;simp only[zF3 h0,Nat.add_sub_cancel];rw[Q,nN.2.2.2,BC ao];refine⟨?_,?_,?_⟩<;>first|rfl|trivial
       have Z:=a1.old rZ.2.1
       have z2:V4.cell? ⟨g4,2,none⟩=some (.slice A ns c):=by
        have h:=Z.k4.cell 2;rw[Zw.out]at h;exact h
       have f0:=rZ.1.frozen 0;have a0:=rZ.1.cell 0;have a7:=zH Z;have V9:=zH O;have HA:=zH (zA N (zA aq ao));clear Z O N Q;go_upto_region 13 with fail
       have d9:(V4.setCell ⟨E,0,none⟩ (.int .i64 ((ns:Int)-1))).heap.size=V4.heap.size:=by simp
       have dM:Below D D (V4.setCell ⟨E,0,none⟩ (.int .i64 ((ns:Int)-1))):=rZ.2.1.setCell a5 _;have Q:=zH (zA (rZ.1.put 0 (.int .i64 ((ns:Int)-1))) (zA dM (rZ.2.2.keep (dB.set (p:=⟨E,0,none⟩) (v:=.int .i64 ((ns:Int)-1)) λb hb=>⟨hb,hb.2⟩))));clear dM f0 a0 z2 rZ a7;generalize V4.setCell ⟨E,0,none⟩ (.int .i64 ((ns:Int)-1))=V6 at *;have N:=a1.old Q.2.1;have ce:Below wl wl V6:=aa.trans (Q.2.1.mono (by omega));obtain⟨cj,c1,OA,_,_,Z,We⟩:=N.pr.elem af;injection OA with OA
       injection OA with e1
       subst e1;obtain rfl:=Z;have Ib:=We 0 _ rfl;rw[ints_at' YW,HA.1,zLe,Nat.add_zero]at Ib;have ZJ:Hid (∀w',Below V6 V6 w'->xh d (λq=>S q/\q<w.heap.size) a [.int .i64 a.id,.int .i64 a.window,.slice (some ⟨b9,o9,none⟩) m J] w'):=zH λw' hw=>⟨_,rfl,_,J,by rw[KU.2],by rw[KU.2];exact a6,(a9.keep (dB.two QK.out N.gr λb hb=>⟨by omega,by omega⟩)).old hw⟩
       have a0:=zH N;clear We N
       refine wx (λk=>false) [.is (.agg #[a.id,a.window,.slice (some ⟨b9,o9,none⟩) m J]),.is (.slice (some ⟨pg,0,none⟩) Y cq),.is (.int .i64 ((U+1:Nat):Int)),.is (.int .i64 (U:Nat)),.is (.pointer (some ⟨pg,U,none⟩)),.is (.int .i64 (a':Nat)),.is (.int .i64 ((a'+1:Nat):Int)),.is (.int .i64 (l:Nat))] [0,3,4,6] (by kernel_rfl) (by kernel_rfl) (by kernel_rfl)
        (λC=>.c (pz [] [6] (by kernel_rfl) λI G wr s B f t=>?_) <| .c (px C rfl (λ_ _=>rfl)) <| .c (px C rfl (λ_ _=>rfl)) <| .c (pz [2] [] (by kernel_rfl) λI G wr s B f t=>?_) <| .c (pz [1,3] [] (by kernel_rfl) λI G wr s B f t=>?_) <| .c (px C rfl (λ_ h=>bH (lD (bc h Ib)))) <| .c (pz [5] [] (by kernel_rfl) λI G wr s B f t=>?_) <| .c (px C rfl (λ_ _=>rfl)) .nil) ?_
       ·exact jw gW (.tmp 6) rfl (aB (B.1.trans rfl)) [.int .i64 a.id,.int .i64 a.window,.slice (some ⟨b9,o9,none⟩) m J] rfl (λi u hu=>by rw[zFr,(a0.kb.old s).cell i];simpa using hu) (t _ _ zR rfl)
       ·have Z:=aA f.1 rfl rfl;clear B f;go_simp;exact t _ _ zR (by show(_:Value)=_;first|rfl|(simp;done)|(simp;omega)|(rw[zHk _ ⟨by omega,by omega⟩];simp;omega)|(simp;rw[zHk _ ⟨by omega,by omega⟩]))
       ·have ag:=aA f.1 rfl rfl;have N:=aA f.2.1 rfl rfl;clear B f;go_simp;exact t _ _ zR (by show(_:Value)=_;simp)
       ·have a7:=aA f.1 rfl rfl;clear B f;go_simp;exact t _ _ zR (by show(_:Value)=_;first|rfl|(simp;done)|(simp;omega)|(rw[zHk _ ⟨by omega,by omega⟩];simp)|(simp;rw[zHk _ ⟨by omega,by omega⟩]))
       intro qx w7 Qh H hS;clear H hS;simp only[bJ,List.length,List.take,List.drop,zFd]
       go_frame
       have Ee:=zH (VY (i:=a'+1) (j:=l) (ZJ.out w7 Qh) HA.2.1 (by omega));go_wp2_with fail
       refine Ee.mono ?_;rintro e w8 ⟨A8,c8,rfl,h8,av⟩;obtain⟨nb,al⟩:=zN ((jo a.ps (a'+1) l).length)
       have Sm:nb<=1000000000000:=by rw[<-al,ql HA.2.1 (by omega)];omega
       have b1:=Qh.size;have bd:=av.size;have bl:=Q.2.1.size;have YX:Below V6 V6 w8:=Qh.trans (av.mono b1);have N:=h8.Kq (S:=λq=>D.heap.size<=q/\q≠E) (λb hb _=>⟨by omega,by omega⟩) (λb hb _=>⟨by omega,by omega⟩) (by rw[al];exact Sm);rw[al]at N⊢;have k8:=Q.1.old YX;have a7:=k8.cell 4;have f4:=k8.frozen 4;have dM:Below D D (w8.setCell ⟨E,4,none⟩ (.slice A8 nb c8)):=(Q.2.1.trans (YX.mono bl)).setCell a5 _;have Z:=zH (zA (k8.put 4 (.slice A8 nb c8)) (zA dM (zA ((Q.2.2.keep (.old YX)).keep (dB.set (p:=⟨E,4,none⟩) (v:=.slice A8 nb c8) λb hb=>⟨hb,hb.2⟩)) (N.keep (dB.set (p:=⟨E,4,none⟩) (v:=.slice A8 nb c8) λb hb=>⟨hb,hb.2⟩)))));have d3:(w8.setCell ⟨E,4,none⟩ (.slice A8 nb c8)).heap.size=w8.heap.size:=by simp
       clear h8 N k8 dM YX Ee Q a0 ZJ;go_upto_region 14 with fail
       clear a7 f4;generalize w8.setCell ⟨E,4,none⟩ (.slice A8 nb c8)=V7 at *;have N:=a1.old Z.2.1;obtain⟨d0,bp,ag,_,_,a0,Q⟩:=N.pr.elem af;injection ag with ag
       injection ag with e1
       subst e1;obtain rfl:=a0;have Ib:=Q 0 _ rfl;rw[ints_at' YW,HA.1,zLe,Nat.add_zero]at Ib;have xb:V7.cell? ⟨M.heap.size,2,none⟩=some (.slice (some ⟨b9,o9,none⟩) m J):=N.kb.cell 2;obtain⟨b8,o8,cx,ak,_,bx,aw,a7⟩:=(a9.keep (dB.two QK.out N.gr λb hb=>⟨by omega,by omega⟩)).elem HA.2.2;injection ak with ak
       injection ak with e1 e2
       subst e1 e2;obtain⟨_,cr,rfl,_,a0⟩:=aw;obtain⟨Al,cl,rfl⟩:=a0.form;have x5:=a7 3 _ rfl;have bi:=zH a0;have d4:=zH N;clear Q a7 a0 N
       refine wx (λk=>false) [.is (.pointer (some ⟨M.heap.size,2,none⟩)),.is (.slice (some ⟨b9,o9,none⟩) m J),.is (.slice (some ⟨pg,0,none⟩) Y cq),.is (.int .i64 ((U+1:Nat):Int)),.is (.int .i64 (U:Nat)),.is (.pointer (some ⟨pg,U,none⟩)),.is (.int .i64 (a':Nat))] [4,5] (by kernel_rfl) (by kernel_rfl) (by kernel_rfl)
        (λC=>.c (px C rfl (λ_ _=>rfl)) <| .c (px C rfl (λ_ h=>bH (pX (bc h xb)))) <| .c (px C rfl (λ_ _=>rfl)) <| .c (px C rfl (λ_ _=>rfl)) <| .c (pz [3] [] (by kernel_rfl) λI G wr s B f t=>?_) <| .c (pz [2,4] [] (by kernel_rfl) λI G wr s B f t=>?_) <| .c (px C rfl (λ_ h=>bH (lD (bc h Ib)))) .nil) ?_
       ·have a0:=aA f.1 rfl rfl;clear B f;go_simp;exact t _ _ zR (by show(_:Value)=_;first|rfl|(simp;done)|(simp;omega)|(rw[zHk _ ⟨by omega,by omega⟩];simp;omega)|(simp;rw[zHk _ ⟨by omega,by omega⟩]))
       ·have N:=aA f.1 rfl rfl;have Q:=aA f.2.1 rfl rfl;clear B f;go_simp;exact t _ _ zR (by show(_:Value)=_;simp)
       intro qx d7 Wh H hS;clear H hS;simp only[bJ,List.length,List.take,List.drop,zFd]
       go_frame
       have bj:=bc Wh x5;have La:=zH (zo (bi.keep (.old Wh)));clear x5;go_wp2_with fail
       refine La.mono ?_;rintro e Yw ⟨N,Q,rfl,b0,Ld⟩;have Le:Below V7 V7 Yw:=Wh.trans (Ld.mono Wh.size);have a0:=Z.1.old Le;have cy:=a0.cell 5;have f5:=a0.frozen 5;have b7:=Z.1.lt;have c2:=Wh.size;have aw:=Z.2.1.size;have a7:=zH (zA (Z.2.1.trans (Le.mono aw)) (zA (Z.2.2.1.keep (.old Le)) (zA (Z.2.2.2.keep (.old Le)) b0)));clear b0 Le Ld bj La;go_wp2_with fail
       go_meet
       refine⟨A8,N,nb,c8,(a.ps[a']).cs.length,Q,zH ⟨a7.1.setCell a5 _,?_,?_,?_,a7.2.1.keep (dB.set λb hb=>⟨hb,hb.2⟩)⟩⟩
       ·rw[V9.1];exact a0.put 5 _
       ·rw[V9.2.1];exact a7.2.2.1.keep (dB.set λb hb=>⟨hb,hb.2⟩)
       rw[V9.2.2];exact a7.2.2.2.keep (dB.set λb hb=>⟨⟨by omega,by show b≠E;omega⟩,by show b≠E;omega⟩)
      obtain rfl:q=0:=by omega
      have O:F.parent= -1/\F.bars=[]/\F.lv=[]:=by
       rw[<-a2.out];refine⟨?_,?_,?_⟩<;>rfl
      go_wp2_with fail
      go_meet
      refine⟨none,none,0,0,0,0,zH ⟨rZ.2.1,by rw[O.1];exact rZ.1,by rw[O.2.1];exact⟨none,0,rfl,by simp,Rw.nil⟩,by rw[O.2.2];exact Nd.nil _ _ _,rZ.2.2⟩⟩
     case rest=>
     obtain⟨A4,A5,n4,c4,n5,c5,U⟩:=hcut;obtain⟨V5,rfl⟩:∃z:World,z=wc:=⟨_,rfl⟩
     have ag:=U.1.size;clear rZ;go_upto_if 83 with fail
     go_cut[] (λwx=>∃(A7:Option Addr) (n7 c7:Nat),Hid (Below V5 V5 wx\/True)/\Hid (Below D D wx/\Bk wx E 62 #[F.parent,r.type,.bool (r.form==2),a.window,.slice A4 n4 c4,.slice A5 n5 c5,.slice A6 ng c6,.slice A7 n7 c7]/\Sl (zn d) (λq=>D.heap.size<=q/\q≠E) F.bars (.slice A4 n4 c4) wx/\Nd d (λq=>D.heap.size<=q/\q≠E) F.lv (.slice A5 n5 c5) wx/\Nd d (λq=>D.heap.size<=q/\q≠E) r.gs (.slice A6 ng c6) wx/\Sl (Oa d) (λq=>D.heap.size<=q/\q≠E) F.ends (.slice A7 n7 c7) wx))
     case first=>
      by_cases Z:q+1=Y
      ·obtain rfl:Y=q+1:=by omega
       have a7:=a1.old U.1
       have O:F.ends=[⟨a.id,r.cs,jo a.ps (l+1) a.ps.length⟩]:=by
        rw[<-a2.out];unfold vN;simp only[HP.2.2.2.2,if_true,nN.2.2.2,nN.1]
       clear Z;have V9:=zH O;have v0:V5.cell? ⟨M.heap.size,0,none⟩=some (.int .i64 a.id):=a7.kb.cell 0;have v2:V5.cell? ⟨M.heap.size,2,none⟩=some (.slice (some ⟨b9,o9,none⟩) m J):=a7.kb.cell 2;have v3:V5.cell? ⟨wl.heap.size,3,none⟩=some (.slice Ac nc cc):=(HV.2.2.old U.1).cell 3;have ZJ:Hid (∀w',Below V5 V5 w'->xh d (λq=>S q/\q<w.heap.size) a [.int .i64 a.id,.int .i64 a.window,.slice (some ⟨b9,o9,none⟩) m J] w'):=zH λw' hw=>⟨_,rfl,_,J,by rw[KU.2],by rw[KU.2];exact a6,(a9.keep (dB.two QK.out a7.gr λb hb=>⟨by omega,by omega⟩)).old hw⟩
       obtain⟨nu,af⟩:=zN ((jo a.ps (l+1) a.ps.length).length)
       have ak:nu<=1000000000000:=by rw[<-af,ql (by omega) zL,KU.2];omega
       have XD:=zH af;have al:=zH (HV.2.1.keep (.old U.1));have a4:=zH a7.kb;clear O af a7;go_upto_region 16 with fail
       refine wx (λk=>false) [.is (.pointer (some ⟨M.heap.size,0,none⟩)),.is (.int .i64 a.id),.is (.pointer (some ⟨wl.heap.size,3,none⟩)),.is (.slice Ac nc cc),sS (xg nc (Nd d (λq=>V5.heap.size<=q) r.cs) λA c=>.slice A nc c),.is (.agg #[a.id,a.window,.slice (some ⟨b9,o9,none⟩) m J]),.is (.int .i64 (l:Nat)),.is (.int .i64 ((l+1:Nat):Int)),.is (.pointer (some ⟨M.heap.size,2,none⟩)),.is (.slice (some ⟨b9,o9,none⟩) m J),.is (.int .i64 (m:Nat)),
        sS (xg nu (Bd (λq=>V5.heap.size<=q) V5.heap.size 72 2 (zn d) (jo a.ps (l+1) a.ps.length)) λA c=>.slice A nu c)] [4,5,7,10,11] (by kernel_rfl) (by kernel_rfl) (by kernel_rfl)
        (λC=>.c (px C rfl (λ_ _=>rfl)) <| .c (px C rfl (λ_ h=>bH (lD (bc h v0)))) <| .c (px C rfl (λ_ _=>rfl)) <| .c (px C rfl (λ_ h=>bH (jD (bc h v3)))) <| .c (pz [3] [] (by kernel_rfl) λI G wr s B f t=>?_) <| .c (pz [] [6] (by kernel_rfl) λI G wr s B f t=>?_) <|
         .c (px C rfl (λ_ _=>rfl)) <| .c (pz [6] [] (by kernel_rfl) λI G wr s B f t=>?_) <| .c (px C rfl (λ_ _=>rfl)) <| .c (px C rfl (λ_ h=>bH (pX (bc h v2)))) <| .c (pz [9] [] (by kernel_rfl) λI G wr s B f t=>?_) <| .c (pz [5,7,10] [] (by kernel_rfl) λI G wr s B f t=>?_) .nil) ?_
       ·have av:=aA f.1 rfl rfl;clear B f;go_simp
        go_at_call 23
        have hh:=al.keep (dB.old s);refine(zo hh).mono ?_;rintro e w2 ⟨A,c,rfl,K,h2⟩;rw[nN.2.2.1]at K⊢;exact t _ _ h2 ⟨A,c,rfl,K.keep λq hq y=>⟨zFi s.size hq,y,rfl⟩⟩
       ·exact jw gW (.tmp 6) rfl (aB (B.1.trans rfl)) [.int .i64 a.id,.int .i64 a.window,.slice (some ⟨b9,o9,none⟩) m J] rfl (λi u hu=>by rw[zFr,(a4.old s).cell i];simpa using hu) (t _ _ zR rfl)
       ·have aw:=aA f.1 rfl rfl;clear B f;go_simp;exact t _ _ zR (by show(_:Value)=_;first|rfl|(simp;done)|(simp;omega)|(rw[zHk _ ⟨by omega,by omega⟩];simp)|(simp;rw[zHk _ ⟨by omega,by omega⟩]))
       ·have aq:=aA f.1 rfl rfl;clear B f;go_simp;exact t _ _ zR rfl
       ·have af:=aA f.1 rfl rfl;have ao:=aA f.2.1 rfl rfl;have b0:=aA f.2.2.1 rfl rfl;clear B f;go_simp
        go_at_call 26
        have a7:=VY (i:=l+1) (j:=m) (ZJ.out _ s) (by omega) (by rw[KU.2];exact zFv _);refine a7.mono ?_;rintro e w2 ⟨A,c,rfl,K,h2⟩;rw[show jo a.ps (l+1) m=jo a.ps (l+1) a.ps.length by rw[KU.2],XD.out]at K⊢;exact t _ _ h2 ⟨A,c,rfl,K.wide (λb hb=>zFi s.size hb) s.size⟩
       intro qx w7 Qh H hS;obtain⟨B,G,I,K⟩:=H 4 rfl rfl;obtain⟨N,Q,f,t⟩:=H 11 rfl rfl;clear H hS;simp only[bJ,List.length,List.take,List.drop,zFd]
       go_frame
       generalize qx 11=ap at f⊢;generalize qx 4=ao at I⊢;subst f I;have b1:=Qh.size;have f:=U.2.1.old Qh;have b7:=U.2.1.lt;have I:∀o,(w7.alloc o).cell? ⟨E,7,none⟩=some (.slice none 0 0):=λo=>(f.alloc o).cell 7
       have af:∀o,(w7.alloc o).frozen? ⟨E,7,none⟩=false:=λo=>(f.alloc o).frozen 7
       have H7:=zH (zA f (zA K t));clear K t f v0 v2 v3;go_wp2_with (refine dC Dy rfl _ rfl [.int .i64 a.id,.slice B nc G,.slice N nu Q] rfl rfl ?_;have z7:=I (.cells #[a.id,.slice B nc G,.slice N nu Q] 64);have f7:=af (.cells #[a.id,.slice B nc G,.slice N nu Q] 64))
       go_meet
       have a7:Below D D w7:=U.1.trans (Qh.mono ag);refine⟨some ⟨w7.heap.size,0,none⟩,1,1,zH (.inr trivial),zH ⟨(a7.alloc (by omega) _).setCell a5 _,((H7.1.alloc _).put 7 _),((U.2.2.1.keep (.old Qh)).keep (.old (ba _ _))).keep (dB.set λb hb=>⟨hb,hb.2⟩),((U.2.2.2.1.keep (.old Qh)).keep (.old (ba _ _))).keep (dB.set λb hb=>⟨hb,hb.2⟩),((U.2.2.2.2.keep (.old Qh)).keep (.old (ba _ _))).keep (dB.set λb hb=>⟨hb,hb.2⟩),?_⟩⟩;rw[V9.out];have f:Oa d (λq=>D.heap.size<=q/\q≠E) ⟨a.id,r.cs,jo a.ps (l+1) a.ps.length⟩ [.int .i64 a.id,.slice B nc G,.slice N nu Q] w7:=⟨_,_,rfl,H7.2.1.keep λb hb y=>⟨⟨by omega,by omega⟩,y,rfl⟩,H7.2.2.Kq (λb hb _=>⟨by omega,by omega⟩) (λb hb _=>⟨by omega,by omega⟩) (by rw[XD.out];exact ak)⟩
       refine⟨some ⟨w7.heap.size,0,none⟩,1,rfl,by simp,[(⟨a.id,r.cs,jo a.ps (l+1) a.ps.length⟩,[.int .i64 a.id,.slice B nc G,.slice N nu Q])],rfl,.inr ⟨w7.heap.size,0,rfl,⟨by omega,by omega⟩,by simp,λjj u hu=>?_⟩,λp hp=>?_⟩
       ·have L:=((Bk.new w7 64 #[a.id,.slice B nc G,.slice N nu Q]).far (p:=⟨E,7,none⟩) (by show w7.heap.size≠E;omega) (.slice (some ⟨w7.heap.size,0,none⟩) 1 1))
        rw[zFr,L.cell jj]
        simpa using hu
       simp only[zF6,zGi,zHt]at hp;subst hp;exact CK.keep (dB.set λb hb=>⟨hb,hb.2⟩) (CK.keep (dB.old (ba _ _)) f)
      have K:¬(q:Int)=(Y:Int)-1:=by omega
      have aq:((q:Int)==(Y:Int)-1)=false:=by rw[zFz];exact K
      have O:F.ends=[]:=by
       rw[<-a2.out];unfold vN;simp only[HP.2.2.2.2,zF2 Z]
      go_wp2_with fail
      go_meet
      refine⟨none,0,0,zH (.inr trivial),zH ⟨U.1,U.2.1,U.2.2.1,U.2.2.2.1,U.2.2.2.2,?_⟩⟩;rw[O];exact⟨none,0,rfl,by simp,Rw.nil⟩
     case rest=>
     obtain⟨A7,n7,c7,_,K⟩:=hcut;obtain⟨N,rfl⟩:∃z:World,z=wc:=⟨_,rfl⟩
     have bd:=K.1.size;have B:=a1.old K.1;have I:=B.bD;have z:=B.k4;rw[Zw.out]at I z
     have O:F.type=r.type/\F.many=(r.form==2)/\F.window=a.window/\F.gs=r.gs:=by
      rw[<-a2.out];unfold vN;simp only[nN.2.2.2,nN.1];refine⟨?_,?_,?_,?_⟩<;>first|rfl|trivial
     have Q:Z5 d (λq=>W.heap.size<=q/\some q≠(Value.slice A ns c).ownBlock) F [.int .i64 F.parent,.int .i64 r.type,.bool (r.form==2),.int .i64 a.window,.slice A4 n4 c4,.slice A5 n5 c5,.slice A6 ng c6,.slice A7 n7 c7] N:=by
      have L:dB (λq=>D.heap.size<=q/\q≠E) (λq=>W.heap.size<=q/\some q≠(Value.slice A ns c).ownBlock) N N:=λb hb y=>⟨⟨by have:=a1.gr.size;omega,λe=>by have:=b6 b e.symm;omega⟩,y,rfl⟩
      refine⟨_,_,_,_,by rw[O.1,O.2.1,O.2.2.1],K.2.2.1.keep L,K.2.2.2.1.keep L,?_,K.2.2.2.2.2.keep L⟩;rw[O.2.2.2];exact K.2.2.2.2.1.keep L
     have f:=zH (zA I (zA z (zA Q K.2.1)));have G:=zH B;have z2:N.cell? ⟨g4,2,none⟩=some (.slice A ns c):=z.cell 2;clear I z Q O B U
     go_wp2_with (first|(refine aj yu rfl (.tmp 11) rfl rfl [.int .i64 F.parent,.int .i64 r.type,.bool (r.form==2),.int .i64 a.window,.slice A4 n4 c4,.slice A5 n5 c5,.slice A6 ng c6,.slice A7 n7 c7] rfl (λi v hv=>by rw[zFr,f.2.2.2.cell i];simpa using hv) ?_)|(refine dC yu rfl _ rfl [.int .i64 F.parent,.int .i64 r.type,.bool (r.form==2),.int .i64 a.window,.slice A4 n4 c4,.slice A5 n5 c5,.slice A6 ng c6,.slice A7 n7 c7] rfl rfl ?_)|
      (at_builtin;refine bu yu rfl _ _ rfl rfl (f.1.old (ba _ _)) rfl [.int .i64 F.parent,.int .i64 r.type,.bool (r.form==2),.int .i64 a.window,.slice A4 n4 c4,.slice A5 n5 c5,.slice A6 ng c6,.slice A7 n7 c7] (Bk.new _ _ _) F (CK.keep (dB.old (ba _ _)) f.2.2.1) (by rw[Zw.out];omega) (by have:=G.gr.size;simp;omega) ?_;intro B Q Yw t I z U;rw[Zw.out]at t U⊢;have a0:=(f.2.1.alloc _).grown z (f.1.ne f.2.1 (by decide));have ap:=a0.cell 2;have Z:=a0.frozen 2))
     have U:=G.gr.size;have Ld:Below W.heap.size N Yw:=I _ _ zL (by simp;omega) ((ba _ _).mono (by omega));have iG:(lq a P rJ (q+1)).length=ns+1:=by rw[lq,zFu,Zw.out];rfl
     have I:=z.size;refine⟨⟨q+1,B,Q,am,by go_num,zH ⟨by simp at I⊢;have:=G.sz;omega,eu (dD G.gr Ld),?_,?_,?_,?_⟩⟩,by simp[intOf];omega⟩
     ·rw[iG];exact a0.put 2 _
     ·exact((G.kb.alloc _).grown z (f.1.ne G.kb (by decide))).far (p:=⟨g4,2,none⟩) (by show M.heap.size≠g4;omega) _
     ·exact(((G.pr.old (ba _ _)).kept (S':=λ_=>False) z (G.pr.apart f.1 (by decide)) λb hb=>hb.elim).set (p:=⟨g4,2,none⟩) _ (λb hb=>hb.elim) b5)
     rw[iG,lq,Zw.out,a2.out];exact t.set (p:=⟨g4,2,none⟩) _ (λb hb=>by show b≠g4;omega) b5
    obtain rfl:q=Y:=by omega
    have t:lu (bs.drop (k+1)) (lq a P rJ q)=R:=by
     have:=an.out;rw[zFk y,KU.1,lu,HP.1,HP.2.2.2.2]at this;exact this
    have z:=zH t;have B:(lq a P rJ q).length<=(k+1)*1000:=by rw[nP];omega
    clear t;go_wp2_with fail
    refine⟨?_,by simp[intOf];omega⟩
    repeat apply Exists.intro
    refine⟨?_,rfl⟩;exact⟨k+1,lq a P rJ q,A,c,y,by go_num,B,z,zH ⟨hJ.gr,hJ.k4,hJ.bD⟩⟩
  obtain rfl:k=bs.length:=by omega
  have t:rJ=R:=by
   have:=an.out
   rwa [zFq zL]at this
  subst t;have k2:Bk M (w.heap.size+1) 38 #[(),"",""]:=oK.2.1.grown X.1 (by simp;omega);obtain⟨ns,a3⟩:=zN rJ.length
  rw[a3]at X;have z2:M.cell? ⟨g4,2,none⟩=some (.slice A0 ns c0):=X.2.1.cell 2;have b4:=a8.size;have D:=X.1.size
  by_cases A:32<ns
  ·have r:(32:Int)<(ns:Int):=by omega
   have l:pK ax ks bs=(⟨0,[],[]⟩,4):=by
    unfold pK;rw[aH.out,zF3 (by omega)]
   go_wp2_with (refine ae gZ rfl _ _ rfl rfl [.int .i64 0,.slice none 0 0,.slice none 0 0] rfl k2 rfl rfl rfl ?_;intro B f;have v0:=f.bk.cell 0;have z:=f.bk.cell 1;have v2:=f.bk.cell 2)
   try rw[l]
   refine zFg (v:=.tuple #[.agg #[(),"",""],.int .i64 4]) (by simp[results,results10,go_sem,v0,z,v2]) rfl ?_;exact⟨[_,_,_],rfl,⟨_,_,rfl,⟨none,0,rfl,by simp,Rw.nil⟩,⟨none,0,rfl,by simp,Rw.nil⟩⟩,f.below _ _ (a8.grown X.1 a8.size λk L=>by injection L with L;omega) (by omega)⟩
  have r:¬(32:Int)<(ns:Int):=by omega
  have l:pK ax ks bs=(⟨ax,ks,rJ⟩,0):=by
   unfold pK;rw[aH.out,zF2 (by omega)]
  go_wp2_with (first|(refine aV gZ zq rfl (.tmp 4) rfl rfl [.int .i64 ax,.slice A3 ks.length c3,.slice A0 ns c0] rfl (λi v hv=>by rw[zFr,X.2.1.cell i];simpa using hv) ?_)|
   (refine ae gZ rfl _ _ rfl rfl [.int .i64 ax,.slice A3 ks.length c3,.slice A0 ns c0] rfl k2 rfl rfl rfl ?_;intro B f;have v0:=f.bk.cell 0;have z:=f.bk.cell 1;have v2:=f.bk.cell 2))
  try rw[l]
  refine zFg (v:=.tuple #[.agg #[ax,.slice A3 ks.length c3,.slice A0 ns c0],()]) (by simp[results,results10,go_sem,v0,z,v2]) rfl ?_;refine⟨[_,_,_],rfl,⟨_,_,rfl,?_,?_⟩,f.below _ _ (a8.grown X.1 a8.size λk L=>by injection L with L;omega) (by omega)⟩
  ·exact((oK.2.2.keep (dB.gV X.1 λb hb e=>hb.2 (zGv some e))).keep (dB.fE f λb hb=>by omega)).keep λb hb y=>⟨by omega,y,rfl⟩
  exact((X.2.2.Kq (S:=λq=>W.heap.size<=q) (λb hb _=>hb) (λb hb _=>hb) (by omega)).keep (dB.fE f λb hb=>by omega)).keep λb hb y=>⟨by omega,y,rfl⟩
end
end Go.Proofs.YtbjnhllkdilpfaaGreat
