/- Part 32 of the proof. No conditions. -/
import Derived.Test.YtbjnhllkdilpfaaGreatZf23
set_option linter.unusedVariables false
set_option linter.unusedSimpArgs false
set_option maxRecDepth 100000
set_option maxHeartbeats 16000000
namespace Go.Proofs.YtbjnhllkdilpfaaGreat
open Go.RowKit _root_.Go.Proofs.Tryz
def vK (s:ai) (key:Str) (kd:Int) (p:Nat):List dh->MS->MS
 |[],m=>m
 |x::l,m=>vK s key kd p l (if dA s x.kind key<0 then dI 10 p m else if iq s x.kind (dA s x.kind key)≠kd then dI 11 p m else m)
def ND (s:ai) (key:Str) (kd:Int) (t:Nat):Int:=if 0<=dA s t key/\iq s t (dA s t key)≠kd then -1 else dA s t key
def zBm (s:ai) (key:Str):List dh->Int
 |[]=>0
 |x::_=>iq s x.kind (dA s x.kind key)
def zBn (s:ai) (key:Str) (p:Nat) (m:MS):List dh->MS
 |[]=>m
 |x::_=>if dA s x.kind key<0 then dI 10 p m else m
def keysT (s:ai) (key:Str) (p:Nat) (m:MS):List Int×MS:=
 if key=[]\/m.err≠0 then([],m)
 else((List.range s.types.length).map (ND s key (zBm s key m.items)),vK s key (zBm s key m.items) p m.items (zBn s key p m m.items))
structure PH (b B bx:Nat) (s:ai) (iv:Value) (items:List dh) (cells:Array Value) (w w0:World) (m:MS) (W:World):Prop where
 st:jR b B s iv m W
 gw:w.grownBy W (some b)
 kx:Bk W bx 52 cells
 it:m.items=items
 sz:w0.heap.size<=W.heap.size
section
variable {b B bx:Nat} {s:ai} {iv:Value} {items:List dh} {cells:Array Value} {w w0:World} {m m':MS} {W W':World}
theorem PH.old (h:PH b B bx s iv items cells w w0 m W) (hb:Below W W W'):PH b B bx s iv items cells w w0 m W':=
 ⟨h.st.old hb,h.gw.trans (below_grown hb _),h.kx.old hb,h.it,zFi h.sz hb.size⟩
theorem PH.step (h:PH b B bx s iv items cells w w0 m W) (a:iK b B s iv m' W W') (c:bx≠b) (d:m'.items=m.items):PH b B bx s iv items cells w w0 m' W':=
 ⟨a.st,h.gw.trans a.grown,h.kx.grown a.grown (aG c),d.trans h.it,zFi h.sz a.grown.size⟩
end
theorem U0 (b B:Nat) (s:ai) (iv:Value) (q:MS) (c0 c1 c2 c3:Value) (d:ByteArray) (D:Nat) (w:World) (h:jR b B s iv q w) (ar:b<B) (hn:q.items.length<=1000) (ab:0<q.items.length):
  Calls prog 45 #[.pointer (some ⟨b,0,none⟩),.agg #[c0,c1,c2,c3,d,D]] w λr w'=>
   ∃(A:Option Addr) (n c:Nat),r=.returned (.slice A n c)/\n=(keysT s d.toList D q).1.length/\w'.ownsRow w.heap.size 3 1 (.slice A n c) n (dw (keysT s d.toList D q).1)/\iK b B s iv (keysT s d.toList D q).2 w w':=by
 obtain⟨iT,hT,b1,aw,ax⟩:=zG4 Pq;obtain⟨⟨KS,MF⟩,f⟩:∃z,keysT s d.toList D q=z:=⟨_,rfl⟩
 rw[f];simp only[];have H:=zH f;have HM:=zH h;have b3:=h.bk.lt;have b0:Hid (s.types.length<=3518437208780):=zH h.Eh.len;have a6:Hid (∀(m:MS) (W:World),jR b B s iv m W->∀t:Int,Calls prog 73 #[.agg #[.slice s.ta s.types.length s.tc,.slice s.sa s.syms.length s.sc],t,d] W λe w'=>e=.returned (.int .i64 (dA s t d.toList))/\Below W W w'):=zH λm W h t=>wF s t d W (h.Eh.jQ zR |>.more (zG5 h.bk.lt))
 have Po:Hid (∀(m:MS) (W:World),jR b B s iv m W->∀t a:Int,Calls prog 72 #[.agg #[.slice s.ta s.types.length s.tc,.slice s.sa s.syms.length s.sc],t,a] W λe w'=>e=.returned (.int .i64 (iq s t a))/\Below W.heap.size W w'):=zH λm W h t a=>Ju s t a W (h.Eh.jQ zR |>.more (zG5 h.bk.lt))
 have lF:Hid (∀(e:Nat) (m:MS) (W:World),jR b B s iv m W->Calls prog 71 #[.pointer (some ⟨b,0,none⟩),e,D] W λr w'=>r=.returned (.tuple #[])/\iK b B s iv (dI e D m) W w'):=zH λe m W h=>ku b B s iv m W e D h ar
 have HN:=zH hn;have HP:=zH ab;clear f h hn ab
 go_enter func45,ntmps45
 have E:=Bk.new w 52 #[c0,c1,c2,c3,d,D];have f:Below w w (w.alloc (.cells #[c0,c1,c2,c3,d,D] 52)):=zR.alloc zL _;go_upto_region 1 with fail
 obtain⟨w0,p⟩:=zN (w.alloc (.cells #[c0,c1,c2,c3,d,D] 52))
 rw[p]at E f⊢;clear p;obtain⟨bx,p⟩:=zN w.heap.size
 have kD:=zH p;rw[p]at E⊢;have b8:b<bx:=by omega
 have b2:=E.lt;have a7:bx≠b:=by omega
 have Yb:b<w0.heap.size:=by omega
 have x:Hid (PH b B bx s iv q.items #[c0,c1,c2,c3,d,D] w w0 q w0):=zH ⟨HM.old f,below_grown f _,E,rfl,zFv _⟩;have av:Hid (∀j,iv.ownBlock=some j->j<w0.heap.size):=zH λj hj=>zFs (HM.own.lt j hj).2 f.size
 clear E f p;have x4:w0.cell? ⟨bx,4,none⟩=some (.string d):=x.kx.cell 4;have J:w0.cell? ⟨b,3,none⟩=some (.int .i64 q.err):=x.st.c3;obtain⟨ke,E⟩:=zN d.toList.isEmpty
 obtain⟨er,p⟩:=zN ((q.err:Int) !=0)
 have I:=zH E;have G:=zH p
 have f:(d.toList=[]\/q.err≠0)<->(ke||er)=true:=by
  rw[<-E,<-p,zG8,List.isEmpty_iff,zG1]
  constructor
  ·rintro(h|h)
   ·exact .inl h
   exact .inr (by omega)
  rintro(h|h)
  ·exact .inl h
  exact .inr (by omega)
 have F:=zH f;clear E p f
 go_cut[21] (λv wx=>v=.bool (ke||er)/\w0=wx)
 case first=>
  as_aux_lemma=>
  have hk:=I.out;have he:=G.out;cases ke
  ·have f:¬d.toList=[]:=by intro h;rw[h]at hk;cases hk
   cases er
   all_goals
    go_wp2_with fail
    go_meet
    exact⟨rfl,rfl⟩
  have f:d.toList=[]:=by simpa using hk
  go_wp2_with fail
  go_meet
  exact⟨rfl,rfl⟩
 case rest=>
 obtain⟨rfl,ag⟩:=hcut;subst ag;clear x4 J;obtain⟨st,f⟩:=zN (ke||er)
 have p:Hid ((d.toList=[]\/q.err≠0)<->st=true):=zH (by rw[<-f];exact F.out);rw[f];clear f F I G;cases st
 case true=>
  as_aux_lemma=>
  have G:=H.out;unfold keysT at G;rw[zF3 (p.2 rfl)]at G;injection G with h1 h2
  subst h1;subst h2;clear H;go_wp2
  go_ret
  exact⟨none,0,0,rfl,rfl,zGs _ _ _ _,x.st,x.gw⟩
 case false=>
 have G:=H.out;unfold keysT at G;rw[zF2 (λh=>by have:=p.1 h;cases this)]at G;injection G with h1 h2
 have a1:=zH h1;have Z:=zH h2;clear h1 h2 H p;obtain⟨L,Y⟩:=zN q.items.length
 have ao:0<L:=by rw[<-Y];exact HP.out
 have b9:L<=1000:=by rw[<-Y];exact HN.out
 have HL:=zH Y;obtain⟨AI,S,f,-⟩:=aK x.st.own;rw[Y]at f;subst f
 have f:w0.ownsRow B 151 6 (.slice AI L S) L (q.items.flatMap dh.cells):=by
  have:=x.st.own;rw[Y]at this;exact this
 obtain⟨F,rfl⟩:∃F,AI=some ⟨F,0,none⟩:=by
  rcases f.2 with⟨_,h0⟩|⟨g,E,H,p,_⟩
  ·omega
  injection p with p
  exact⟨g,p⟩
 obtain⟨⟨xn,xb,xp,xo,xf,k0⟩,E⟩:∃z,q.items[0]'(by rw[HL.out];exact ao)=z:=⟨_,rfl⟩
 have p:∃l,q.items=⟨xn,xb,xp,xo,xf,k0⟩::l:=by
  have:=HL.out;cases M:q.items with
  |nil=>rw[M]at this;simp at this;omega
  |cons y l=>exact⟨l,by simp only[M,List.getElem_cons_zero]at E;rw[E]⟩
 obtain⟨H,K⟩:=zN (dA s k0 d.toList)
 obtain⟨Q,O⟩:=zN (iq s k0 H)
 have P:zBm s d.toList q.items=Q:=by
  obtain⟨l,I⟩:=p;rw[I]
  show iq s k0 (dA s k0 d.toList)=Q
  rw[K,O]
 have a2:zBn s d.toList D q q.items=if H<0 then dI 10 D q else q:=by
  obtain⟨l,I⟩:=p;rw[I]
  show(if dA s k0 d.toList<0 then dI 10 D q else q)=_
  rw[K]
 have R:Hid (vK s d.toList Q D q.items (if H<0 then dI 10 D q else q)=MF):=zH (by rw[<-Z.out,P,a2]);have am:Hid ((List.range s.types.length).map (ND s d.toList Q)=KS):=zH (by rw[<-a1.out,P])
 have CX:Hid (∀W:World,jR b B s (.slice (some ⟨F,0,none⟩) L S) q W->Calls prog 73 #[.agg #[.slice s.ta s.types.length s.tc,.slice s.sa s.syms.length s.sc],k0,d] W λe w'=>e=.returned (.int .i64 H)/\Below W.heap.size W w'):=zH λW hW=>by
  have:=a6.out q W hW k0
  rwa [K]at this
 have X8:Hid (∀W:World,jR b B s (.slice (some ⟨F,0,none⟩) L S) q W->Calls prog 72 #[.agg #[.slice s.ta s.types.length s.tc,.slice s.sa s.syms.length s.sc],k0,H] W λe w'=>e=.returned (.int .i64 Q)/\Below W.heap.size W w'):=zH λW hW=>by
  have:=Po.out q W hW k0 H
  rwa [O]at this
 have I:=fM f;obtain⟨gq,oq,hA,a3,J⟩:=I.elem (n:=6) oJ (by omega) (k:=0) (by rw[HL.out];exact ao);injection hA with hA
 injection hA with hA1 hA2
 subst hA1;subst hA2;rw[E]at J;have i5:w0.cell? ⟨F,5,none⟩=some (.int .i64 k0):=by simpa using J 5 _ rfl
 have U:w0.cell? ⟨b,0,none⟩=some (.slice s.ta s.types.length s.tc):=x.st.bk.cell 0;have X:w0.cell? ⟨b,1,none⟩=some (.slice s.sa s.syms.length s.sc):=x.st.bk.cell 1;have i2:w0.cell? ⟨b,2,none⟩=some (.slice (some ⟨F,0,none⟩) L S):=by have:=x.st.bk.cell 2;rw[this];simp
 have x4:w0.cell? ⟨bx,4,none⟩=some (.string d):=x.kx.cell 4;clear E p K O P a2 Z a1 f I a3 J Y;obtain⟨al,O⟩:=zN (decide (H<0))
 go_upto_region 3 with fail
 refine wx (λk => false) [.is (.pointer (some ⟨b, 0, none⟩)),
   .is (.pointer (some ⟨b,0,none⟩)),
   .is (.pointer (some ⟨b,0,none⟩)),
   .is (.agg #[.slice s.ta s.types.length s.tc,.slice s.sa s.syms.length s.sc]),
   .is (.pointer (some ⟨b,0,none⟩)),
   .is (.pointer (some ⟨b,0,none⟩)),
   .is (.pointer (some ⟨b,2,none⟩)),
   .is (.slice (some ⟨F,0,none⟩) L S),
   .is (.pointer (some ⟨F,0,none⟩)),
   .is (.pointer (some ⟨F,5,none⟩)),
   .is (.int .i64 k0),
   .is (.pointer (some ⟨b,0,none⟩)),
   .is (.pointer (some ⟨b,0,none⟩)),
   .is (.pointer (some ⟨b,0,none⟩)),
   .is (.agg #[.slice s.ta s.types.length s.tc,.slice s.sa s.syms.length s.sc]),
   .is (.pointer (some ⟨b,0,none⟩)),
   .is (.pointer (some ⟨b,0,none⟩)),
   .is (.pointer (some ⟨b,2,none⟩)),
   .is (.slice (some ⟨F,0,none⟩) L S),
   .is (.pointer (some ⟨F,0,none⟩)),
   .is (.pointer (some ⟨F,5,none⟩)),
   .is (.int .i64 k0),
   .is (.pointer (some ⟨bx,4,none⟩)),
   .is (.string d),
   .is (.int .i64 H),
   .is (.int .i64 Q),
   .is (.int .i64 Q)] [3,8,14,19,24,25] (by kernel_rfl) (by kernel_rfl) (by kernel_rfl)
   (λC=>.c (px C rfl (λ_ _=>rfl)) <|
   .c (px C rfl (λ_ _=>rfl)) <|
   .c (px C rfl (λ_ _=>rfl)) <|
   .c (pz [2] [] (by kernel_rfl) λZ Y wr p J f I=>?_) <|
   .c (px C rfl (λ_ _=>rfl)) <|
   .c (px C rfl (λ_ _=>rfl)) <|
   .c (px C rfl (λ_ _=>rfl)) <|
   .c (px C rfl (λ_ h=>bH (O5 (bc h i2)))) <|
   .c (pz [7] [] (by kernel_rfl) λZ Y wr p J f I=>?_) <|
   .c (px C rfl (λ_ _=>rfl)) <|
   .c (px C rfl (λ_ h=>bH (lD (bc h i5)))) <|
   .c (px C rfl (λ_ _=>rfl)) <|
   .c (px C rfl (λ_ _=>rfl)) <|
   .c (px C rfl (λ_ _=>rfl)) <|
   .c (pz [13] [] (by kernel_rfl) λZ Y wr p J f I=>?_) <|
   .c (px C rfl (λ_ _=>rfl)) <|
   .c (px C rfl (λ_ _=>rfl)) <|
   .c (px C rfl (λ_ _=>rfl)) <|
   .c (px C rfl (λ_ h=>bH (O5 (bc h i2)))) <|
   .c (pz [18] [] (by kernel_rfl) λZ Y wr p J f I=>?_) <|
   .c (px C rfl (λ_ _=>rfl)) <|
   .c (px C rfl (λ_ h=>bH (lD (bc h i5)))) <|
   .c (px C rfl (λ_ _=>rfl)) <|
   .c (px C rfl (λ_ h=>bH (I7 (bc h x4)))) <|
   .c (pz [14,21,23] [] (by kernel_rfl) λZ Y wr p J f I=>?_) <|
   .c (pz [3,10,24] [] (by kernel_rfl) λZ Y wr p J f I=>?_) <|
   .c (px C rfl (λ_ _=>rfl)) <| .nil) ?_
 ·have a9:=aA f.1 rfl rfl;clear J f;have a4:=zE p U;have a5:=zE p X;go_simp;exact I _ _ zR rfl
 ·have a3:=aA f.1 rfl rfl;clear J f;go_simp;exact I _ _ zR rfl
 ·have ak:=aA f.1 rfl rfl;clear J f;have a4:=zE p U;have a5:=zE p X;go_simp;exact I _ _ zR rfl
 ·have a8:=aA f.1 rfl rfl;clear J f;go_simp;exact I _ _ zR rfl
 ·have a2:=aA f.1 rfl rfl;have aa:=aA f.2.1 rfl rfl;have af:=aA f.2.2.1 rfl rfl;clear J f;go_simp
  go_at_call 73
  refine(CX.out wr (x.st.old p)).mono ?_;rintro r w9 ⟨rfl,dM⟩;exact I _ _ dM rfl
 ·have a1:=aA f.1 rfl rfl;have ad:=aA f.2.1 rfl rfl;have E:=aA f.2.2.1 rfl rfl;clear J f;go_simp
  go_at_call 72
  refine(X8.out wr (x.st.old p)).mono ?_;rintro r w9 ⟨rfl,dM⟩;exact I _ _ dM rfl
 intro qx wr p hR hS;clear hR hS;simp only[bJ,zF0,zGb,zF1,zFp,zFd,zFh,zF4,Act.put,zFf,zFw,zFx];refine zM ?_;have E:=zH (x.old p);have t0:=zE p U;have t1:=zE p X;have t2:=zE p i2;have t5:=zE p i5;have t4:=zE p x4;clear p U X i2 i5 x4 x X8;obtain⟨w1,rfl⟩:∃z:World,z=wr:=⟨_,rfl⟩
 have U:=t0;have X:=t1;have i2:=t2;have i5:=t5;have x4:=t4;have x:=E;clear t0 t1 t2 t5 t4 E;go_upto_region 4 with fail
 refine wx (λk => false) [.is (.pointer (some ⟨b, 0, none⟩)),
   .is (.pointer (some ⟨b,0,none⟩)),
   .is (.pointer (some ⟨b,0,none⟩)),
   .is (.agg #[.slice s.ta s.types.length s.tc,.slice s.sa s.syms.length s.sc]),
   .is (.pointer (some ⟨b,0,none⟩)),
   .is (.pointer (some ⟨b,0,none⟩)),
   .is (.pointer (some ⟨b,2,none⟩)),
   .is (.slice (some ⟨F,0,none⟩) L S),
   .is (.pointer (some ⟨F,0,none⟩)),
   .is (.pointer (some ⟨F,5,none⟩)),
   .is (.int .i64 k0),
   .is (.pointer (some ⟨bx,4,none⟩)),
   .is (.string d),
   .is (.int .i64 H),
   .is (.bool al)] [3,8,13,14] (by kernel_rfl) (by kernel_rfl) (by kernel_rfl)
   (λC=>.c (px C rfl (λ_ _=>rfl)) <|
   .c (px C rfl (λ_ _=>rfl)) <|
   .c (px C rfl (λ_ _=>rfl)) <|
   .c (pz [2] [] (by kernel_rfl) λZ Y wr p J f I=>?_) <|
   .c (px C rfl (λ_ _=>rfl)) <|
   .c (px C rfl (λ_ _=>rfl)) <|
   .c (px C rfl (λ_ _=>rfl)) <|
   .c (px C rfl (λ_ h=>bH (O5 (bc h i2)))) <|
   .c (pz [7] [] (by kernel_rfl) λZ Y wr p J f I=>?_) <|
   .c (px C rfl (λ_ _=>rfl)) <|
   .c (px C rfl (λ_ h=>bH (lD (bc h i5)))) <|
   .c (px C rfl (λ_ _=>rfl)) <|
   .c (px C rfl (λ_ h=>bH (I7 (bc h x4)))) <|
   .c (pz [3,10,12] [] (by kernel_rfl) λZ Y wr p J f I=>?_) <|
   .c (pz [13] [] (by kernel_rfl) λZ Y wr p J f I=>?_) <| .nil) ?_
 ·have a1:=aA f.1 rfl rfl;clear J f;have a4:=zE p U;have a5:=zE p X;go_simp;exact I _ _ zR rfl
 ·have a3:=aA f.1 rfl rfl;clear J f;go_simp;exact I _ _ zR rfl
 ·have a9:=aA f.1 rfl rfl;have E:=aA f.2.1 rfl rfl;have a2:=aA f.2.2.1 rfl rfl;clear J f;go_simp
  go_at_call 73
  refine(CX.out wr (x.st.old p)).mono ?_;rintro r w9 ⟨rfl,dM⟩;exact I _ _ dM rfl
 ·have a8:=aA f.1 rfl rfl;clear J f;go_simp;refine I _ _ zR ?_
  show(_:Value)=_
  first|rfl|rw[O]|(simp[O];done)
 intro qx wr p hR hS;clear hR hS;simp only[bJ,zF0,zGb,zF1,zFp,zFd,zFh,zF4,Act.put,zFf,zFw,zFx];refine zM ?_;have lG:=zH (x.old p);have t5:=(lG.kx.cell 5)
 clear p U X i2 i5 x4 x CX;obtain⟨w2,rfl⟩:∃z:World,z=wr:=⟨_,rfl⟩
 obtain⟨m1,a1⟩:=zN (if al=true then dI 10 D q else q)
 have E:(if H<0 then dI 10 D q else q)=m1:=by
  rw[<-a1,<-O]
  by_cases h:H<0<;>simp[h]
 have ad:Hid (vK s d.toList Q D (q.items.drop 0) m1=MF):=zH (by rw[zFp,<-E];exact R.out);have IP:=zH a1;clear O a1 E R;go_upto_if 62 with fail
 go_cut[] (λwx=>Hid (PH b B bx s (.slice (some ⟨F,0,none⟩) L S) q.items #[c0,c1,c2,c3,d,D] w w0 m1 wx))
 case first=>
  as_aux_lemma=>
  have M:=IP.out;cases al
  ·rw[zF2 (by decide)]at M;subst M;clear IP;go_wp2_with fail
   go_meet
   exact lG
  rw[zF3 rfl]at M;have HF:=zH (lF.out 10 q w2 lG.st);rw[M]at HF;have a1:m1.items=q.items:=by rw[<-M];exact bP _ _ _
  clear IP M;go_wp2_with fail
  refine HF.mono ?_;rintro r w5 ⟨rfl,E⟩;have R:=zH (lG.step E a7 a1);clear HF E t5;go_wp2_with fail
  go_meet
  exact R
 case rest=>
 rename World=>GU
 have E:=hcut;clear lG hcut t5 IP;obtain⟨w3,rfl⟩:∃z:World,z=GU:=⟨_,rfl⟩
 have i2:w3.cell? ⟨b,2,none⟩=some (.slice (some ⟨F,0,none⟩) L S):=by have:=E.st.bk.cell 2;rw[this];simp
 go_upto_region 6 with fail
 go_wp2_with fail
 clear i2
 go_loopw[72] (λi wr=>∃(k:Nat) (m:MS),k<=L/\i=.int .i64 k/\Hid (vK s d.toList Q D (q.items.drop k) m=MF)/\Hid (PH b B bx s (.slice (some ⟨F,0,none⟩) L S) q.items #[c0,c1,c2,c3,d,D] w w0 m wr)) (λi _=>L-(intOf i).toNat)
 case atStart=>exact⟨0,m1,zFj _,rfl,ad,E⟩
 case round=>
  clear ad E;obtain⟨k,m,hk,rfl,HR,x⟩:=hrel;obtain⟨R,rfl⟩:∃R:World,R=wr:=⟨_,rfl⟩
  by_cases a9:k<L
  ·
   have an:k<q.items.length:=by rw[HL.out];exact a9
   have a2:=x.st.own;rw[x.it]at a2;rw[HL.out]at a2;obtain⟨g,o,hA,hg,hc⟩:=(fM a2).elem (n:=6) oJ (by omega) an;injection hA with hA
   injection hA with hA1 hA2
   subst hA1;subst hA2;have G:=HR.out;rw[zFk an]at G;obtain⟨⟨nm,xb,xp,xo,xf,xk⟩,hx⟩:∃z,q.items[k]=z:=⟨_,rfl⟩
   rw[hx]at hc G;obtain⟨M,hM⟩:=zN (bytes nm)
   have r0:R.cell? ⟨F,k*6,none⟩=some (.string M):=by have:=hc 0 _ rfl;simpa[hM]using this
   have r1:R.cell? ⟨F,k*6+1,none⟩=some (.int .i64 xb):=by have:=hc 1 _ rfl;simpa using this
   have r2:R.cell? ⟨F,k*6+2,none⟩=some (.int .i64 xp):=by have:=hc 2 _ rfl;simpa using this
   have r3:R.cell? ⟨F,k*6+3,none⟩=some (.int .i64 xo):=by have:=hc 3 _ rfl;simpa using this
   have r4:R.cell? ⟨F,k*6+4,none⟩=some (.int .i64 xf):=by have:=hc 4 _ rfl;simpa using this
   have r5:R.cell? ⟨F,k*6+5,none⟩=some (.int .i64 xk):=by have:=hc 5 _ rfl;simpa using this
   obtain⟨H,K⟩:=zN (dA s xk d.toList)
   obtain⟨kk,P⟩:=zN (iq s xk H)
   have a3:vK s d.toList Q D (q.items.drop (k+1)) (if dA s xk d.toList<0 then dI 10 D m else if iq s xk (dA s xk d.toList)≠Q then dI 11 D m else m)=MF:=G;rw[K,P]at a3;have aa:=zH a3
   have CX:Hid (∀W:World,jR b B s (.slice (some ⟨F,0,none⟩) L S) m W->Calls prog 73 #[.agg #[.slice s.ta s.types.length s.tc,.slice s.sa s.syms.length s.sc],xk,d] W λe w'=>e=.returned (.int .i64 H)/\Below W.heap.size W w'):=zH λW hW=>by
    have:=a6.out m W hW xk
    rwa [K]at this
   have oK:Hid (∀W:World,jR b B s (.slice (some ⟨F,0,none⟩) L S) m W->Calls prog 72 #[.agg #[.slice s.ta s.types.length s.tc,.slice s.sa s.syms.length s.sc],xk,H] W λe w'=>e=.returned (.int .i64 kk)/\Below W.heap.size W w'):=zH λW hW=>by
    have:=Po.out m W hW xk H
    rwa [P]at this
   clear a2 hg hc G a3 hx K P hM HR a6 Po;go_upto_region 9 with(first|(refine ae iw rfl _ _ rfl rfl [.string M,.int .i64 xb,.int .i64 xp,.int .i64 xo,.int .i64 xf,.int .i64 xk] rfl (Bk.new R _ _) rfl rfl rfl ?_;intro w4 p4))
   have a8:Below R R w4:=p4.below _ _ (zR.alloc zL _) zL;have kt:=p4.bk;obtain⟨gt,a2⟩:=zN R.heap.size
   rw[a2]at kt⊢;have Ym:gt≠b:=by have:=x.sz;omega
   have lG:=zH (zA (x.old a8) kt);have U:w4.cell? ⟨b,0,none⟩=some (.slice s.ta s.types.length s.tc):=lG.1.st.bk.cell 0;have X:w4.cell? ⟨b,1,none⟩=some (.slice s.sa s.syms.length s.sc):=lG.1.st.bk.cell 1;have x4:w4.cell? ⟨bx,4,none⟩=some (.string d):=lG.1.kx.cell 4;have y5:w4.cell? ⟨gt,5,none⟩=some (.int .i64 xk):=kt.cell 5;clear r0 r1 r2 r3 r4 r5 a8 p4 kt a2 x;have x:Hid (PH b B bx s (.slice (some ⟨F,0,none⟩) L S) q.items #[c0,c1,c2,c3,d,D] w w0 m w4):=zH lG.1
   refine wx (λk => false) [.is (.pointer (some ⟨b, 0, none⟩)),
     .is (.pointer (some ⟨b,0,none⟩)),
     .is (.pointer (some ⟨b,0,none⟩)),
     .is (.agg #[.slice s.ta s.types.length s.tc,.slice s.sa s.syms.length s.sc]),
     .is (.pointer (some ⟨gt,5,none⟩)),
     .is (.int .i64 xk),
     .is (.pointer (some ⟨bx,4,none⟩)),
     .is (.string d),
     .is (.int .i64 H),
     .is (.int .i64 H)] [3,8] (by kernel_rfl) (by kernel_rfl) (by kernel_rfl)
     (λC=>.c (px C rfl (λ_ _=>rfl)) <|
     .c (px C rfl (λ_ _=>rfl)) <|
     .c (px C rfl (λ_ _=>rfl)) <|
     .c (pz [2] [] (by kernel_rfl) λZ Y wr p J f I=>?_) <|
     .c (px C rfl (λ_ _=>rfl)) <|
     .c (px C rfl (λ_ h=>bH (lD (bc h y5)))) <|
     .c (px C rfl (λ_ _=>rfl)) <|
     .c (px C rfl (λ_ h=>bH (I7 (bc h x4)))) <|
     .c (pz [3,5,7] [] (by kernel_rfl) λZ Y wr p J f I=>?_) <|
     .c (px C rfl (λ_ _=>rfl)) <| .nil) ?_
   ·have a2:=aA f.1 rfl rfl;clear J f;have a4:=zE p U;have a5:=zE p X;go_simp;exact I _ _ zR rfl
   ·have a8:=aA f.1 rfl rfl;have ak:=aA f.2.1 rfl rfl;have af:=aA f.2.2.1 rfl rfl;clear J f;go_simp
    go_at_call 73
    refine(CX.out wr (x.st.old p)).mono ?_;rintro r w9 ⟨rfl,dM⟩;exact I _ _ dM rfl
   intro qx wr p hR hS;clear hR hS;simp only[bJ,zF0,zGb,zF1,zFp,zFd,zFh,zF4,Act.put,zFf,zFw,zFx];refine zM ?_;have E:=zH (zA (x.old p) (lG.2.old p));clear p U X x4 y5 x lG CX;obtain⟨w5,rfl⟩:∃z:World,z=wr:=⟨_,rfl⟩
   have x5:w5.cell? ⟨bx,5,none⟩=some (.int .i64 D):=E.1.kx.cell 5
   by_cases O:H<0
   ·as_aux_lemma=>
    have G:=aa.out;rw[zF3 O]at G;have a2:=zH G;have HF:=zH (lF.out 10 m w5 E.1.st);have a1:(dI 10 D m).items=m.items:=bP _ _ _;clear G aa oK;go_wp2_with fail
    refine HF.mono ?_;rintro r w6 ⟨rfl,a8⟩;have ap:=zH (E.1.step a8 a7 a1);clear HF a8 x5 a1;go_wp2
    go_roundw
    case rel=>exact⟨k+1,dI 10 D m,by omega,by go_num,a2,ap⟩
    case measure=>simp[intOf];omega
   
   have G:=aa.out;rw[zF2 O]at G;obtain⟨ne,a8⟩:=zN (kk !=Q)
   have a3:vK s d.toList Q D (q.items.drop (k+1)) (if ne=true then dI 11 D m else m)=MF:=by
    rw[<-G,<-a8]
    congr 1
    by_cases h:kk=Q<;>simp[h]
   have a2:=zH a3;have HF:=zH (lF.out 11 m);have a1:(dI 11 D m).items=m.items:=bP _ _ _;have ak:=zH a1;have U:w5.cell? ⟨b,0,none⟩=some (.slice s.ta s.types.length s.tc):=E.1.st.bk.cell 0;have X:w5.cell? ⟨b,1,none⟩=some (.slice s.sa s.syms.length s.sc):=E.1.st.bk.cell 1;have y5:w5.cell? ⟨gt,5,none⟩=some (.int .i64 xk):=E.2.cell 5;have x:Hid (PH b B bx s (.slice (some ⟨F,0,none⟩) L S) q.items #[c0,c1,c2,c3,d,D] w w0 m w5):=zH E.1;clear G a3 aa a1;go_upto_region 12 with fail
   refine wx (λk => false) [.is (.pointer (some ⟨b, 0, none⟩)),
     .is (.pointer (some ⟨b,0,none⟩)),
     .is (.pointer (some ⟨b,0,none⟩)),
     .is (.agg #[.slice s.ta s.types.length s.tc,.slice s.sa s.syms.length s.sc]),
     .is (.pointer (some ⟨gt,5,none⟩)),
     .is (.int .i64 xk),
     .is (.int .i64 H),
     .is (.int .i64 kk),
     .is (.int .i64 Q),
     .is (.bool ne)] [3,7,9] (by kernel_rfl) (by kernel_rfl) (by kernel_rfl)
     (λC=>.c (px C rfl (λ_ _=>rfl)) <|
     .c (px C rfl (λ_ _=>rfl)) <|
     .c (px C rfl (λ_ _=>rfl)) <|
     .c (pz [2] [] (by kernel_rfl) λZ Y wr p J f I=>?_) <|
     .c (px C rfl (λ_ _=>rfl)) <|
     .c (px C rfl (λ_ h=>bH (lD (bc h y5)))) <|
     .c (px C rfl (λ_ _=>rfl)) <|
     .c (pz [3,5,6] [] (by kernel_rfl) λZ Y wr p J f I=>?_) <|
     .c (px C rfl (λ_ _=>rfl)) <|
     .c (pz [7,8] [] (by kernel_rfl) λZ Y wr p J f I=>?_) <| .nil) ?_
   ·have b4:=aA f.1 rfl rfl;clear J f;have a4:=zE p U;have a5:=zE p X;go_simp;exact I _ _ zR rfl
   ·have aq:=aA f.1 rfl rfl;have b5:=aA f.2.1 rfl rfl;have b7:=aA f.2.2.1 rfl rfl;clear J f;go_simp
    go_at_call 72
    refine(oK.out wr (x.st.old p)).mono ?_;rintro r w9 ⟨rfl,dM⟩;exact I _ _ dM rfl
   ·have b6:=aA f.1 rfl rfl;have af:=aA f.2.1 rfl rfl;clear J f;go_simp;refine I _ _ zR ?_
    show(_:Value)=_
    first|rfl|rw[a8]|(simp[a8];done)
   intro qx wr p hR hS;clear hR hS;simp only[bJ,zF0,zGb,zF1,zFp,zFd,zFh,zF4,Act.put,zFf,zFw,zFx];refine zM ?_;have iW:=zH (x.old p);have aq:=iW.kx.cell 5;clear p U X y5 x5 x E oK a8;obtain⟨w6,rfl⟩:∃z:World,z=wr:=⟨_,rfl⟩
   cases ne
   case false=>
    have G:=a2.out;rw[zF2 (by decide)]at G;have a8:=zH G;clear G a2 HF;go_wp2
    go_roundw
    case rel=>exact⟨k+1,m,by omega,by go_num,a8,iW⟩
    case measure=>simp[intOf];omega
   case true=>
    have G:=a2.out;rw[zF3 rfl]at G;have a8:=zH G;clear G a2;go_wp2_with fail
    refine(HF.out _ iW.st).mono ?_;rintro r w7 ⟨rfl,af⟩;have Xj:=zH (iW.step af a7 ak.out);clear HF af aq;go_wp2
    go_roundw
    case rel=>exact⟨k+1,dI 11 D m,by omega,by go_num,a8,Xj⟩
    case measure=>simp[intOf];omega
  obtain rfl:k=L:=by omega
  have G:=HR.out;rw[zFq (by rw[HL.out];exact zFv _)]at G;have G:m=MF:=G;subst G;obtain⟨N,hN⟩:=zN s.types.length
  have yS:=zH hN
  have b4:N<=3518437208780:=by
   have:=b0.out;omega
  have U:R.cell? ⟨b,0,none⟩=some (.slice s.ta N s.tc):=by rw[<-hN];exact x.st.bk.cell 0
  clear HR a9 hk hN;go_wp2_with fail
  clear U
  go_loopw[9,112] (λl i wr=>∃(j:Nat) (A:Option Addr) (c:Nat),j<=N/\l=.slice A j c/\i=.int .i64 j/\Hid (PH b B bx s (.slice (some ⟨F,0,none⟩) k S) q.items #[c0,c1,c2,c3,d,D] w w0 m wr)/\Hid (wr.ownsRow w0.heap.size 3 1 (.slice A j c) j (dw ((List.range j).map (ND s d.toList Q))))) (λ_ i _=>N-(intOf i).toNat)
  case atStart=>exact⟨0,none,0,zFj _,rfl,rfl,x,zH (zGs _ _ _ _)⟩
  case round=>
   clear x;obtain⟨j,A,c,hj,rfl,rfl,x,HO⟩:=hrel;obtain⟨R,rfl⟩:∃R:World,R=wr:=⟨_,rfl⟩
   by_cases a9:j<N
   ·
    obtain⟨H,K⟩:=zN (dA s (j:Int) d.toList)
    obtain⟨kk,P⟩:=zN (iq s (j:Int) H)
    obtain⟨cv,af⟩:=zN (ND s d.toList Q j)
    obtain⟨ak,a2⟩:=zN (decide (0<=H)&&(kk !=Q))
    have a8:(if ak=true then(-1:Int)else H)=cv:=by
     rw[<-af,<-a2];unfold ND;rw[K,P]
     by_cases h1:0<=H<;>by_cases h2:kk=Q<;>simp[h1,h2]
    have ap:=zH a8;have aq:=zH af;have a1:=zH a2
    have CX:Hid (∀W:World,jR b B s (.slice (some ⟨F,0,none⟩) k S) m W->Calls prog 73 #[.agg #[.slice s.ta s.types.length s.tc,.slice s.sa s.syms.length s.sc],j,d] W λe w'=>e=.returned (.int .i64 H)/\Below W.heap.size W w'):=zH λW hW=>by
     have:=a6.out m W hW j
     rwa [K]at this
    have oK:Hid (∀W:World,jR b B s (.slice (some ⟨F,0,none⟩) k S) m W->Calls prog 72 #[.agg #[.slice s.ta s.types.length s.tc,.slice s.sa s.syms.length s.sc],j,H] W λe w'=>e=.returned (.int .i64 kk)/\Below W.heap.size W w'):=zH λW hW=>by
     have:=Po.out m W hW j H
     rwa [P]at this
    have U:R.cell? ⟨b,0,none⟩=some (.slice s.ta s.types.length s.tc):=x.st.bk.cell 0;have X:R.cell? ⟨b,1,none⟩=some (.slice s.sa s.syms.length s.sc):=x.st.bk.cell 1;have x4:R.cell? ⟨bx,4,none⟩=some (.string d):=x.kx.cell 4;clear K P af a8 a2 a6 Po;go_upto_region 19 with fail
    refine wx (λk => false) [.is (.pointer (some ⟨b, 0, none⟩)),
      .is (.pointer (some ⟨b,0,none⟩)),
      .is (.pointer (some ⟨b,0,none⟩)),
      .is (.agg #[.slice s.ta s.types.length s.tc,.slice s.sa s.syms.length s.sc]),
      .is (.int .i64 j),
      .is (.pointer (some ⟨bx,4,none⟩)),
      .is (.string d),
      .is (.int .i64 H),
      .is (.int .i64 H)] [3,7] (by kernel_rfl) (by kernel_rfl) (by kernel_rfl)
      (λC=>.c (px C rfl (λ_ _=>rfl)) <|
      .c (px C rfl (λ_ _=>rfl)) <|
      .c (px C rfl (λ_ _=>rfl)) <|
      .c (pz [2] [] (by kernel_rfl) λZ Y wr p J f I=>?_) <|
      .c (px C rfl (λ_ _=>rfl)) <|
      .c (px C rfl (λ_ _=>rfl)) <|
      .c (px C rfl (λ_ h=>bH (I7 (bc h x4)))) <|
      .c (pz [3,4,6] [] (by kernel_rfl) λZ Y wr p J f I=>?_) <|
      .c (px C rfl (λ_ _=>rfl)) <| .nil) ?_
    ·have Y:=aA f.1 rfl rfl;clear J f;have a4:=zE p U;have a5:=zE p X;go_simp;exact I _ _ zR rfl
    ·have a2:=aA f.1 rfl rfl;have e:=aA f.2.1 rfl rfl;have Z:=aA f.2.2.1 rfl rfl;clear J f;go_simp
     go_at_call 73
     refine(CX.out wr (x.st.old p)).mono ?_;rintro r w9 ⟨rfl,dM⟩;exact I _ _ dM rfl
    intro qx wr p hR hS;clear hR hS;simp only[bJ,zF0,zGb,zF1,zFp,zFd,zFh,zF4,Act.put,zFf,zFw,zFx];refine zM ?_;have E:=zH (x.old p);have e:=zH (aT HO.out p);have t0:=zE p U;have t1:=zE p X;clear p U X x4 x HO CX;obtain⟨w5,rfl⟩:∃z:World,z=wr:=⟨_,rfl⟩
    go_upto_region 20 with fail
    go_cut[135] (λv wx=>v=.bool ak/\Hid (PH b B bx s (.slice (some ⟨F,0,none⟩) k S) q.items #[c0,c1,c2,c3,d,D] w w0 m wx/\wx.ownsRow w0.heap.size 3 1 (.slice A j c) j (dw ((List.range j).map (ND s d.toList Q)))))
    case first=>
     as_aux_lemma=>
     have hb:=a1.out
     by_cases h0:0<=H
     ·have I:decide (0<=H)=true:=by simpa using h0
      rw[I,zJc]at hb;have J:=zH hb;clear hb I;go_wp2_with fail
      refine(oK.out _ E.st).mono ?_;rintro r w6 ⟨rfl,f⟩;have iW:=zH (zA (E.old f) (aT e.out f));have hb:=J.out;clear f oK J t0 t1 a1;go_wp2_with fail
      go_meet
      exact⟨by first|rfl|rw[hb],iW⟩
     have I:decide (0<=H)=false:=by simpa using h0
     rw[I,zJh]at hb;subst hb;clear a1 I;go_wp2_with fail
     go_meet
     exact⟨rfl,zH ⟨E.out,e.out⟩⟩
    case rest=>
    rename World=>GU
    obtain⟨rfl,iW⟩:=hcut;clear E e t0 t1 oK a1;obtain⟨w6,rfl⟩:∃z:World,z=GU:=⟨_,rfl⟩
    go_upto_if 135 with fail
    go_cut[11] (λv wx=>v=.int .i64 cv/\w6=wx)
    case first=>
     as_aux_lemma=>
     have hc:=ap.out;cases ak
     ·rw[zF2 (by decide)]at hc;subst hc;go_wp2_with fail
      go_meet
      exact⟨rfl,rfl⟩
     rw[zF3 rfl]at hc;subst hc;go_wp2_with fail
     go_meet
     exact⟨rfl,rfl⟩
    case rest=>
    obtain⟨rfl,ag⟩:=hcut;subst ag;have Y:Below w6 w6 (w6.alloc (.cells #[cv] 3)):=zR.alloc zL _;have z:=aT iW.2 Y;have uT:w0.heap.size<=(w6.alloc (.cells #[cv] 3)).heap.size:=by have:=iW.1.sz;simp;omega
    have r:=zH (iW.1.old Y);clear iW ap;go_wp2_with (first|at_builtin;(refine aU (by rfl) _ _ 26 (by rfl) w0.heap.size 3 iT _ 1 8 underlying26 hT b1 aw ax rfl (by decide) (.slice A j c) j _ (by rfl) z (w6.heap.size+1) (some ⟨w6.heap.size,0,none⟩) 1 1 [.int .i64 cv] (by rfl) (Rd.lit rfl _ _) (by rfl) ?c2 ?c3 ?c4 uT ?_))
    case c2=>intro u e;simp at e;subst e;rfl
    case c3=>unfold maxLen;omega
    case c4=>omega
    intro A6 Z w7 e I _
    have f:some bx≠(Value.slice A j c).ownBlock:=by
     intro he;have:=(z.lt bx he.symm).1;omega
    have vI:Hid (PH b B bx s (.slice (some ⟨F,0,none⟩) k S) q.items #[c0,c1,c2,c3,d,D] w w0 m w7):=zH
     ⟨r.st.UG z Yb av.out I,by
      have J:w.heap.size<=w0.heap.size:=by have:=kD.out;omega
      exact Ff r.gw z J I,r.kx.grown I f,r.it,by have:=I.size;have:=r.sz;omega⟩
    have J:Hid (w7.ownsRow w0.heap.size 3 1 (.slice A6 (j+1) Z) (j+1) (dw ((List.range (j+1)).map (ND s d.toList Q)))):=zH (by
     rw[List.range_succ,zGr];unfold dw at e⊢;rw[zGr];simp only[zGq,zHc,aq.out]
     exact e)
    clear e I z uT f Y r aq;go_wp2
    go_roundw
    case rel=>exact⟨j+1,A6,Z,by omega,rfl,by go_num,vI,J⟩
    case measure=>simp[intOf];omega
   as_aux_lemma=>
   obtain rfl:j=N:=by omega
   have f:Hid (R.ownsRow w.heap.size 3 1 (.slice A j c) j (dw KS)):=zH (by
    rw[<-am.out,yS.out]
    exact bV HO.out (by have:=kD.out;omega))
   have e:Hid (j=KS.length):=zH (by rw[<-am.out,yS.out];simp);have HF:Hid (iK b B s (.slice (some ⟨F,0,none⟩) k S) m w R):=zH ⟨x.st,x.gw⟩;clear HO am x a9 hj;go_wp2
   go_ret
   exact⟨A,j,c,rfl,e.out,f.out,HF.out⟩
end Go.Proofs.YtbjnhllkdilpfaaGreat
