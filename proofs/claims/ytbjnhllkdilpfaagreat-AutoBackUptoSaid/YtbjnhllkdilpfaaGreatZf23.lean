/- Part 23 of the proof. No conditions. -/
import Derived.Test.YtbjnhllkdilpfaaGreatZf21
import Derived.Test.YtbjnhllkdilpfaaGreatZf22
set_option linter.unusedVariables false
set_option linter.unusedSimpArgs false
set_option maxRecDepth 100000
set_option maxHeartbeats 16000000
namespace Go.Proofs.YtbjnhllkdilpfaaGreat
open Go.RowKit _root_.Go.Proofs.Tryz
structure dh where
 name:Str
 br:Nat
 part:Nat
 pos:Nat
 form:Nat
 kind:Int
def Nh:dh:=⟨[],0,0,0,0,0⟩
def dh.cells (x:dh):List Value:=[.string (bytes x.name),.int .i64 x.br,.int .i64 x.part,.int .i64 x.pos,.int .i64 x.form,.int .i64 x.kind]
theorem oJ (x:dh):x.cells.length=6:=rfl
def ed (name:Str):List dh->dh×Bool
 |[]=>(Nh,false)
 |x::l=>if x.name=name then(x,true)else ed name l
structure MS where
 items:List dh
 err:Nat
 pos:Nat
def dI (e p:Nat) (m:MS):MS:=if m.err=0 then⟨m.items,e,p⟩else m
theorem ai.ok.jQ {s:ai} {w w':World} {b:Nat} (h:s.ok w b) (hb:Below b w w'):s.ok w' b:=
 ⟨h.rd.below hb,h.len,λt a=>⟨(h.each t a).rd.below hb,(h.each t a).len,(h.each t a).Ut,(h.each t a).Uu⟩,h.syms.below hb,h.slen,h.ssize⟩
structure jR (b B:Nat) (s:ai) (iv:Value) (m:MS) (W:World):Prop where
 bk:Bk W b 103 #[.slice s.ta s.types.length s.tc,.slice s.sa s.syms.length s.sc,iv,m.err,m.pos]
 Eh:s.ok W b
 own:W.ownsRow B 151 6 iv m.items.length (m.items.flatMap dh.cells)
theorem GG:(prog.info? 151).map (λi=>(i.zero,i.size,i.bytes))=some (some (.agg #[.string ⟨#[]⟩,(),(),(),(),()]),6,56):=by kernel_rfl
theorem iw (w:World):(sizeOf 151).run prog w=.ok 6 w:=by
 obtain⟨i,b,c,a,d⟩:=zG4 GG;simp[sizeOf,typeInfo,b,a]
section
variable {b B:Nat} {s:ai} {iv:Value} {m:MS} {W W':World}
theorem jR.old (h:jR b B s iv m W) (hb:Below W W W'):jR b B s iv m W':=
 ⟨h.bk.old hb,h.Eh.jQ (hb.mono (zG5 h.bk.lt)),aT h.own hb⟩
theorem jR.c3 (h:jR b B s iv m W):W.cell? ⟨b,3,none⟩=some (.int .i64 m.err):=h.bk.cell 3
theorem jR.c4 (h:jR b B s iv m W):W.cell? ⟨b,4,none⟩=some (.int .i64 m.pos):=h.bk.cell 4
theorem jR.zEi (h:jR b B s iv m W) (a:b<B) (e p:Nat):jR b B s iv ⟨m.items,e,p⟩ ((W.setCell ⟨b,3,none⟩ (.int .i64 e)).setCell ⟨b,4,none⟩ (.int .i64 p)):=
 have c:W.grownBy ((W.setCell ⟨b,3,none⟩ (.int .i64 e)).setCell ⟨b,4,none⟩ (.int .i64 p)) (some b):=cO (cO (zF8 _ _))
 ⟨by simpa using(h.bk.put 3 (.int .i64 e)).put 4 (.int .i64 p),h.Eh.jQ (sW c (zG5 h.bk.lt)),ik h.own c a⟩
end
structure iK (b B:Nat) (s:ai) (iv:Value) (m:MS) (w w':World):Prop where
 st:jR b B s iv m w'
 grown:w.grownBy w' (some b)
section
variable (b B:Nat) (s:ai) (iv:Value) (m:MS) (w:World)
theorem ku (e p:Nat) (h:jR b B s iv m w) (c:b<B):
  Calls prog 71 #[.pointer (some ⟨b,0,none⟩),e,p] w λr w'=>r=.returned (.tuple #[])/\iK b B s iv (dI e p m) w w':=by
 have j:=h.c3;unfold dI
 by_cases a:m.err=0
 ·rw[zF3 a];have g:((m.err:Int)==0)=true:=by rw[zFt];omega
  have i:=h.bk.frozen 3;have f:=zH (h.zEi c e p);have d:=h.bk.put 3 (.int .i64 e);have k:=(d.cell 4)
  have l:=d.frozen 4;clear d h a
  go_enter func71,ntmps71
  go_wp2
  first|go_end0|refine zHg (v:=.tuple #[]) (by simp[results,results71,go_sem]) rfl ?_
  exact⟨rfl,f.out,cO (cO (zF8 _ _))⟩
 rw[zF2 a];have g:((m.err:Int)==0)=false:=zB (by omega)
 clear a
 go_enter func71,ntmps71
 go_wp2
 first|go_end0|refine zHg (v:=.tuple #[]) (by simp[results,results71,go_sem]) rfl ?_
 exact⟨rfl,h,zF8 _ _⟩
theorem xP (S:ByteArray) (h:jR b B s iv m w) (hn:m.items.length<=1000):
  Calls prog 70 #[.pointer (some ⟨b,0,none⟩),S] w λr w'=>r=.returned (.tuple #[.agg (ed S.toList m.items).1.cells.toArray,.bool (ed S.toList m.items).2])/\Below w w w':=by
 obtain⟨A,c,rfl,-⟩:=aK h.own;have f:=fM h.own;have K:w.cell? ⟨b,2,none⟩=some (.slice A m.items.length c):=h.bk.cell 2;have W:=h.bk.lt;obtain⟨e,d⟩:=zN (ed S.toList m.items)
 rw[d];have Q:Hid (ed S.toList (m.items.drop 0)=e):=zH d;have Z:=zH f;obtain⟨a,l⟩:=zN m.items
 rw[l]at K Q Z hn;clear h f d l
 go_enter func70,ntmps70
 go_upto_region 1 with fail
 have p:=Bk.new w 151 #[.string ⟨#[]⟩,(),(),(),(),()];have d:Below w w (w.alloc (.cells #[.string ⟨#[]⟩,(),(),(),(),()] 151)):=zR.alloc zL _;replace K:=(bK d b 2 W).trans K;generalize w.alloc (.cells #[.string ⟨#[]⟩,(),(),(),(),()] 151)=X at *;have I:=p.lt;have l:=d.size;have X8:=zH p;have E:=zH d;generalize f:w.heap.size=Y at *;have O:=zH f;clear p d f;go_wp2_with fail
 clear K
 go_loopw[13] (λi wr=>∃k:Nat,k<=a.length/\i=.int .i64 k/\Hid (ed S.toList (a.drop k)=e)/\Hid (Below X X wr)) (λi _=>a.length-(intOf i).toNat)
 case atStart=>exact⟨0,zFj _,rfl,Q,zH zR⟩
 case round=>
  clear Q;obtain⟨k,hk,rfl,N,t⟩:=hrel;obtain⟨f,rfl⟩:∃f:World,f=wr:=⟨_,rfl⟩
  by_cases J:k<a.length
  ·as_aux_lemma=>
   obtain⟨g,o,rfl,U,R⟩:=Z.elem (n:=6) oJ (by omega) J;have r:=N.out;rw[zFk J]at r;obtain⟨⟨C,G,F,D,x,H⟩,hx⟩:∃z,a[k]=z:=⟨_,rfl⟩
   rw[hx]at R r;have z:(if C=S.toList then((⟨C,G,F,D,x,H⟩:dh),true)else ed S.toList (a.drop (k+1)))=e:=r;have mD:Below Y w f:=E.trans (t.mono l);have d:∀(j:Nat) (u:Value),(dh.cells ⟨C,G,F,D,x,H⟩)[j]? =some u->f.cell? ⟨g,o+k*6+j,none⟩=some u:=λj u h=>(bK mD g _ (by first|exact U|(rw[<-O.out];exact U))).trans (R j u h)
   obtain⟨M,L⟩:=zN (bytes C)
   have r0:f.cell? ⟨g,o+k*6,none⟩=some (.string M):=(d 0 _ rfl).trans (by rw[L]);have r1:f.cell? ⟨g,o+k*6+1,none⟩=some (.int .i64 G):=d 1 _ rfl;have r2:f.cell? ⟨g,o+k*6+2,none⟩=some (.int .i64 F):=d 2 _ rfl;have r3:f.cell? ⟨g,o+k*6+3,none⟩=some (.int .i64 D):=d 3 _ rfl;have r4:f.cell? ⟨g,o+k*6+4,none⟩=some (.int .i64 x):=d 4 _ rfl;have r5:f.cell? ⟨g,o+k*6+5,none⟩=some (.int .i64 H):=d 5 _ rfl;have P:(M.toList==S.toList)=decide (C=S.toList):=by rw[<-L,aI,zHe];simp
   obtain⟨eq,y⟩:=zN (decide (C=S.toList))
   rw[y]at P;have q:=zH y;have p:=zH z;have HM:=zH L;have a0:Y<f.heap.size:=by have:=t.size;omega
   clear d R r z hx mD y L U N;go_upto_region 4 with(first|(refine ae iw rfl _ _ rfl rfl [.string M,.int .i64 G,.int .i64 F,.int .i64 D,.int .i64 x,.int .i64 H] rfl (Bk.new f _ _) rfl rfl rfl ?_;intro wA d;go_frame))
   have z:=zH (d.below _ _ (t.alloc t.size _) (by have:=t.size;omega));obtain⟨q0,q1,q2,q3,q4,q5⟩:=zc6 d.bk;have R:=zH (X8.below z.out I);clear d r0 r1 r2 r3 r4 r5 t;cases eq
   case false=>
    as_aux_lemma=>
    have d:Hid (ed S.toList (a.drop (k+1))=e):=zH (by rw[<-p.out,zF2 (by simpa using q.out)]);clear p q;go_wp2
    go_roundw
    case rel=>exact⟨k+1,by omega,by go_num,d,z⟩
    case measure=>simp[intOf];omega
   case true=>
    as_aux_lemma=>
    have L:e=(⟨C,G,F,D,x,H⟩,true):=by rw[<-p.out,zF3 (by simpa using q.out)]
    subst L;clear p q;go_wp2_with (first|(refine ae iw rfl _ _ rfl rfl [.string M,.int .i64 G,.int .i64 F,.int .i64 D,.int .i64 x,.int .i64 H] rfl R.out rfl rfl rfl ?_;intro U d))
    obtain⟨u0,u1,u2,u3,u4,u5⟩:=zc6 d.bk;have y:=zH (d.below _ _ (E.trans (z.mono l)) zL);clear d;refine zFg (v:=.tuple #[.agg #[M,G,F,D,x,H],.bool true]) (by simp[results,results70,go_sem,u0,u1,u2,u3,u4,u5]) rfl ?_;exact⟨by rw[<-HM.out];rfl,by first|exact y.out|(rw[O.out];exact y.out)⟩
  as_aux_lemma=>
  obtain rfl:k=a.length:=by omega
  have r:=N.out;rw[zFq zL]at r;have L:e=(Nh,false):=r.symm;subst L;have R:=zH (X8.below t.out I);clear r N;go_wp2_with (first|(refine ae iw rfl _ _ rfl rfl [.string ⟨#[]⟩,.int .i64 0,.int .i64 0,.int .i64 0,.int .i64 0,.int .i64 0] rfl R.out rfl rfl rfl ?_;intro U d))
  obtain⟨u0,u1,u2,u3,u4,u5⟩:=zc6 d.bk;have y:=zH (d.below _ _ (E.trans (t.mono l)) zL);clear d;refine zFg (v:=.tuple #[.agg #[.string ⟨#[]⟩,(),(),(),(),()],.bool false]) (by simp[results,results70,go_sem,u0,u1,u2,u3,u4,u5]) rfl ?_;exact⟨rfl,by first|exact y.out|(rw[O.out];exact y.out)⟩
end
def zV (its:List dh) (w:World) (e:Ending) (w':World):Prop:=∃(A:Option Addr) (c:Nat),e=.returned (.slice A its.length c)/\w'.ownsRow w.heap.size 151 6 (.slice A its.length c) its.length (its.flatMap dh.cells)/\Below w w w'
structure zEj (b:Nat) (plain:Bool) (w:World) (A:Option Addr) (j:Nat) (its:List dh):Prop where
 ex:∃(g:Nat) (d0 d1 d2 d3 d4 d5 d6:Value),A=some ⟨g,0,none⟩/\g<w.heap.size/\(∀(q:Nat) (u:Value),[d0,d1,d2,d3,d4,d5,d6][q]? =some u->w.cell? ⟨g,j*7+q,none⟩=some u)/\
  ∀W:World,Below w w W->Calls prog 75 #[.pointer (some ⟨b,0,none⟩),.agg #[d0,d1,d2,d3,d4,d5,d6],.bool plain] W (zV its W)
def GH (op:Nat) (plain:Bool):Bool:=decide (op=24)||(decide (24<op)&& !plain)
def fF (items:List dh) (op:Nat) (nm:Str) (plain:Bool):List dh:=if GH op plain then[(ed nm items).1]else[]
def dE (items:List dh) (plain:Bool):az->List dh
 |.leaf op _ _ nm _ _=>fF items op nm plain
 |.un op x _=>fF items op [] plain++dE items plain x
 |.bin op x y _=>fF items op [] plain++(dE items plain x++dE items plain y)
theorem mG (b:List dh) (a:Bool):∀e:az,(dE b a e).length<=aF e
 |.leaf op _ _ c _ _=>by show(fF b op c a).length<=1;unfold fF;split<;>simp
 |.un op x _=>by
  have:=mG b a x;have d:(fF b op [] a).length<=1:=by unfold fF;split<;>simp
  show(fF b op [] a++dE b a x).length<=1+aF x
  rw[zFu];omega
 |.bin op x y _=>by
  have e:=mG b a x;have f:=mG b a y;have d:(fF b op [] a).length<=1:=by unfold fF;split<;>simp
  show(fF b op [] a++(dE b a x++dE b a y)).length<=1+aF x+aF y
  rw[zFu,zFu];omega
theorem Nk (e f b d c a:Value) (w:World):(Instr.buildSlice 101 1 #[(0,.agg #[e,f,b,d,c,a])]).run prog w=.ok (.slice (some ⟨w.heap.size,0,none⟩) 1 1) (w.alloc (.cells #[e,f,b,d,c,a] 151)):=by kernel_rfl
theorem Ei {w:World} {ops:Array Oper} {b:List Oper} {o:Oper} {a:Act} {Q:Exit->Act->World->Prop} {i j e g f d:Value} (c:o.guard=none) (x:Operand) (m:o.op=.buildSlice 101 1 #[(0,x)]) (l:a.eval x=.agg #[i,j,e,g,f,d])
  (h:wpList prog ops Q b (a.put o.dst (.slice (some ⟨w.heap.size,0,none⟩) 1 1)) (w.alloc (.cells #[i,j,e,g,f,d] 151))):wpList prog ops Q (o::b) a w:=
 zH8 c λ_ k=>by
  unfold Oper.wp execOp;simp only[m,zHp,zGq,zHc,l,zH5,Nk,Result.andThen_ok,Sem.run_pure];exact k _ _ h
theorem cells_one (x:dh):∀u∈x.cells,u.oneCell'=true:=by intro u a;simp[dh.cells]at a;rcases a with rfl|rfl|rfl|rfl|rfl|rfl<;>rfl
theorem QU (l:List dh):∀u∈l.flatMap dh.cells,u.oneCell'=true:=by
 intro u a;obtain⟨x,_,b⟩:=zGn.1 a;exact cells_one x u b
structure NmI (b bx n:Nat) (w0:World) (A:Option Addr) (c:Nat) (acc:List dh) (W:World):Prop where
 hb:Below w0 w0 W
 own:W.ownsRow w0.heap.size 151 6 (.slice A n c) n (acc.flatMap dh.cells)
theorem wG (b B:Nat) (s:ai) (iv:Value) (m:MS) (op p:Nat) (c2 c3 c5:Value) (S:ByteArray) (d:Bool) (A0:Option Addr) (k cc:Nat) (G:List (List dh)) (hk:G.length=k) (a5:k<=2) (w:World) (h:jR b B s iv m w) (hn:m.items.length<=1000)
  (hs:G.flatten.length<=100000) (F:∀j (hj:j<G.length),zEj b d w A0 j G[j]):
  Calls prog 75 #[.pointer (some ⟨b,0,none⟩),.agg #[op,.slice A0 k cc,c2,c3,S,c5,p],.bool d] w (zV (fF m.items op S.toList d++G.flatten) w):=by
 have HC:=zH F;have P:=zH hk;have xG:Hid (∀W:World,Below w w W->Calls prog 70 #[.pointer (some ⟨b,0,none⟩),S] W λr w'=>r=.returned (.tuple #[.agg (ed S.toList m.items).1.cells.toArray,.bool (ed S.toList m.items).2])/\Below W W w'):=zH λW a=>xP b B s iv m W S (h.old a) hn
 obtain⟨iT,hT,Z,a0,Y⟩:=zG4 GG;obtain⟨U,a⟩:=zN (fF m.items op S.toList d++G.flatten)
 have N:=zH a
 have a6:U.length<=100001:=by
  rw[<-a,zFu];have:(fF m.items op S.toList d).length<=1:=by unfold fF;split<;>simp
  omega
 unfold zV;rw[a];clear F hk a h hs hn
 go_enter func75,ntmps75
 have e:=Bk.new w 110 #[op,.slice A0 k cc,c2,c3,S,c5,p];have a:Below w w (w.alloc (.cells #[op,.slice A0 k cc,c2,c3,S,c5,p] 110)):=zR.alloc zL _;go_upto_region 2 with fail
 generalize w.alloc (.cells #[op,.slice A0 k cc,c2,c3,S,c5,p] 110)=C at *;have H:=e.lt;obtain⟨bx,f⟩:=zN w.heap.size
 rw[f]at e a H⊢;have q0:=e.cell 0;have I:=zH e;have D:=zH a;have L:=zH f;clear e a f;obtain⟨E,a⟩:=zN (GH op d)
 have Ef:=zH a;clear a
 go_cut[22] (λv wx=>v=.bool E/\C=wx)
 case first=>
  as_aux_lemma=>
  have n:=Ef.out;unfold GH at n
  by_cases a:op=24
  ·have o:((op:Int)==24)=true:=by rw[zFt];omega
   have e:E=true:=by rw[<-n];simp[a]
   subst e;clear a n;go_wp2_with fail
   go_meet
   exact⟨rfl,rfl⟩
  have o:((op:Int)==24)=false:=zB (by omega)
  by_cases f:24<op
  ·have t:(24:Int)<(op:Int):=by omega
   have e:E= !d:=by rw[<-n];simp[a,f]
   subst e;clear a n f;cases d
   all_goals
    go_wp2_with fail
    go_meet
    exact⟨rfl,rfl⟩
  have t:¬(24:Int)<(op:Int):=by omega
  have e:E=false:=by rw[<-n];simp[a,f]
  subst e;clear a n f;go_wp2_with fail
  go_meet
  exact⟨rfl,rfl⟩
 case rest=>
 obtain⟨rfl,a⟩:=hcut;subst a;go_upto_if 22 with fail
 go_cut[7] (λv wx=>∃(A:Option Addr) (c:Nat) (a:List dh),v=.slice A a.length c/\a.length<=1/\Hid (a=fF m.items op S.toList d)/\Hid (NmI b bx a.length C A c a wx))
 case first=>
  as_aux_lemma=>
  cases E
  case false=>
   have f:fF m.items op S.toList d=[]:=by unfold fF;rw[Ef.out];rfl
   have Q:=zH f;clear f q0;go_wp2_with fail
   go_meet
   exact⟨none,0,[],rfl,by simp,zH Q.symm,zH ⟨zGp _ _,zGs _ _ _ _⟩⟩
  case true=>
   have f:fF m.items op S.toList d=[(ed S.toList m.items).1]:=by unfold fF;rw[Ef.out];rfl
   have Q:=zH f;have e:=xG.out C (by rw[L.out];exact D.out);obtain⟨⟨⟨nm,O,J,y,K,x⟩,fb⟩,n⟩:∃z,ed S.toList m.items=z:=⟨_,rfl⟩
   rw[n]at e;have t:=Q.out;rw[n]at t;have a1:=zH t;simp only[dh.cells]at e;have o:=zH e;have z:=I.cell 4;clear f e t Q n q0 xG;go_wp2_with fail
   refine o.mono ?_;rintro r w2 ⟨rfl,t⟩;have R:=t.size;have n:=zH t;clear t o z;obtain⟨M,e⟩:=zN (bytes nm)
   have HM:=zH e;rw[e];clear e;go_upto_region 4 with(first|(refine ae iw rfl _ _ rfl rfl [.string M,.int .i64 O,.int .i64 J,.int .i64 y,.int .i64 K,.int .i64 x] rfl (Bk.new w2 _ _) rfl rfl rfl ?_;intro wA e;go_frame))
   have D8:=zH (e.below _ _ (n.alloc n.size _) (by have:=n.size;omega));obtain⟨r0,r1,r2,r3,r4,r5⟩:=zc6 e.bk;have a2:=D8.size;clear e n;have o:(wA.alloc (.cells #[M,O,J,y,K,x] 151)).ownsRow C.heap.size 151 6 (.slice none 0 0) 0 []:=zGs _ _ _ _;have uT:C.heap.size<=(wA.alloc (.cells #[M,O,J,y,K,x] 151)).heap.size:=by simp;omega
   go_wp2_with (first|(refine Ei rfl _ rfl rfl ?_)|at_builtin;(refine aU (by rfl) _ _ 101 (by rfl) C.heap.size 151 iT _ 6 56 underlying101 hT Z a0 Y rfl (by decide) (.slice none 0 0) 0 _ (by rfl) o (wA.heap.size+1) (some ⟨wA.heap.size,0,none⟩) 1 1 [.string M,.int .i64 O,.int .i64 J,.int .i64 y,.int .i64 K,.int .i64 x] (by rfl) (Rd.lit rfl _ _) (by rfl) ?c2 ?c3 ?c4 uT ?_))
   case c2=>intro u hu;simp at hu;rcases hu with rfl|rfl|rfl|rfl|rfl|rfl<;>rfl
   case c3=>unfold maxLen;omega
   case c4=>omega
   intro X c6 w6 e lX _;have z:Below C C w6:=eU (D8.alloc a2 _) o zL lX uT
   have X9:Hid (NmI b bx 1 C X c6 [⟨nm,O,J,y,K,x⟩] w6):=zH ⟨z,by
    have:[(⟨nm,O,J,y,K,x⟩:dh)].flatMap dh.cells=[.string M,.int .i64 O,.int .i64 J,.int .i64 y,.int .i64 K,.int .i64 x]:=by rw[<-HM.out];rfl
    rw[this]
    exact e⟩
   clear e lX z o uT r0 r1 r2 r3 r4 r5 D8;go_wp2_with fail
   go_meet
   exact⟨X,c6,[⟨nm,O,J,y,K,x⟩],rfl,by simp,zH a1.symm,X9⟩
 case rest=>
 obtain⟨A,c,a,rfl,a2,Q,x⟩:=hcut;have H0:Hid (a++(G.drop 0).flatten=U):=zH (by rw[zFp,Q.out];exact N.out);clear q0 N Ef xG Q;have q1:=(I.below x.hb H).cell 1;go_wp2_with fail
 clear q1
 go_loopw[7,37] (λl i wr=>∃(j:Nat) (A:Option Addr) (c:Nat) (a:List dh),j<=k/\l=.slice A a.length c/\i=.int .i64 j/\Hid (a++(G.drop j).flatten=U)/\Hid (NmI b bx a.length C A c a wr)) (λ_ i _=>k-(intOf i).toNat)
 case atStart=>exact⟨0,A,c,a,zFj _,rfl,rfl,H0,x⟩
 case round=>
  clear H0 x a2;obtain⟨j,A,c,a,hj,rfl,rfl,O,x⟩:=hrel;obtain⟨y,rfl⟩:∃y:World,y=wr:=⟨_,rfl⟩
  by_cases a1:j<k
  ·as_aux_lemma=>
   have N:j<G.length:=by rw[P.out];exact a1
   obtain⟨g,d0,d1,d2,d3,d4,d5,d6,rfl,hg,hc,hq⟩:=(HC.out j N).ex;have K:=O.out;rw[zFk N,List.flatten_cons,<-zJa]at K
   have mD:Below w w y:=by
    rw[L.out];exact D.trans (x.hb.mono (by have:=D.size;have:=L.out;omega))
   have q1:=(I.below x.hb H).cell 1;have o:∀(q:Nat) (u:Value),[d0,d1,d2,d3,d4,d5,d6][q]? =some u->y.cell? ⟨g,j*7+q,none⟩=some u:=λq u h=>(bK mD g _ hg).trans (hc q u h)
   have r0:y.cell? ⟨g,j*7,none⟩=some d0:=o 0 _ rfl;have r1:y.cell? ⟨g,j*7+1,none⟩=some d1:=o 1 _ rfl;have r2:y.cell? ⟨g,j*7+2,none⟩=some d2:=o 2 _ rfl;have r3:y.cell? ⟨g,j*7+3,none⟩=some d3:=o 3 _ rfl;have r4:y.cell? ⟨g,j*7+4,none⟩=some d4:=o 4 _ rfl;have r5:y.cell? ⟨g,j*7+5,none⟩=some d5:=o 5 _ rfl;have r6:y.cell? ⟨g,j*7+6,none⟩=some d6:=o 6 _ rfl;have M:=zH (hq y mD);unfold zV at M;obtain⟨f,J⟩:=zN (G[j])
   rw[J]at K M
   have a4:a.length+f.length<=100001:=by
    have:=zGv List.length K;rw[zFu,zFu]at this;omega
   have a3:=zH K;clear hc hq o K J mD hg O HC P;go_wp2_with fail
   refine M.mono ?_;rintro r w2 ⟨Ai,ci,rfl,hi,t⟩;have o:=aT x.own t;have J:=fM hi;have n:=zH (x.hb.trans (t.mono x.hb.size));have R:=n.size;clear M t r0 r1 r2 r3 r4 r5 r6 q1 x;go_wp2_with (first|at_builtin;(refine aU (by rfl) _ _ 101 (by rfl) C.heap.size 151 iT _ 6 56 underlying101 hT Z a0 Y rfl (by decide) (.slice A a.length c) a.length _ (by rfl) o w2.heap.size Ai f.length ci (f.flatMap dh.cells) (by rfl) J ?c1 ?c2 ?c3 ?c4 R ?_))
   case c1=>rw[xq dh.cells oJ]
   case c2=>exact QU f
   case c3=>unfold maxLen;omega
   case c4=>omega
   intro X c6 w6 e lX _;have z:Below C C w6:=eU n.out o zL lX R;have M:(a++f).length=a.length+f.length:=zFu;have X9:Hid (NmI b bx (a++f).length C X c6 (a++f) w6):=zH ⟨z,by rw[M,zGz];exact e⟩;clear e lX z o J hi n;go_wp2
   go_roundw
   case rel=>exact⟨j+1,X,c6,a++f,by omega,by rw[M],by go_num,a3,X9⟩
   case measure=>simp[intOf];omega
  as_aux_lemma=>
  obtain rfl:j=k:=by omega
  have K:=O.out;rw[zFq (by rw[P.out];exact zFv _),List.flatten_nil,zHb]at K;subst K;have q1:=(I.below x.hb H).cell 1
  have J:Hid (Below w w y):=zH (by
   rw[L.out]
   exact D.trans (x.hb.mono (by have:=D.size;have:=L.out;omega)))
  have o:Hid (y.ownsRow w.heap.size 151 6 (.slice A a.length c) a.length (a.flatMap dh.cells)):=zH (bV x.own (by have:=D.size;have:=L.out;omega));clear O x;go_wp2
  go_ret
  exact⟨A,c,rfl,by first|exact o.out|(rw[<-L.out];exact o.out),by first|exact J.out|(rw[<-L.out];exact J.out)⟩
theorem uB {P:Nat->Prop} (b B:Nat) (s:ai) (k:Value) (m:MS) (c:Bool) (o:m.items.length<=1000):∀(e:az) (cs:List Value) (w:World),jR b B s k m w->mM P w e cs->aF e<=100000->
  Calls prog 75 #[.pointer (some ⟨b,0,none⟩),.agg cs.toArray,.bool c] w (zV (dE m.items c e) w)
 |.leaf op n J I a p,cs,w,f,h,l=>by
  obtain rfl:cs=iF op n J I a p:=h;have:=wG b B s k m op p (.int .i64 n) (.int .i64 J) (.string (bytes a)) (bytes I) c none 0 0 [] rfl (by omega) w f o (by simp) (λj t=>absurd t (by simp));rw[aI,List.flatten_nil,zHb]at this;exact this
 |.un op x p,cs,w,f,h,l=>by
  obtain⟨g,xs,rfl,M,i,v⟩:=h;obtain⟨D,F,z,E,A,H,C,rfl,G⟩:=v.seven;have l:1+aF x<=100000:=l;have K:=mG m.items c x
  have:=wG b B s k m op p (.int .i64 0) (.int .i64 0) (.string ⟨#[]⟩) ⟨#[]⟩ c (some ⟨g,0,none⟩) 1 1 [dE m.items c x] rfl (by omega) w f o (by simp;omega) (λj t=>by
   match j,t with
   |0,_=>exact⟨g,D,F,z,E,A,H,C,rfl,i.lt,λq u r=>by rw[i.cell];simpa using r,λW d=>uB b B s k m c o x _ W (f.old d) (v.old d) (by omega)⟩)
  rw[show(⟨#[]⟩:ByteArray).toList=[] by rw[zFm]]at this;have e:dE m.items c (.un op x p)=fF m.items op [] c++[dE m.items c x].flatten:=by simp[dE]
  rw[e];exact this
 |.bin op x y p,cs,w,f,h,l=>by
  obtain⟨g,xs,Y,rfl,M,i,v,G⟩:=h;obtain⟨L,S,O,Q,N,R,X,rfl,_⟩:=v.seven;obtain⟨D,F,z,E,A,H,C,rfl,_⟩:=G.seven;have l:1+aF x+aF y<=100000:=l;have U:=mG m.items c x;have K:=mG m.items c y
  have:=wG b B s k m op p (.int .i64 0) (.int .i64 0) (.string ⟨#[]⟩) ⟨#[]⟩ c (some ⟨g,0,none⟩) 2 2 [dE m.items c x,dE m.items c y] rfl (by omega) w f o (by simp;omega) (λj t=>by
   match j,t with
   | 0, _ => exact ⟨g, L, S, O, Q, N, R, X, rfl, i.lt, λq u r => by
     rw[i.cell];have Z:q<7:=(zFc.1 r).1;rw[zF7]
     rw[zGh (by simp;omega),zHm,zFr,r],λW d=>uB b B s k m c o x _ W (f.old d) (v.old d) (by omega)⟩
   | 1, _ => exact ⟨g, D, F, z, E, A, H, C, rfl, i.lt, λq u r => by
     rw[i.cell];rw[zF7];rw[zGd (by simp)]
     simpa using r,λW d=>uB b B s k m c o y _ W (f.old d) (G.old d) (by omega)⟩)
  rw[show(⟨#[]⟩:ByteArray).toList=[] by rw[zFm]]at this;have e:dE m.items c (.bin op x y p)=fF m.items op [] c++[dE m.items c x,dE m.items c y].flatten:=by simp[dE]
  rw[e];exact this
def Jy (s:ai) (op:Nat) (nm a:Str) (items:List dh):Bool×Int:=
 if op≠25/\a≠iY then((ed nm items).2&&decide (0<=dA s (ed nm items).1.kind a),iq s (ed nm items).1.kind (dA s (ed nm items).1.kind a))else((ed nm items).2,1)
def badM (op:Nat) (form:Nat) (k:Int):Bool:=((decide (24<op)&&form !=2)||(((decide (28<=op)&&decide (op<=30))&&k !=1)&&k !=4))||(op==31&&k !=4)
def pF (s:ai) (op:Nat) (nm a:Str) (p:Nat) (m:MS):Int×MS:=
 if(Jy s op nm a m.items).1=false then(0,dI 10 p m)
 else if badM op (ed nm m.items).1.form (Jy s op nm a m.items).2=true then((Jy s op nm a m.items).2,dI 11 p m)
 else((Jy s op nm a m.items).2,m)
theorem ai.ok.more {s:ai} {w:World} {b c:Nat} (h:s.ok w b) (hb:b<=c):s.ok w c:=
 ⟨h.rd.more hb,h.len,λt a=>⟨(h.each t a).rd.more hb,(h.each t a).len,(h.each t a).Ut,(h.each t a).Uu⟩,h.syms.more hb,h.slen,h.ssize⟩
theorem Np (b B:Nat) (s:ai) (Z:Value) (m:MS) (op p:Nat) (c1 c2 c3:Value) (x S2:ByteArray) (w:World) (h:jR b B s Z m w) (a0:b<B) (hn:m.items.length<=1000):
  Calls prog 93 #[.pointer (some ⟨b,0,none⟩),.agg #[op,c1,c2,c3,x,S2,p]] w λr w'=>r=.returned (.int .i64 (pF s op x.toList S2.toList p m).1)/\iK b B s Z (pF s op x.toList S2.toList p m).2 w w':=by
 have l:Hid (∀W:World,Below w w W->Calls prog 70 #[.pointer (some ⟨b,0,none⟩),x] W λr w'=>r=.returned (.tuple #[.agg (ed x.toList m.items).1.cells.toArray,.bool (ed x.toList m.items).2])/\Below W W w'):=zH λW f=>xP b B s Z m W x (h.old f) hn
 have lF:Hid (∀(e:Nat) (W:World),Below w w W->Calls prog 71 #[.pointer (some ⟨b,0,none⟩),e,p] W λr w'=>r=.returned (.tuple #[])/\iK b B s Z (dI e p m) W w'):=zH λe W f=>ku b B s Z m W e p (h.old f) a0
 have ab:Hid (∀(t:Int) (W:World),Below w w W->Calls prog 73 #[.agg #[.slice s.ta s.types.length s.tc,.slice s.sa s.syms.length s.sc],t,S2] W λe w'=>e=.returned (.int .i64 (dA s t S2.toList))/\Below W.heap.size W w'):=zH λt W f=>wF s t S2 W ((h.old f).Eh.more (zG5 (h.old f).bk.lt))
 have Po:Hid (∀(t a:Int) (W:World),Below w w W->Calls prog 72 #[.agg #[.slice s.ta s.types.length s.tc,.slice s.sa s.syms.length s.sc],t,a] W λe w'=>e=.returned (.int .i64 (iq s t a))/\Below W.heap.size W w'):=zH λt a W f=>Ju s t a W ((h.old f).Eh.more (zG5 (h.old f).bk.lt))
 obtain⟨ad,e⟩:=zN (pF s op x.toList S2.toList p m)
 rw[e];unfold pF Jy at e;obtain⟨⟨⟨nm,xb,xp,xo,xf,i⟩,X⟩,g⟩:∃z,ed x.toList m.items=z:=⟨_,rfl⟩
 rw[g]at e l;simp only[dh.cells]at e l;have O:=zH e;have HM:=zH h;have a6:=h.bk.lt;obtain⟨M,d⟩:=zN (bytes nm)
 rw[d]at l;clear e h g d
 go_enter func93,ntmps93
 have g:=Bk.new w 110 #[op,c1,c2,c3,x,S2,p];have j:Below w w (w.alloc (.cells #[op,c1,c2,c3,x,S2,p] 110)):=zR.alloc zL _;go_upto_region 1 with fail
 generalize w.alloc (.cells #[op,c1,c2,c3,x,S2,p] 110)=w0 at *;have A:=g.lt;obtain⟨gx,d⟩:=zN w.heap.size
 rw[d]at g A a6⊢;have n:=g.cell 4;have K:=zH g;have u:=zH j;have zW:=zH d;clear g j d;go_wp2_with fail
 refine(l.out w0 u.out).mono ?_;rintro r w2 ⟨rfl,g⟩;have af:=g.size;have d:=zH g;clear g l n;go_upto_region 2 with(first|(refine ae iw rfl _ _ rfl rfl [.string M,.int .i64 xb,.int .i64 xp,.int .i64 xo,.int .i64 xf,.int .i64 i] rfl (Bk.new w2 _ _) rfl rfl rfl ?_;intro F g;go_frame))
 have E:=zH (g.below _ _ (d.alloc d.size _) (by have:=d.size;omega));have Zz:=zH g.bk;have QW:w2.heap.size<F.heap.size:=g.bk.lt;generalize w2.heap.size=gy at *;clear g d;obtain⟨S,g⟩:=zN (decide (op≠25)&& !(S2.toList==iY))
 have e:=O.out;have d:(op≠25/\S2.toList≠iY)<->S=true:=by rw[<-g];simp
 obtain⟨⟨Q,Y⟩,j⟩:∃z,(if op≠25/\S2.toList≠iY then(X&&decide (0<=dA s i S2.toList),iq s i (dA s i S2.toList))else(X,1):Bool×Int)=z:=⟨_,rfl⟩
 rw[j]at e;simp only at e
 have l:(Q,Y)=if S=true then(X&&decide (0<=dA s i S2.toList),iq s i (dA s i S2.toList))else(X,1):=by
  rw[<-j]
  by_cases q:S=true
  ·rw[zF3 q,zF3 (d.2 q)]
  rw[zF2 q,zF2 (λh=>q (d.1 h))]
 have D7:=zH l;have UE:=zH g;clear O;have O:=zH e;clear e d j l g;go_upto_region 3 with fail
 have d:=K.below E.out A;have q0:=d.cell 0;have D:=d.cell 5;clear d
 go_cut[23] (λv wx=>v=.bool S/\F=wx)
 case first=>
  have l:=UE.out
  by_cases g:op=25
  ·have n:((op:Int) !=25)=false:=by rw[zG0];omega
   have d:S=false:=by rw[<-l];simp[g]
   subst d;clear g l;go_wp2_with fail
   go_meet
   exact⟨rfl,rfl⟩
  have n:((op:Int) !=25)=true:=by rw[zG1];omega
  obtain⟨j,o⟩:=zN (S2.toList==[84,73,77,69])
  have y:(S2.toList !=[84,73,77,69])= !j:=by rw[bne,o]
  have d:S= !j:=by
   rw[<-l,show(S2.toList==iY)=j from o];simp[g]
  subst d;clear g l;cases j
  all_goals
   go_wp2_with fail
   go_meet
   exact⟨rfl,rfl⟩
 case rest=>
 obtain⟨rfl,z⟩:=hcut;subst z;clear q0 D;go_upto_if 23 with fail
 go_cut[6,7] (λg j wx=>g=.bool Q/\j=.int .i64 Y/\Hid (Below F F wx))
 case first=>
  cases S
  case false=>
   have hp:=D7.out;rw[zF2 (by decide)]at hp;injection hp with o h2
   subst o;subst h2;go_wp2_with fail
   go_meet
   exact⟨rfl,rfl,zH zR⟩
  case true=>
   have hp:=D7.out;rw[zF3 rfl]at hp;injection hp with o h2
   obtain⟨N,g⟩:=zN (dA s i S2.toList)
   rw[g]at o h2;have a7:=zH g;have H1:=zH o;have H2:=zH h2;clear o h2 g D7 UE O;go_upto_region 4 with fail
   have l:Hid (Below w w F):=zH (u.trans (E.mono u.size));have g:=HM.old l.out;have G:F.cell? ⟨b,0,none⟩=some (.slice s.ta s.types.length s.tc):=g.bk.cell 0;have I:F.cell? ⟨b,1,none⟩=some (.slice s.sa s.syms.length s.sc):=g.bk.cell 1;have P:F.cell? ⟨gy,5,none⟩=some (.int .i64 i):=Zz.cell 5;have x5:F.cell? ⟨gx,5,none⟩=some (.string S2):=(K.below E.out A).cell 5;clear g;obtain⟨W,f⟩:=zN F
   rw[f]at l G I P x5 Zz E QW⊢;have a5:=zH f;clear f
   refine wx (λk => false) [.is (.pointer (some ⟨b, 0, none⟩)),
     .is (.pointer (some ⟨b,0,none⟩)),
     .is (.pointer (some ⟨b,0,none⟩)),
     .is (.agg #[.slice s.ta s.types.length s.tc,.slice s.sa s.syms.length s.sc]),
     .is (.pointer (some ⟨gy,5,none⟩)),
     .is (.int .i64 i),
     .is (.pointer (some ⟨gx,5,none⟩)),
     .is (.string S2),
     .is (.int .i64 (dA s i S2.toList)),
     .is (.int .i64 (dA s i S2.toList))] [3,8] (by kernel_rfl) (by kernel_rfl) (by kernel_rfl)
     (λC=>.c (px C rfl (λ_ _=>rfl)) <|
     .c (px C rfl (λ_ _=>rfl)) <|
     .c (px C rfl (λ_ _=>rfl)) <|
     .c (pz [2] [] (by kernel_rfl) λqK qa wr g U n R=>?_) <|
     .c (px C rfl (λ_ _=>rfl)) <|
     .c (px C rfl (λ_ h=>bH (lD (bc h P)))) <|
     .c (px C rfl (λ_ _=>rfl)) <|
     .c (px C rfl (λ_ h=>bH (I7 (bc h x5)))) <|
     .c (pz [3,5,7] [] (by kernel_rfl) λqK qa wr g U n R=>?_) <|
     .c (px C rfl (λ_ _=>rfl)) <| .nil) ?_
   ·have j:=aA n.1 rfl rfl;clear U n;have H:=zE g G;have J:=zE g I;go_simp;exact R _ _ zR rfl
   ·have L:=aA n.1 rfl rfl;have D:=aA n.2.1 rfl rfl;have y:=aA n.2.2.1 rfl rfl;clear U n;go_simp
    go_at_call 73
    refine(ab.out i wr (l.trans (g.mono l.size))).mono ?_;rintro r w9 ⟨rfl,dM⟩;exact R _ _ dM rfl
   intro qx wr g j hS;clear j hS;simp only[bJ,zF0,zGb,zF1,zFp,zFd,zFh,zF4,Act.put,zFf,zFw,zFx];refine zM ?_;rw[a7.out];have D:=zH g;have L:=zH (l.trans (g.mono l.size));have P:=(bK g gy 5 QW).trans P;have H:=(bK g b 0 (by have:=l.size;have:=zW.out;have:=HM.bk.lt;omega)).trans G;have J:=(bK g b 1 (by have:=l.size;have:=zW.out;have:=HM.bk.lt;omega)).trans I;clear g G I x5 l;have l:=L;clear L;go_upto_region 5 with fail
   go_cut[6] (λv wx=>v=.bool Q/\wr=wx)
   case first=>
    have o:=H1.out;cases X
    case false=>
     have d:Q=false:=by rw[o];rfl
     subst d;clear o;go_wp2_with fail
     go_meet
     exact⟨rfl,rfl⟩
    case true=>
     replace o:Q=decide (0<=N):=by rw[o];rfl
     by_cases L:0<=N
     ·have d:Q=true:=o.trans (zGm L);have hd:decide ((0:Int)<=N)=true:=zGm L;subst d;clear o L;go_wp2_with fail
      go_meet
      exact⟨rfl,rfl⟩
     have d:Q=false:=o.trans (zGf L);have hd:decide ((0:Int)<=N)=false:=zGf L;subst d;clear o L;go_wp2_with fail
     go_meet
     exact⟨rfl,rfl⟩
   case rest=>
   obtain⟨rfl,z⟩:=hcut;subst z;go_upto_region 6 with fail
   obtain⟨W2,f⟩:=zN wr
   have G:=H;have I:=J;rw[f]at l D G I P⊢;clear f H J QW;obtain⟨W,f⟩:=zN W2
   rw[f]at l D G I P⊢;clear f
   refine wx (λk => false) [.is (.pointer (some ⟨b, 0, none⟩)),
     .is (.pointer (some ⟨b,0,none⟩)),
     .is (.pointer (some ⟨b,0,none⟩)),
     .is (.agg #[.slice s.ta s.types.length s.tc,.slice s.sa s.syms.length s.sc]),
     .is (.pointer (some ⟨gy,5,none⟩)),
     .is (.int .i64 i),
     .is (.int .i64 N),
     .is (.int .i64 (iq s i N)),
     .is (.int .i64 (iq s i N))] [3,7] (by kernel_rfl) (by kernel_rfl) (by kernel_rfl)
     (λC=>.c (px C rfl (λ_ _=>rfl)) <|
     .c (px C rfl (λ_ _=>rfl)) <|
     .c (px C rfl (λ_ _=>rfl)) <|
     .c (pz [2] [] (by kernel_rfl) λqK qa wr g U n R=>?_) <|
     .c (px C rfl (λ_ _=>rfl)) <|
     .c (px C rfl (λ_ h=>bH (lD (bc h P)))) <|
     .c (px C rfl (λ_ _=>rfl)) <|
     .c (pz [3,5,6] [] (by kernel_rfl) λqK qa wr g U n R=>?_) <|
     .c (px C rfl (λ_ _=>rfl)) <| .nil) ?_
   ·have o:=aA n.1 rfl rfl;clear U n;have H:=zE g G;have J:=zE g I;go_simp;exact R _ _ zR rfl
   ·have a8:=aA n.1 rfl rfl;have L:=aA n.2.1 rfl rfl;have a9:=aA n.2.2.1 rfl rfl;clear U n;go_simp
    go_at_call 72
    refine(Po.out i N wr (l.trans (g.mono l.size))).mono ?_;rintro r w9 ⟨rfl,dM⟩;exact R _ _ dM rfl
   intro qx wr g j hS;clear j hS;simp only[bJ,zF0,zGb,zF1,zFp,zFd,zFh,zF4,Act.put,zFf,zFw,zFx];refine zM ?_;have n:=zH (D.trans (g.mono D.size));clear g G I P l D;go_wp2_with fail
   go_meet
   exact⟨rfl,by rw[H2.out],zH (by rw[a5.out];exact n.out)⟩
 case rest=>
 obtain⟨rfl,rfl,U⟩:=hcut;have H:Hid (Below w w wc):=zH ((u.trans (E.mono u.size)).trans (U.mono (zFi u.size E.size)));have q6:=((K.below E.out A).below U.out (by have:=E.size;omega)).cell 6;cases Q
 case false=>
  have j:=O.out;rw[zF3 rfl]at j;subst j;have L:=zH (lF.out 10 wc H.out);clear O D7 UE;go_wp2_with fail
  refine L.mono ?_;rintro r w5 ⟨rfl,g⟩;have J:=zH (zA g.st ((below_grown H.out (some b)).trans g.grown));clear g L q6;go_wp2_with fail
  go_ret
  exact⟨rfl,J.1,J.2⟩
 case true=>
  have j:=O.out;rw[zF2 (by decide)]at j;obtain⟨f,l⟩:=zN (badM op xf Y)
  rw[l]at j;have P:=zH j;have Ip:=zH l;have q0:=((K.below E.out A).below U.out (by have:=E.size;omega)).cell 0;have y4:=(Zz.old U.out).cell 4;clear O j l D7 UE;go_upto_region 10 with fail
  go_cut[86] (λv wx=>v=.bool f/\wc=wx)
  case first=>
   have hb:=Ip.out;unfold badM at hb;obtain⟨l,a8⟩:=zN ((xf:Int) !=2)
   obtain⟨N,a5⟩:=zN (Y !=1)
   obtain⟨G,a7⟩:=zN (Y !=4)
   have n:(xf !=2)=l:=by rw[<-a8,zHe,zG1,zG1];omega
   rw[n,a5,a7]at hb;clear n;have a9:op<=24\/(25<=op/\op<=27)\/(28<=op/\op<=30)\/op=31\/32<=op:=by omega
   rcases a9 with q|q|q|q|q
   ·have R:¬(24:Int)<(op:Int):=by omega
    have l2:¬(28:Int)<=(op:Int):=by omega
    have y:((op:Int)==31)=false:=zB (by omega)
    have d:f=false:=by
     rw[<-hb];have o:decide (24<op)=false:=by simp;omega
     have n:decide (28<=op)=false:=by simp;omega
     have D:(op==31)=false:=zB (by omega)
     rw[o,n,D];rfl
    subst d;clear q hb;go_wp2_with fail
    go_meet
    exact⟨rfl,rfl⟩
   ·have R:(24:Int)<(op:Int):=by omega
    have l2:¬(28:Int)<=(op:Int):=by omega
    have y:((op:Int)==31)=false:=zB (by omega)
    have d:f=l:=by
     rw[<-hb];have o:decide (24<op)=true:=by simp;omega
     have n:decide (28<=op)=false:=by simp;omega
     have D:(op==31)=false:=zB (by omega)
     rw[o,n,D];cases l<;>rfl
    subst d;clear q hb;cases f
    all_goals
     go_wp2_with fail
     go_meet
     exact⟨rfl,rfl⟩
   ·have R:(24:Int)<(op:Int):=by omega
    have l2:(28:Int)<=(op:Int):=by omega
    have l3:(op:Int)<=(30:Int):=by omega
    have y:((op:Int)==31)=false:=zB (by omega)
    have d:f=(l||(N&&G)):=by
     rw[<-hb];have o:decide (24<op)=true:=by simp;omega
     have n:decide (28<=op)=true:=by simp;omega
     have I:decide (op<=30)=true:=by simp;omega
     have D:(op==31)=false:=zB (by omega)
     rw[o,n,D,I];cases l<;>cases N<;>cases G<;>rfl
    subst d;clear q hb;cases l<;>cases N<;>cases G
    all_goals
     go_wp2_with fail
     go_meet
     exact⟨rfl,rfl⟩
   ·have R:(24:Int)<(op:Int):=by omega
    have l2:(28:Int)<=(op:Int):=by omega
    have l3:¬(op:Int)<=(30:Int):=by omega
    have y:((op:Int)==31)=true:=by rw[zFt];omega
    have d:f=(l||G):=by
     rw[<-hb];have o:decide (24<op)=true:=by simp;omega
     have n:decide (28<=op)=true:=by simp;omega
     have I:decide (op<=30)=false:=by simp;omega
     have D:(op==31)=true:=by rw[zFt];omega
     rw[o,n,D,I];cases l<;>cases N<;>cases G<;>rfl
    subst d;clear q hb;cases l<;>cases G
    all_goals
     go_wp2_with fail
     go_meet
     exact⟨rfl,rfl⟩
   have R:(24:Int)<(op:Int):=by omega
   have l2:(28:Int)<=(op:Int):=by omega
   have l3:¬(op:Int)<=(30:Int):=by omega
   have y:((op:Int)==31)=false:=zB (by omega)
   have d:f=l:=by
    rw[<-hb];have o:decide (24<op)=true:=by simp;omega
    have n:decide (28<=op)=true:=by simp;omega
    have I:decide (op<=30)=false:=by simp;omega
    have D:(op==31)=false:=zB (by omega)
    rw[o,n,D,I];cases l<;>cases N<;>cases G<;>rfl
   subst d;clear q hb;cases f
   all_goals
    go_wp2_with fail
    go_meet
    exact⟨rfl,rfl⟩
  case rest=>
  obtain⟨rfl,z⟩:=hcut;subst z;clear q0 y4;cases f
  case true=>
   have j:=P.out;rw[zF3 rfl]at j;subst j;have L:=zH (lF.out 11 wc H.out);clear P;go_wp2_with fail
   refine L.mono ?_;rintro r w5 ⟨rfl,g⟩;have J:=zH (zA g.st ((below_grown H.out (some b)).trans g.grown));clear g L q6;go_wp2_with fail
   go_ret
   exact⟨rfl,J.1,J.2⟩
  case false=>
   have j:=P.out;rw[zF2 (by decide)]at j;subst j;clear P q6;go_wp2_with fail
   go_ret
   exact⟨rfl,HM.old H.out,below_grown H.out _⟩
def nV (s:ai) (op:Nat) (nm a:Str) (p:Nat) (ks:List Int) (m:MS):Int×MS:=
 if m.err≠0 then(0,m)
 else if op=20 then(1,m)
 else if op=21 then(4,m)
 else if op=22 then(2,m)
 else if op=23 then(3,if fP nm 0 (s.syms.map (·.toList))<0 then dI 10 p m else m)
 else if 24<=op then pF s op nm a p m
 else(GI op ks,if GI op ks=0 then dI 11 p m else m)
def eH (s:ai):az->MS->Int×MS
 |.leaf op _ _ nm a p,m=>nV s op nm a p [] m
 |.un op x p,m=>nV s op [] [] p [(eH s x m).1] (eH s x m).2
 |.bin op x y p,m=>nV s op [] [] p [(eH s x m).1,(eH s y (eH s x m).2).1] (eH s y (eH s x m).2).2
theorem bP (e p:Nat) (m:MS):(dI e p m).items=m.items:=by unfold dI;split<;>rfl
theorem GK (s:ai) (op:Nat) (b a:Str) (p:Nat) (m:MS):(pF s op b a p m).2.items=m.items:=by
 unfold pF
 (repeat' split)<;>first|rfl|exact bP _ _ _
theorem tH (s:ai) (op:Nat) (b a:Str) (p:Nat) (ks:List Int) (m:MS):(nV s op b a p ks m).2.items=m.items:=by
 unfold nV
 (repeat' split)<;>first|rfl|exact bP _ _ _|exact GK _ _ _ _ _ _|(simp only[];split<;>first|rfl|exact bP _ _ _)
theorem fK (s:ai):∀(e:az) (m:MS),(eH s e m).2.items=m.items
 |.leaf ..,m=>tH _ _ _ _ _ _ _
 |.un op x p,m=>(tH _ _ _ _ _ _ _).trans (fK s x m)
 |.bin op x y p,m=>(tH _ _ _ _ _ _ _).trans ((fK s y _).trans (fK s x m))
def xQ:List (MS->Int×MS)->List Int->MS->List Int×MS
 |[],ks,m=>(ks,m)
 |f::fs,ks,m=>xQ fs (ks++[(f m).1]) (f m).2
structure zEm (b B:Nat) (s:ai) (iv:Value) (items:List dh) (w:World) (A:Option Addr) (j:Nat) (f:MS->Int×MS):Prop where
 ex:∃(g:Nat) (d0 d1 d2 d3 d4 d5 d6:Value),A=some ⟨g,0,none⟩/\g<w.heap.size/\g≠b/\(∀(q:Nat) (u:Value),[d0,d1,d2,d3,d4,d5,d6][q]? =some u->w.cell? ⟨g,j*7+q,none⟩=some u)/\
  ∀(m:MS) (W:World),w.grownBy W (some b)->jR b B s iv m W->m.items=items->Calls prog 74 #[.pointer (some ⟨b,0,none⟩),.agg #[d0,d1,d2,d3,d4,d5,d6]] W λr W'=>r=.returned (.int .i64 (f m).1)/\iK b B s iv (f m).2 W W'
 items:∀m,(f m).2.items=m.items
structure KdI (b B bx:Nat) (s:ai) (iv:Value) (items:List dh) (cells:Array Value) (w w0:World) (A:Option Addr) (n c:Nat) (ks:List Int) (m:MS) (W:World):Prop where
 st:jR b B s iv m W
 gw:w.grownBy W (some b)
 kx:Bk W bx 110 cells
 own:W.ownsRow w0.heap.size 3 1 (.slice A n c) n (dw ks)
 it:m.items=items
 sz:w0.heap.size<=W.heap.size
theorem jR.UG {b B:Nat} {s:ai} {c:Value} {m:MS} {W W':World} {v:Value} {e:TypeId} {base a n:Nat} {xs:List Value} (h:jR b B s c m W) (d:W.ownsRow base e a v n xs) (hb:b<base) (j:∀k,c.ownBlock=some k->k<base) (i:W.grownBy W' v.ownBlock):jR b B s c m W':=by
 have g:some b≠v.ownBlock:=by
  intro f;have:=(d.lt b f.symm).1;omega
 refine⟨h.bk.grown i g,h.Eh.jQ (jP zR d (zG5 hb) i (zG5 h.bk.lt)),h.own.kept i ?_⟩;rcases hv:c.ownBlock with _|k
 ·exact .inl rfl
 right
 intro f;have o:=j k hv;have l:=(d.lt k f.symm).1;omega
theorem Ff {b B:Nat} {w c w':World} {e:TypeId} {a n:Nat} {v:Value} {xs:List Value} (f:w.grownBy c (some b)) (h:c.ownsRow B e a v n xs) (d:w.heap.size<=B) (g:c.grownBy w' v.ownBlock):w.grownBy w' (some b):=Jk f (bV h d) g
theorem Pq:(prog.info? 3).map (λi=>(i.zero,i.size,i.bytes))=some (some (.int .i64 0),1,8):=by kernel_rfl
theorem yR (b B:Nat) (s:ai) (E:Value) (y:MS) (op p:Nat) (c2 c3:Value) (v S2:ByteArray) (P:Option Addr) (k M:Nat) (D:List (MS->Int×MS)) (hk:D.length=k) (al:k<=2) (w:World) (h:jR b B s E y w) (Q:b<B) (hn:y.items.length<=1000)
  (G:∀j (hj:j<D.length),zEm b B s E y.items w P j D[j]):
  Calls prog 74 #[.pointer (some ⟨b,0,none⟩),.agg #[op,.slice P k M,c2,c3,v,S2,p]] w λr w'=>
   r=.returned (.int .i64 (nV s op v.toList S2.toList p (xQ D [] y).1 (xQ D [] y).2).1)/\iK b B s E (nV s op v.toList S2.toList p (xQ D [] y).1 (xQ D [] y).2).2 w w':=by
 have HC:=zH G;have R:=zH hk;have HN:=zH hn;obtain⟨iT,hT,a8,a9,a7⟩:=zG4 Pq;obtain⟨⟨KS,MF⟩,a⟩:∃z,xQ D [] y=z:=⟨_,rfl⟩
 rw[a];simp only[];have H0:Hid (xQ (D.drop 0) [] y=(KS,MF)):=zH (by rw[zFp];exact a);obtain⟨a4,d⟩:=zN (nV s op v.toList S2.toList p KS MF)
 rw[d];have aH:=zH d;have HM:=zH h;have ag:=h.bk.lt;clear G hk a d h hn
 go_enter func74,ntmps74
 have e:=Bk.new w 110 #[op,.slice P k M,c2,c3,v,S2,p];have a:Below w w (w.alloc (.cells #[op,.slice P k M,c2,c3,v,S2,p] 110)):=zR.alloc zL _;go_upto_region 1 with fail
 obtain⟨H,d⟩:=zN (w.alloc (.cells #[op,.slice P k M,c2,c3,v,S2,p] 110))
 rw[d]at e a⊢;clear d;obtain⟨K,d⟩:=zN w.heap.size
 have kD:=zH d;rw[d]at e⊢;have af:b<K:=by omega
 have ad:=e.lt;have Yb:b<H.heap.size:=by omega
 have q1:=e.cell 1;have a6:Hid (∀j,E.ownBlock=some j->j<H.heap.size):=zH λj hj=>zFs (HM.own.lt j hj).2 a.size
 have V0:Hid (KdI b B K s E y.items #[op,.slice P k M,c2,c3,v,S2,p] w H none 0 0 [] y H):=zH ⟨HM.old a,below_grown a _,e,zGs _ _ _ _,rfl,zFv _⟩;clear e a d;go_wp2_with fail
 clear q1
 go_loopw[5,11] (λl i wr=>∃(j:Nat) (A:Option Addr) (c:Nat) (ks:List Int) (m:MS),j<=k/\l=.slice A j c/\i=.int .i64 j/\ks.length=j/\Hid (xQ (D.drop j) ks m=(KS,MF))/\Hid (KdI b B K s E y.items #[op,.slice P k M,c2,c3,v,S2,p] w H A j c ks m wr)) (λ_ i _=>k-(intOf i).toNat)
 case atStart=>exact⟨0,none,0,[],y,zFj _,rfl,rfl,rfl,H0,V0⟩
 case round=>
  clear H0 V0;obtain⟨j,A,c,ks,m,hj,rfl,rfl,L,HR,a⟩:=hrel;have ZA:=zH L;clear L;obtain⟨n,rfl⟩:∃n:World,n=wr:=⟨_,rfl⟩
  by_cases a1:j<k
  ·as_aux_lemma=>
   have X:j<D.length:=by rw[R.out];exact a1
   obtain⟨g,d0,d1,d2,d3,d4,d5,d6,rfl,U,I,t,S⟩:=(HC.out j X).ex;have e:=(HC.out j X).items m;have N:=HR.out;rw[zFk X]at N;have o:xQ (D.drop (j+1)) (ks++[(D[j] m).1]) (D[j] m).2=(KS,MF):=N;have q1:=a.kx.cell 1
   have d:∀(q:Nat) (u:Value),[d0,d1,d2,d3,d4,d5,d6][q]? =some u->n.cell? ⟨g,j*7+q,none⟩=some u:=λq u h=>by
    rw[<-t q u h];exact zJe (w:=w) (a.gw.block g U (aG I))
   have r0:n.cell? ⟨g,j*7,none⟩=some d0:=d 0 _ rfl;have Z:n.cell? ⟨g,j*7+1,none⟩=some d1:=d 1 _ rfl;have r2:n.cell? ⟨g,j*7+2,none⟩=some d2:=d 2 _ rfl;have r3:n.cell? ⟨g,j*7+3,none⟩=some d3:=d 3 _ rfl;have r4:n.cell? ⟨g,j*7+4,none⟩=some d4:=d 4 _ rfl;have r5:n.cell? ⟨g,j*7+5,none⟩=some d5:=d 5 _ rfl;have Y:n.cell? ⟨g,j*7+6,none⟩=some d6:=d 6 _ rfl;have O:=zH (S m n a.gw a.st a.it);obtain⟨⟨J,m2⟩,F⟩:∃z,D[j] m=z:=⟨_,rfl⟩
   rw[F]at o O e;simp only at o O e;have f:=zH o;have x:=zH e;clear t S d N o F U I e HR HC aH;go_wp2_with fail
   refine O.mono ?_;rintro r w2 ⟨rfl,d⟩;have e:=ik a.own d.grown Yb;have ak:H.heap.size<=w2.heap.size:=zFi a.sz d.grown.size;have F:Below w2 w2 (w2.alloc (.cells #[J] 3)):=zR.alloc zL _;have z:=aT e F;have S:H.heap.size<=(w2.alloc (.cells #[J] 3)).heap.size:=by simp;omega
   have o:jR b B s E m2 (w2.alloc (.cells #[J] 3))/\w.grownBy (w2.alloc (.cells #[J] 3)) (some b)/\Bk (w2.alloc (.cells #[J] 3)) K 110 #[op,.slice (some ⟨g,0,none⟩) k M,c2,c3,v,S2,p]:=
    ⟨d.st.old F,(a.gw.trans d.grown).trans (below_grown F _),(a.kx.grown d.grown (aG (by omega))).old F⟩
   have I:=zH o;have L:=ZA.out;have am:j<=2:=by omega
   have UH:Hid (m2.items=y.items):=zH (x.trans a.it);clear O d e o L r0 Z r2 r3 r4 r5 Y q1 a x;go_wp2_with (first|at_builtin;(refine aU (by rfl) _ _ 26 (by rfl) H.heap.size 3 iT _ 1 8 underlying26 hT a8 a9 a7 rfl (by decide) (.slice A j c) j _ (by rfl) z (w2.heap.size+1) (some ⟨w2.heap.size,0,none⟩) 1 1 [.int .i64 J] (by rfl) (Rd.lit rfl _ _) (by rfl) ?c2 ?c3 ?c4 S ?_))
   case c2=>intro u d;simp at d;subst d;rfl
   case c3=>unfold maxLen;omega
   case c4=>omega
   intro A6 c6 w6 d o _
   have e:some K≠(Value.slice A j c).ownBlock:=by
    intro x;have:=(z.lt K x.symm).1;omega
   have iW:Hid (KdI b B K s E y.items #[op,.slice (some ⟨g,0,none⟩) k M,c2,c3,v,S2,p] w H A6 (j+1) c6 (ks++[J]) m2 w6):=zH
    ⟨I.1.UG z Yb a6.out o,by
     have x:w.heap.size<=H.heap.size:=by have:=kD.out;omega
     exact Ff I.2.1 z x o,I.2.2.grown o e,by unfold dw;rw[zGr];exact d,UH.out,by have:=o.size;omega⟩
   have a0:Hid ((ks++[J]).length=j+1):=zH (by rw[zFu,ZA.out];rfl);clear d o z S I e F ZA;go_wp2
   go_roundw
   case rel=>exact⟨j+1,A6,c6,ks++[J],m2,by omega,rfl,by go_num,a0.out,f,iW⟩
   case measure=>simp[intOf];omega
  obtain rfl:j=k:=by omega
  have N:=HR.out;rw[zFq (by rw[R.out];exact zFv _)]at N;have N:(ks,m)=(KS,MF):=N;injection N with h1 h2
  subst h1;subst h2;have a5:=a.st.c3;clear HR HC R a1 hj
  by_cases e:m.err=0
  case neg=>
   as_aux_lemma=>
   have jA:((m.err:Int) !=0)=true:=by rw[zG1];omega
   have d:=aH.out;unfold nV at d;rw[zF3 e]at d;subst d;have q1:=a.kx.cell 1;clear e aH;go_wp2
   go_ret
   exact⟨rfl,a.st,a.gw⟩
  case pos=>
  have jA:((m.err:Int) !=0)=false:=by rw[zG0];omega
  have d:=aH.out;unfold nV at d;rw[zF2 (by omega)]at d;have f:=zH d;have q0:=a.kx.cell 0;have q1:=a.kx.cell 1;clear aH d e;have aa:op=20\/op=21\/op=22\/op=23\/24<=op\/op<20:=by omega
  rcases aa with t|t|t|t|t|t
  ·as_aux_lemma=>
   have F:((op:Int)==20)=true:=by rw[zFt];omega
   have d:=f.out;rw[zF3 t]at d;subst d;clear t f;go_wp2
   go_ret
   exact⟨rfl,a.st,a.gw⟩
  ·as_aux_lemma=>
   have F:((op:Int)==20)=false:=zB (by omega)
   have I:((op:Int)==21)=true:=by rw[zFt];omega
   have d:=f.out;rw[zF2 (by omega),zF3 t]at d;subst d;clear t f;go_wp2
   go_ret
   exact⟨rfl,a.st,a.gw⟩
  ·as_aux_lemma=>
   have F:((op:Int)==20)=false:=zB (by omega)
   have I:((op:Int)==21)=false:=zB (by omega)
   have Z:((op:Int)==22)=true:=by rw[zFt];omega
   have d:=f.out;rw[zF2 (by omega),zF2 (by omega),zF3 t]at d;subst d;clear t f;go_wp2
   go_ret
   exact⟨rfl,a.st,a.gw⟩
  ·
   have F:((op:Int)==20)=false:=zB (by omega)
   have I:((op:Int)==21)=false:=zB (by omega)
   have Z:((op:Int)==22)=false:=zB (by omega)
   have a2:((op:Int)==23)=true:=by rw[zFt];omega
   have d:=f.out;rw[zF2 (by omega),zF2 (by omega),zF2 (by omega),zF3 t]at d;obtain⟨sa,z⟩:=zN (fP v.toList 0 (s.syms.map (·.toList)))
   rw[z]at d;obtain⟨Y,x⟩:=zN (decide (sa<0))
   have O:a4=(3,if Y=true then dI 10 p m else m):=by
    rw[<-d,<-x]
    by_cases h:sa<0<;>simp[h]
   have o:=zH O
   have U:Hid (∀W:World,Below n n W->Calls prog 92 #[.slice s.sa s.syms.length s.sc,v] W λe w'=>e=.returned (.int .i64 sa)/\W=w'):=zH λW S=>by
    have:=Us s.sa s.sc s.syms v b W ((a.st.old S).Eh.syms) (by have:=a.st.Eh.slen;unfold maxLen;omega)
    rwa [z]at this
   have s1:n.cell? ⟨b,1,none⟩=some (.slice s.sa s.syms.length s.sc):=a.st.bk.cell 1;have x4:n.cell? ⟨K,4,none⟩=some (.string v):=a.kx.cell 4;have lF:Hid (∀W:World,Below n n W->Calls prog 71 #[.pointer (some ⟨b,0,none⟩),.int .i64 10,p] W λr w'=>r=.returned (.tuple #[])/\iK b B s E (dI 10 p m) W w'):=zH λW S=>ku b B s E m W 10 p (a.st.old S) Q
   clear t f d O z;go_upto_region 16 with fail
   clear q0;obtain⟨W,S⟩:=zN n
   subst S
   refine wx (λk => false) [.is (.pointer (some ⟨b, 0, none⟩)),
     .is (.pointer (some ⟨b,0,none⟩)),
     .is (.pointer (some ⟨b,0,none⟩)),
     .is (.pointer (some ⟨b,1,none⟩)),
     .is (.slice s.sa s.syms.length s.sc),
     .is (.pointer (some ⟨K,4,none⟩)),
     .is (.string v),
     .is (.int .i64 sa),
     .is (.bool Y)] [7,8] (by kernel_rfl) (by kernel_rfl) (by kernel_rfl)
     (λC=>.c (px C rfl (λ_ _=>rfl)) <|
     .c (px C rfl (λ_ _=>rfl)) <|
     .c (px C rfl (λ_ _=>rfl)) <|
     .c (px C rfl (λ_ _=>rfl)) <|
     .c (px C rfl (λ_ h=>bH (ld23 (bc h s1)))) <|
     .c (px C rfl (λ_ _=>rfl)) <|
     .c (px C rfl (λ_ h=>bH (I7 (bc h x4)))) <|
     .c (pz [4,6] [] (by kernel_rfl) λqK qa wr hB qO z O=>?_) <|
     .c (pz [7] [] (by kernel_rfl) λqK qa wr hB qO z O=>?_) <| .nil) ?_
   ·have an:=aA z.1 rfl rfl;have ab:=aA z.2.1 rfl rfl;clear qO z;go_simp
    go_at_call 92
    refine(U.out wr (hB)).mono ?_;rintro r w9 ⟨rfl,rfl⟩;exact O _ _ zR rfl
   ·have a3:=aA z.1 rfl rfl;clear qO z;go_simp;refine O _ _ zR ?_
    show(_:Value)=_
    first|rfl|rw[x]|(simp[x];done)
   intro qx wr hB d z;clear d z;simp only[bJ,zF0,zGb,zF1,zFp,zFd,zFh,zF4,Act.put,zFf,zFw,zFx];refine zM ?_;have HB:=zH hB;have q6:=(a.kx.old hB).cell 6;clear hB s1 x4 U;cases Y
   case false=>
    have d:=o.out;rw[zF2 (by decide)]at d;subst d;clear o x;go_wp2
    go_ret
    exact⟨rfl,a.st.old HB.out,a.gw.trans (below_grown HB.out _)⟩
   case true=>
    have d:=o.out;rw[zF3 rfl]at d;subst d;clear o x;go_wp2_with fail
    refine(lF.out _ HB.out).mono ?_;rintro r w5 ⟨rfl,z⟩;have O:=zH (zA z.st ((a.gw.trans (below_grown HB.out (some b))).trans z.grown));clear z q6 lF;go_wp2
    go_ret
    exact⟨rfl,O.1,O.2⟩
  ·as_aux_lemma=>
   have F:((op:Int)==20)=false:=zB (by omega)
   have I:((op:Int)==21)=false:=zB (by omega)
   have Z:((op:Int)==22)=false:=zB (by omega)
   have a2:((op:Int)==23)=false:=zB (by omega)
   have ab:(24:Int)<=(op:Int):=by omega
   have d:=f.out;rw[zF2 (by omega),zF2 (by omega),zF2 (by omega),zF2 (by omega),zF3 t]at d;have HF:=Np b B s E m op p (.slice P j M) c2 c3 v S2 n a.st Q (by rw[a.it];exact HN.out);rw[d]at HF;have U:=zH HF;have q2:=a.kx.cell 2;have q3:=a.kx.cell 3;have q4:=a.kx.cell 4;have q5:=a.kx.cell 5;have q6:=a.kx.cell 6;clear t f d HF;go_wp2_with fail
   refine U.mono ?_;rintro r w5 ⟨rfl,z⟩;have O:=zH (zA z.st (a.gw.trans z.grown));clear z U q0 q1 q2 q3 q4 q5 q6 a5;go_wp2
   go_ret
   exact⟨rfl,O.1,O.2⟩
  as_aux_lemma=>
  have F:((op:Int)==20)=false:=zB (by omega)
  have I:((op:Int)==21)=false:=zB (by omega)
  have Z:((op:Int)==22)=false:=zB (by omega)
  have a2:((op:Int)==23)=false:=zB (by omega)
  have ab:¬(24:Int)<=(op:Int):=by omega
  have d:=f.out;rw[zF2 (by omega),zF2 (by omega),zF2 (by omega),zF2 (by omega),zF2 (by omega)]at d;have a3:=ZA.out
  have U:Calls prog 94 #[op,.slice A j c] n λe w'=>e=.returned (.int .i64 (GI op ks))/\Below n n w':=by
   have e:=a.own;rw[<-a3]at e⊢;exact zX (op:Int) ks A c n (by omega) (fM e)
  obtain⟨rk,e⟩:=zN (GI (op:Int) ks)
  rw[e]at d U;have Yc:=zH U;have o:=zH d;have lF:Hid (∀W:World,Below n n W->Calls prog 71 #[.pointer (some ⟨b,0,none⟩),.int .i64 11,p] W λr w'=>r=.returned (.tuple #[])/\iK b B s E (dI 11 p m) W w'):=zH λW S=>ku b B s E m W 11 p (a.st.old S) Q
  clear t f d U e a3;go_wp2_with fail
  refine Yc.mono ?_;rintro r w5 ⟨rfl,e⟩;have AP:=zH e;have q6:=(a.kx.old e).cell 6;clear Yc e q0
  by_cases U:rk=0
  ·have hI:(rk==0)=true:=by rw[zFt];exact U
   have d:=o.out;rw[zF3 U]at d;subst d;clear U o;go_wp2_with fail
   refine(lF.out _ AP.out).mono ?_;rintro r w6 ⟨rfl,e⟩;have O:=zH (zA e.st ((a.gw.trans (below_grown AP.out (some b))).trans e.grown));clear e lF q6;go_wp2
   go_ret
   exact⟨rfl,O.1,O.2⟩
  have hI:(rk==0)=false:=by rw[zFz];exact U
  have d:=o.out;rw[zF2 U]at d;subst d;clear U o lF;go_wp2
  go_ret
  exact⟨rfl,a.st.old AP.out,a.gw.trans (below_grown AP.out _)⟩
theorem lM {P:Nat->Prop} (b B:Nat) (s:ai) (o:Value) (c:b<B) (i:∀g,P g->g≠b):∀(e:az) (cs:List Value) (m:MS) (w:World),m.items.length<=1000->jR b B s o m w->mM P w e cs->
  Calls prog 74 #[.pointer (some ⟨b,0,none⟩),.agg cs.toArray] w λr w'=>r=.returned (.int .i64 (eH s e m).1)/\iK b B s o (eH s e m).2 w w'
 |.leaf op n O N a p,cs,m,w,l,A,h=>by
  obtain rfl:cs=iF op n O N a p:=h;have:=yR b B s o m op p (.int .i64 n) (.int .i64 O) (bytes N) (bytes a) none 0 0 [] rfl (by omega) w A c l (λj C=>absurd C (by simp));rw[aI,aI]at this;exact this
 |.un op x p,cs,m,w,l,A,h=>by
  obtain⟨g,xs,rfl,E,r,D⟩:=h;obtain⟨I,K,F,J,G,M,H,rfl,L⟩:=D.seven
  have:=yR b B s o m op p (.int .i64 0) (.int .i64 0) ⟨#[]⟩ ⟨#[]⟩ (some ⟨g,0,none⟩) 1 1 [eH s x] rfl (by omega) w A c l (λj C=>by
   match j,C with
   |0,_=>exact⟨⟨g,I,K,F,J,G,M,H,rfl,r.lt,i g E,λq u t=>by rw[r.cell];simpa using t,λd W v f z=>lM b B s o c i x _ d W (by rw[z];exact l) f (D.keep λq k e=>⟨k,v.block q e (aG (i q k))⟩)⟩,λd=>fK s x d⟩)
  rw[show(⟨#[]⟩:ByteArray).toList=[] by rw[zFm]]at this;exact this
 |.bin op x y p,cs,m,w,l,A,h=>by
  obtain⟨g,xs,ys,rfl,E,r,D,L⟩:=h;obtain⟨Q,Y,S,U,R,X,Z,rfl,_⟩:=D.seven;obtain⟨I,K,F,J,G,M,H,rfl,_⟩:=L.seven
  have:=yR b B s o m op p (.int .i64 0) (.int .i64 0) ⟨#[]⟩ ⟨#[]⟩ (some ⟨g,0,none⟩) 2 2 [eH s x,eH s y] rfl (by omega) w A c l (λj C=>by
   match j,C with
   | 0, _ => exact ⟨⟨g, Q, Y, S, U, R, X, Z, rfl, r.lt, i g E, λq u t => by
     rw[r.cell];have k:q<7:=(zFc.1 t).1;rw[zF7]
     rw[zGh (by simp;omega),zHm,zFr,t],λd W v f z=>lM b B s o c i x _ d W (by rw[z];exact l) f (D.keep λq k e=>⟨k,v.block q e (aG (i q k))⟩)⟩,λd=>fK s x d⟩
   | 1, _ => exact ⟨⟨g, I, K, F, J, G, M, H, rfl, r.lt, i g E, λq u t => by
     rw[r.cell];rw[zF7];rw[zGd (by simp)]
     simpa using t,λd W v f z=>lM b B s o c i y _ d W (by rw[z];exact l) f (L.keep λq k e=>⟨k,v.block q e (aG (i q k))⟩)⟩,λd=>fK s y d⟩)
  rw[show(⟨#[]⟩:ByteArray).toList=[] by rw[zFm]]at this;exact this
end Go.Proofs.YtbjnhllkdilpfaaGreat
