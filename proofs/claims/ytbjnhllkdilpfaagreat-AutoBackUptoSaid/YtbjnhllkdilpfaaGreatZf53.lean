/- Part 53 of the proof. No conditions. -/
import Derived.Test.YtbjnhllkdilpfaaGreatZf51
import Derived.Test.YtbjnhllkdilpfaaGreatZf52
set_option linter.unusedVariables false
set_option linter.unusedSimpArgs false
set_option maxRecDepth 100000
set_option maxHeartbeats 8000000
namespace Go.Proofs.YtbjnhllkdilpfaaGreat
open Go.RowKit _root_.Go.Proofs.Tryz
def WV (ax:Int) (ks:List Int) (nk:Nat) (v:Value) (w:World):Prop:=∃(B1 B2:Option Addr) (m e1 e2:Nat) (bs:List dL),v=.agg #[ax,.slice B1 nk e1,.slice B2 m e2]/\dO 200 (λ_=>True) ax ks bs [.int .i64 ax,.slice B1 nk e1,.slice B2 m e2] w/\qy 3400 bs
theorem WV.old (ax:Int) (ks:List Int) (b:Nat):∀v (w w':World),Below w w w'->WV ax ks b v w->WV ax ks b v w':=λ_ _ _ hb ⟨g,e,m,d,i,a,c,f,h⟩=>⟨g,e,m,d,i,a,c,f.old hb,h⟩
theorem WV.of {ax:Int} {ks:List Int} {a:Nat} {S:Nat->Prop} {bs:List dL} {cs:List Value} {w:World} {G:Prop} (h:dO 200 S ax ks bs cs w) (d:qy 3400 bs) (g:ks.length=a) (f:∀v,v=.agg cs.toArray->WV ax ks a v w->G):G:=by
 obtain⟨i,bv,rfl,b,hb⟩:=h.any;obtain⟨A,c,rfl⟩:=b.form;obtain⟨B,e,rfl⟩:=hb.form;subst g;exact f _ rfl ⟨A,B,_,c,e,bs,rfl,⟨_,_,rfl,b,hb⟩,d⟩
def Pa3 (ax:Int) (ks:List Int) (nk:Nat) (Ak:Option Addr) (ck:Nat) (Ab:Option Addr) (nb cb g:Nat) (w:World):Prop:=∃(B1 B2:Option Addr) (m e1 e2:Nat) (zh:List dL) (D1 D2:Option Addr) (m2 f1 f2:Nat) (FH:List dL),
 Bk w g 29 #[ax,.slice Ak nk ck,.slice Ab nb cb,ax,.slice B1 nk e1,.slice B2 m e2,ax,.slice D1 nk f1,.slice D2 m2 f2]/\dO 200 (λ_=>True) ax ks zh [.int .i64 ax,.slice B1 nk e1,.slice B2 m e2] w/\qy 3400 zh/\dO 200 (λ_=>True) ax ks FH [.int .i64 ax,.slice D1 nk f1,.slice D2 m2 f2] w/\qy 3400 FH
theorem Pa3.old {ax:Int} {ks:List Int} {c:Nat} {e:Option Addr} {d:Nat} {f:Option Addr} {b a g:Nat} {w w':World} (h:Pa3 ax ks c e d f b a g w) (hb:Below w w w'):Pa3 ax ks c e d f b a g w':=by
 obtain⟨q,v,m,n,z,o,s,u,j,i,k,r,l,x,p,y,t⟩:=h;exact⟨q,v,m,n,z,o,s,u,j,i,k,r,l.old hb,x.old hb,p,y.old hb,t⟩
section
variable {s0 s1 s2:Int} {A1 A2 B1 B2 C1 C2:Option Addr} {n1 n2 m1 m2 k1 k2 c1 c2 e1 e2 f1 f2:Nat}
theorem zD2 {w:World} {o:Oper} {a:Act} {K:Act->World->Prop} {Q:Exit->Act->World->Prop} (x y z:Operand) (d:o.op=.buildSlice 34 3 #[(0,x),(1,y),(2,z)]) (e:a.eval x=.agg #[s0,.slice A1 n1 c1,.slice A2 n2 c2]) (b:a.eval y=.agg #[s1,.slice B1 m1 e1,.slice B2 m2 e2]) (c:a.eval z=.agg #[s2,.slice C1 k1 f1,.slice C2 k2 f2])
  (g:K (a.put o.dst (.slice (some ⟨w.heap.size,0,none⟩) 3 3)) (w.alloc (.cells #[s0,.slice A1 n1 c1,.slice A2 n2 c2,s1,.slice B1 m1 e1,.slice B2 m2 e2,s2,.slice C1 k1 f1,.slice C2 k2 f2] 29))):o.wp prog a w K Q:=by
 have f:(Instr.buildSlice 34 3 #[(0,.agg #[s0,.slice A1 n1 c1,.slice A2 n2 c2]),(1,.agg #[s1,.slice B1 m1 e1,.slice B2 m2 e2]),(2,.agg #[s2,.slice C1 k1 f1,.slice C2 k2 f2])]).run prog w=.ok (.slice (some ⟨w.heap.size,0,none⟩) 3 3) (w.alloc (.cells #[s0,.slice A1 n1 c1,.slice A2 n2 c2,s1,.slice B1 m1 e1,.slice B2 m2 e2,s2,.slice C1 k1 f1,.slice C2 k2 f2] 29)):=by kernel_rfl
 unfold Oper.wp execOp;simp only[d,zHp,zGq,zHc,e,b,c,zH5,f,Result.andThen_ok,Sem.run_pure];exact g
end
section
set_option maxRecDepth 100000
set_option maxHeartbeats 8000000
theorem zD6 (s:ai) (TX:ByteArray) (w:World) (hs:s.ok w w.heap.size) (hl:s.types.length<=1048576):Calls prog 4 #[s.val,TX] w (Yes w):=by
 have f:=hs;obtain⟨v0,v1,d⟩:∃v0 v1,s.val=.agg #[v0,v1]:=⟨_,_,rfl⟩
 have l:v0.oneCell'=true:=by
  unfold ai.val at d;injection d with d
  injection d with d
  injection d with d _
  rw[<-d];rfl
 have e:v1.oneCell'=true:=by
  unfold ai.val at d;injection d with d
  injection d with d
  injection d with _ d
  injection d with d _
  rw[<-d];rfl
 obtain⟨vA,vn,vc,h⟩:∃A n c,v0=.slice A n c:=by
  unfold ai.val at d;injection d with d
  injection d with d
  injection d with d _
  exact⟨_,_,_,d.symm⟩
 obtain⟨uA,un,uc,y⟩:∃A n c,v1=.slice A n c:=by
  unfold ai.val at d;injection d with d
  injection d with d
  injection d with _ d
  injection d with d _
  exact⟨_,_,_,d.symm⟩
 subst h y;have HV:=zH d;rw[d];clear d l e
 go_enter func4,ntmps4
 go_upto_region 1 with fail
 have k1:=Bk.new w 25 #[.slice vA vn vc,.slice uA un uc];have e:=ba w (.cells #[.slice vA vn vc,.slice uA un uc] 25);generalize w.alloc (.cells #[.slice vA vn vc,.slice uA un uc] 25)=w0 at *;have h:=zH (Dv 200 zL s TX w0 (f.old e) (Wu _));rw[HV.out]at h;have x0:=k1.cell 0;have x1:=k1.cell 1;have l:=zH e;clear k1 e hs f;go_wp2_with fail
 refine h.mono ?_;rintro r w2 ⟨pv,rfl,E,e⟩;have I:=zH (l.trans (e.mono l.size));have IA:=FT s TX.toList;have R:=FU s TX.toList;obtain⟨⟨t,QX⟩,f⟩:∃z,jH s TX.toList=z:=⟨_,rfl⟩
 rw[f]at E IA R⊢;simp only at E IA R⊢;clear f h e l;cases QX
 ·obtain⟨A1,A2,n1,n2,c1,c2,rfl⟩:=E.form;clear E IA R;go_upto_region 2 with(refine ae aP rfl _ _ rfl rfl [.int .i64 t.aS,.slice A1 n1 c1,.slice A2 n2 c2] rfl (Bk.new _ _ _) rfl rfl rfl ?_;intro w3 p3;go_frame)
  have A:=zH (I.trans ((p3.below w2.heap.size w2 (ba _ _) zL).mono I.size));clear p3 I;go_wp2_with fail
  refine(nO w3).mono ?_;rintro e w4 ⟨rfl,p⟩;have o:=zH (A.trans (p.mono A.size));clear p A;go_wp2_with fail
  refine(nO w4).mono ?_;rintro e D ⟨rfl,H⟩;have AP:=zH (o.trans (H.mono o.size));clear H o;go_wp2_with fail
  go_ret
  exact⟨rfl,AP.out⟩
 have f:=IA rfl;obtain⟨cs,rfl,h⟩:=E.row (f.k (by omega));have HG:=zH (zA f.bs f.ax);obtain⟨kv,bv,rfl,hk,hb⟩:=h;obtain⟨M,K,rfl⟩:=hk.form;obtain⟨N,L,rfl⟩:=hb.form;have l:=zH (zA hk hb);clear E IA f hk hb R;obtain⟨ax,x⟩:∃z:Int,(t.aS:Int)=z:=⟨_,rfl⟩
 rw[x];obtain⟨f,G⟩:=zN t.keys.length
 rw[G]at l⊢;have U7:=zH G;clear G;have a9:1<=ax/\ax<=3:=by have:=HG.2;omega
 go_upto_region 2 with(refine ae aP rfl _ _ rfl rfl [.int .i64 ax,.slice M f K,.slice N t.branches.length L] rfl (Bk.new _ _ _) rfl rfl rfl ?_;intro w3 p3;go_frame)
 have h:Below w2 w2 w3:=p3.below _ _ (ba _ _) zL;have A:=zH (I.trans (h.mono I.size));have m:Hid (dO 200 (λ_=>True) ax t.keys t.branches [.int .i64 ax,.slice M f K,.slice N t.branches.length L] w3/\Bk w3 w2.heap.size 29 #[ax,.slice M f K,.slice N t.branches.length L]):=zH ⟨⟨_,_,rfl,l.1.keep (.old h),l.2.keep (.old h)⟩,p3.bk⟩;clear p3 h I l x;go_wp2_with fail
 refine(nO w3).mono ?_;rintro e w4 ⟨rfl,p⟩;have o:=zH (A.trans (p.mono A.size));have U:Hid (dO 200 (λ_=>True) ax t.keys t.branches [.int .i64 ax,.slice M f K,.slice N t.branches.length L] w4/\Bk w4 w2.heap.size 29 #[ax,.slice M f K,.slice N t.branches.length L]):=zH ⟨m.1.old p,m.2.old p⟩;clear p A m;go_upto_region 4 with fail
 refine wx (λk=>k==5) [.is (.agg #[ax,.slice M f K,.slice N t.branches.length L]),.is (.agg #[ax,.slice M f K,.slice N t.branches.length L]),.st (WV ax t.keys f) (WV.old ax t.keys f),.is (.agg #[ax,.slice M f K,.slice N t.branches.length L]),.st (WV ax t.keys f) (WV.old ax t.keys f),
  .st (λv w=>∃g,v=.slice (some ⟨g,0,none⟩) 3 3/\Pa3 ax t.keys f M K N t.branches.length L g w) (λ_ _ _ hb ⟨g,h0,h1⟩=>⟨g,h0,h1.old hb⟩),.is (.int .i64 3),.is (.int .i64 0)] [2,4,5,6] (by kernel_rfl) (by kernel_rfl) (by kernel_rfl)
  (λC=>.c (px C rfl (λ_ h=>bH (dW eF aP [.int .i64 ax,.slice M f K,.slice N t.branches.length L] rfl λj u x=>by rw[zFr,(U.2.old h).cell j];simpa using x))) <| .c (px C rfl (λ_ h=>bH (dW eF aP [.int .i64 ax,.slice M f K,.slice N t.branches.length L] rfl λj u x=>by rw[zFr,(U.2.old h).cell j];simpa using x))) <| .c (pz [1] [] (by kernel_rfl) λY O wr y J l B=>?_) <|
   .c (px C rfl (λ_ h=>bH (dW eF aP [.int .i64 ax,.slice M f K,.slice N t.branches.length L] rfl λj u x=>by rw[zFr,(U.2.old h).cell j];simpa using x))) <| .c (pz [3] [] (by kernel_rfl) λY O wr y J l B=>?_) <|
   .c (pf [0,2,4] [] (by kernel_rfl) λY O wr y J l B=>?_) <| .c (pz [5] [] (by kernel_rfl) λY O wr y J l B=>?_) <| .c (px C rfl (λ_ _=>rfl)) .nil) ?_
 ·have a2:=aA l.1 rfl rfl;clear J l;go_simp
  go_at_call 7
  refine(zE7 (U.1.old y) HG.1 (by decide)).mono ?_;rintro e D ⟨P,a0,rfl,h5,X,h7⟩;exact WV.of h5 (X.more (by decide)) U7.out λv d h=>by subst d;exact B _ _ h7 h
 ·have a3:=aA l.1 rfl rfl;clear J l;go_simp
  go_at_call 7
  refine(zAm (U.1.old y) HG.1 (by decide)).mono ?_;rintro e D ⟨P,a0,rfl,h5,X,h7⟩;exact WV.of h5 X U7.out λv d h=>by subst d;exact B _ _ h7 h
 ·have a1:=aA l.1 rfl rfl;obtain⟨u26,Q,B1,B2,m,e1,e2,zh,rfl,p1,g1⟩:=l.2.1;have Q:O.tmps[26]? =some (.agg #[ax,.slice B1 f e1,.slice B2 m e2]):=Q;obtain⟨u28,S,D1,D2,m2,f1,f2,FH,rfl,p2,g2⟩:=l.2.2.1;have S:O.tmps[28]? =some (.agg #[ax,.slice D1 f f1,.slice D2 m2 f2]):=S;clear J l;refine zD2 (.tmp 24) (.tmp 26) (.tmp 28) rfl (aB a1) (aB Q) (aB S) ?_;exact B _ _ (zR.alloc zL _) ⟨_,rfl,B1,B2,m,e1,e2,zh,D1,D2,m2,f1,f2,FH,Bk.new _ _ _,p1.old (ba _ _),g1,p2.old (ba _ _),g2⟩ ⟨_,rfl,by simp,by simp⟩
 ·obtain⟨u29,Z,g,rfl,h5⟩:=l.1;have Z:O.tmps[29]? =some (.slice (some ⟨g,0,none⟩) 3 3):=Z;clear J l;go_simp;exact B _ _ zR rfl
 intro qx D Ew hR hS;obtain⟨g,aa,B1,B2,m,e1,e2,zh,D1,D2,m2,f1,f2,FH,Q,XF,a0,Z,lX⟩:=hR 5 rfl rfl;clear hR hS;simp only[bJ,zF0,zGb,zF1,zFp,zFd,zFh,zF4,Act.put,zFf,zFw,zFx];rw[aa];generalize qx 2=z2;generalize qx 4=z4;refine zM ?_
 have a8:Hid (∀k<3,∃(bs:List dL) (cs:List Value),qy 3400 bs/\dO 200 (λ_=>True) ax t.keys bs cs D/\∀(j:Nat) (u:Value),cs[j]? =some u->D.cell? ⟨g,k*3+j,none⟩=some u):=zH λk hk=>by
  have S:∀(bs:List dL) (a:Value) (b:Value) (k:Nat),qy 3400 bs->dO 200 (λ_=>True) ax t.keys bs [.int .i64 ax,a,b] D->D.cell? ⟨g,k*3,none⟩=some (.int .i64 ax)->D.cell? ⟨g,k*3+1,none⟩=some a->D.cell? ⟨g,k*3+2,none⟩=some b->∃(bs:List dL) (cs:List Value),qy 3400 bs/\dO 200 (λ_=>True) ax t.keys bs cs D/\∀(j:Nat) (u:Value),cs[j]? =some u->D.cell? ⟨g,k*3+j,none⟩=some u:=λbs a b k h1 h2 x0 x1 x2=>⟨_,_,h1,h2,λj u x=>by
   have hj:=(zFc.1 x).1;have hj:j<3:=hj
   rcases(by omega:j=0\/j=1\/j=2)with rfl|rfl|rfl<;>(injection x with x;subst x;assumption)⟩
  rcases(by omega:k=0\/k=1\/k=2)with rfl|rfl|rfl
  ·exact S _ _ _ 0 (HG.1.more (by decide)) (U.1.old Ew) (Q.cell 0) (Q.cell 1) (Q.cell 2)
  ·exact S _ _ _ 1 a0 XF (Q.cell 3) (Q.cell 4) (Q.cell 5)
  exact S _ _ _ 2 lX Z (Q.cell 6) (Q.cell 7) (Q.cell 8)
 have AP:=zH (o.trans (Ew.mono o.size));clear XF a0 Z lX Q Ew o U;go_wp2_with fail
 go_loopw[31] (λi wr=>∃k:Nat,k<=3/\i=.int .i64 k/\Hid (Below D D wr)) (λi _=>3-(intOf i).toNat)
 case atStart=>exact⟨0,by decide,rfl,zH zR⟩
 case round=>
  obtain⟨k,hk,rfl,hI⟩:=hrel;obtain⟨wo,rfl⟩:∃z:World,z=wr:=⟨_,rfl⟩
  by_cases a2:k<3
  ·obtain⟨bs,cs,S,a7,Z⟩:=a8.out k a2;have hc:∀(j:Nat) (u:Value),cs[j]? =some u->wo.cell? ⟨g,k*3+j,none⟩=some u:=λj u x=>bc hI.out (Z j u x)
   have a6:=a7.old hI.out;obtain⟨F,a1,a4,a3,a5,a0⟩:=back (ks:=t.keys) a9 S;have U:=zH (zA a1 (zA a4 (zA a3 (zA a5 a0))));obtain⟨kv,bv,rfl,Q,z⟩:=a6;obtain⟨Ck,fk,rfl⟩:=Q.form;obtain⟨Cb,fb,rfl⟩:=z.form;have NG:Hid (∀W,Below wo wo W->dO 200 (λ_=>True) ax t.keys bs [.int .i64 ax,.slice Ck t.keys.length fk,.slice Cb bs.length fb] W):=zH λW hW=>⟨_,_,rfl,Q.keep (.old hW),z.keep (.old hW)⟩
   have G:=U7.out;obtain⟨nb,a6⟩:=zN bs.length
   rw[G,a6]at hc NG;clear Q z a7 Z S G a6 a1 a4 a3 a5 a0;go_upto_region 7 with(first|(refine aV aP eF rfl (.tmp 33) rfl rfl [.int .i64 ax,.slice Ck f fk,.slice Cb nb fb] rfl hc ?_)|(refine ae aP rfl _ _ rfl rfl [.int .i64 ax,.slice Ck f fk,.slice Cb nb fb] rfl (Bk.new _ _ _) rfl rfl rfl ?_;intro W1 p1;go_frame))
   have z:Below wo wo W1:=p1.below _ _ (ba _ _) zL;have oK:=zH (zA p1.bk z);have D8:=zH (Ov (NG.out W1 z));rw[U.1]at D8;clear p1 z hc;go_wp2_with (refine aV aP eF rfl (.tmp 8) rfl rfl [.int .i64 ax,.slice Ck f fk,.slice Cb nb fb] rfl (λj u x=>by rw[zFr,oK.1.cell j];simpa using x) ?_)
   refine D8.mono ?_;rintro e W4 ⟨_,rfl,⟨En,a4,rfl,z,Z⟩,p⟩;simp only at z Z⊢;obtain⟨Ek,S,rfl⟩:=z.form;obtain⟨Es,Q,rfl⟩:=Z.form;have a1:Hid (∀W,Below W4 W4 W->wO 200 (λq=>W1.heap.size<=q) ax t.keys F [.int .i64 ax,.slice Ek t.keys.length S,.slice Es F.length Q] W):=zH λW hW=>⟨_,_,rfl,z.keep (.old hW),Z.keep (.old hW)⟩
   obtain⟨a0,SI⟩:=zN F.length
   rw[U7.out,SI]at a1⊢;have o:=zH p;clear z Z p SI D8;go_upto_region 8 with(refine ae gZ rfl _ _ rfl rfl [.int .i64 ax,.slice Ek f S,.slice Es a0 Q] rfl (Bk.new _ _ _) rfl rfl rfl ?_;intro W5 p5;go_frame)
   have H:Below W4 W4 W5:=p5.below _ _ (ba _ _) zL;have Z:=o.trans (H.mono o.size);have a3:=oK.2.trans (Z.mono oK.2.size);have z:=zH (zA a3 (zA H (zA (oK.1.old Z) p5.bk)));clear p5 H Z a3 o oK
   refine wx (λ_=>false) [.is (.int .i64 0),.is (.bool false),.is (.bool false),.is (.agg #[ax,.slice Ek f S,.slice Es a0 Q]),.st (λv w=>∃cs:List Value,v=.agg cs.toArray/\dO 200 (λ_=>True) ax t.keys bs cs w) (λ_ _ _ hb ⟨cs,h0,h1⟩=>⟨cs,h0,h1.old hb⟩),.is (.agg #[ax,.slice Ck f fk,.slice Cb nb fb]),.is (.bool true),.is (.bool false),.is (.bool false)] [4,6,7,8] (by kernel_rfl) (by kernel_rfl) (by kernel_rfl)
    (λC=>.c (px C rfl (λ_ _=>rfl)) <| .c (px C rfl (λ_ _=>rfl)) <| .c (px C rfl (λ_ _=>rfl)) <| .c (px C rfl (λ_ h=>bH (dW zq gZ [.int .i64 ax,.slice Ek f S,.slice Es a0 Q] rfl λj u x=>by rw[zFr,(z.2.2.2.old h).cell j];simpa using x))) <| .c (pz [3] [] (by kernel_rfl) λY O wr y J l B=>?_) <|
     .c (px C rfl (λ_ h=>bH (dW eF aP [.int .i64 ax,.slice Ck f fk,.slice Cb nb fb] rfl λj u x=>by rw[zFr,(z.2.2.1.old h).cell j];simpa using x))) <| .c (pz [4,5] [] (by kernel_rfl) λY O wr y J l B=>?_) <| .c (pz [6] [] (by kernel_rfl) λY O wr y J l B=>?_) <| .c (pz [2,7] [] (by kernel_rfl) λY O wr y J l B=>?_) .nil) ?_
   ·have a3:=aA l.1 rfl rfl;clear J l;go_simp
    go_at_call 14
    have FP:=zE6 U.2.2.2.1 U.2.2.1 (by rw[U.2.1];exact U.2.2.2.2) (a1.out wr (z.2.1.trans (y.mono z.2.1.size)));rw[U.2.1]at FP;refine FP.mono ?_;rintro e w6 ⟨P,rfl,X,h7⟩;exact B _ _ h7 ⟨P,rfl,X.any⟩
   ·obtain⟨u44,Z,P,rfl,X⟩:=l.1;have Z:O.tmps[44]? =some (.agg P.toArray):=Z;have a5:=aA l.2.1 rfl rfl;clear J l;go_simp
    go_at_call 12
    refine(WM X (NG.out wr (z.1.trans (y.mono z.1.size)))).mono ?_;rintro e w6 ⟨rfl,h7⟩;exact B _ _ h7 rfl
   ·exact zDv _ _ rfl (ev (aA l.1 rfl rfl)) (B _ _ zR rfl)
   ·exact Qo _ _ _ rfl (ev (aA l.1 rfl rfl)) rfl (ev (aA l.2.1 rfl rfl)) (B _ _ zR rfl)
   intro qx l y hR hS;clear hR hS;simp only[bJ,List.length,List.take,List.drop,zFd];refine zM ?_
   go_frame
   have h:=zH (hI.trans ((z.1.trans (y.mono z.1.size)).mono hI.size));clear y z a1 NG;go_wp2_with fail
   exact⟨⟨k+1,a2,by go_num,h⟩,by simp[intOf];omega⟩
  obtain rfl:k=3:=by omega
  have U:=zH (AP.trans (hI.mono AP.size));go_wp2_with fail
  go_ret
  exact⟨rfl,U.out⟩
end
end Go.Proofs.YtbjnhllkdilpfaaGreat
