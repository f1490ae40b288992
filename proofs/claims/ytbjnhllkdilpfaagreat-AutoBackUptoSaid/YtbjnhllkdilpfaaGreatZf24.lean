/- Part 24 of the proof. No conditions. -/
import Derived.Test.YtbjnhllkdilpfaaGreatZf19
import Derived.Test.YtbjnhllkdilpfaaGreatZf22
set_option linter.unusedVariables false
set_option linter.unusedSimpArgs false
set_option maxRecDepth 100000
set_option maxHeartbeats 16000000
namespace Go.Proofs.YtbjnhllkdilpfaaGreat
open Go.RowKit _root_.Go.Proofs.Tryz
abbrev sI:Spec:=.st (λv _=>∃k:Int,v=.int .i64 k) λ_ _ _ _ h=>h
abbrev sB:Spec:=.st (λv _=>∃k:Bool,v=.bool k) λ_ _ _ _ h=>h
theorem VM (op q r:Int) (b1 b2:Nat) (H:7<=op/\op<=12) (A:b1<18446744073709551616) (D:b2<18446744073709551616) (w:World):Calls prog 108 #[op,.agg #[q,.int .u64 b1],.agg #[r,.int .u64 b2]] w (VW w):=by
 have h:=zH (zEx q r b1 b2 A D);have O:=zH (zAb b1 b2 A D);have L:=zH (zAb b2 b1 D A);have N:=zH (VL b1 b2 A D);have M:=zH H;obtain⟨g,d⟩:=zN (q==r&&(b1:Int)==(b2:Int))
 have m:=Hw q b1 r b2 g d;clear d A D H
 go_enter func108,ntmps108
 go_upto_region 1 with fail
 have t:=((Bk.new w 160 #[q,.int .u64 b1]).alloc (.cells #[r,.int .u64 b2] 160)).alloc (.cells #[(),.int .u64 0] 160);have y:=(Bk.newAt (w:=w.alloc (.cells #[q,.int .u64 b1] 160)) (g:=w.heap.size+1) (by simp) 160 #[r,.int .u64 b2]).alloc (.cells #[(),.int .u64 0] 160);have G:=Bk.newAt (w:=(w.alloc (.cells #[q,.int .u64 b1] 160)).alloc (.cells #[r,.int .u64 b2] 160)) (g:=w.heap.size+2) (by simp) 160 #[(),.int .u64 0];have hb:=bel3 w (.cells #[q,.int .u64 b1] 160) (.cells #[r,.int .u64 b2] 160) (.cells #[(),.int .u64 0] 160);generalize((w.alloc (.cells #[q,.int .u64 b1] 160)).alloc (.cells #[r,.int .u64 b2] 160)).alloc (.cells #[(),.int .u64 0] 160)=P at *
 refine wx (λ_=>false) [.is (.agg #[q,.int .u64 b1]),.is (.agg #[r,.int .u64 b2]),sI,sB,.is (.agg #[q,.int .u64 b1]),.is (.agg #[r,.int .u64 b2]),.is (.bool g),sB,.is (.bool g)] [0,1,2,3,4,5,6,7] (by kernel_rfl) (by kernel_rfl) (by kernel_rfl)
  (λC=>.c (pz [] [4] (by kernel_rfl) λo n wr j f d i=>?_) <| .c (pz [] [5] (by kernel_rfl) λo n wr j f d i=>?_) <| .c (pz [0,1] [] (by kernel_rfl) λo n wr j f d i=>?_) <| .c (pz [2] [] (by kernel_rfl) λo n wr j f d i=>?_) <| .c (pz [] [4] (by kernel_rfl) λo n wr j f d i=>?_) <| .c (pz [] [5] (by kernel_rfl) λo n wr j f d i=>?_) <| .c (pz [4,5] [] (by kernel_rfl) λo n wr j f d i=>?_) <| .c (pz [3] [] (by kernel_rfl) λo n wr j f d i=>?_) <| .c (px C rfl (λ_ _=>rfl)) .nil) ?_
 ·exact jw rF (.tmp 4) rfl (aB (f.1.trans rfl)) _ rfl (vl (t.old j)) (i _ _ zR rfl)
 ·exact jw rF (.tmp 5) rfl (aB (f.1.trans rfl)) _ rfl (vl (y.old j)) (i _ _ zR rfl)
 ·have l:=aA d.1 rfl rfl;have F:=aA d.2.1 rfl rfl;clear f d;go_simp
  go_at_call 118
  refine(h.out _).mono ?_;rintro e w2 ⟨k,rfl,s⟩;exact i _ _ s ⟨k,rfl⟩
 ·obtain⟨u,l,k,rfl⟩:=d.1;have l:n.tmps[12]? =some (.int .i64 k):=l;clear f d;go_simp;exact i _ _ zR ⟨_,rfl⟩
 ·exact jw rF (.tmp 4) rfl (aB (f.1.trans rfl)) _ rfl (vl (t.old j)) (i _ _ zR rfl)
 ·exact jw rF (.tmp 5) rfl (aB (f.1.trans rfl)) _ rfl (vl (y.old j)) (i _ _ zR rfl)
 ·have l:=aA d.1 rfl rfl;have F:=aA d.2.1 rfl rfl;clear f d;go_simp;exact i _ _ zR rfl
 ·obtain⟨u,l,k,rfl⟩:=d.1;have l:n.tmps[13]? =some (.bool k):=l;clear f d;go_simp;exact i _ _ zR ⟨_,rfl⟩
 intro B wr j s J;obtain⟨p,E⟩:=s 7 rfl rfl;clear s J m;simp only[bJ,List.length,List.take,List.drop,zFd];refine zM ?_
 go_frame
 generalize B 7=Q at E⊢;subst E;replace t:=t.old j;replace y:=y.old j;replace G:=G.old j;replace hb:=hb.trans (j.mono hb.size);clear j h;have R:=t.cell 0;have x:=zH (zA t (zA y (zA G hb)));clear t y G hb;go_upto_region 2 with fail
 go_cut[9] (λv wx=>∃c:Bool,v=.bool c/\wx=wr)
 case first=>
  cases p<;>cases g<;>go_wp2_with fail
  all_goals
   go_meet
   exact⟨_,rfl,rfl⟩
 case rest=>
 obtain⟨m,rfl,rfl⟩:=hcut;go_upto_if 25 with fail
 go_cut[7,8,9] (λI h z wx=>∃a b c:Bool,I=.bool a/\h=.bool b/\z=.bool c/\Hid (Bk wx (w.heap.size+2) 160 #[(),.int .u64 0]/\Below w w wx))
 case first=>
  by_cases h:q=4
  rotate_left
  ·have z:(q==4)=false:=by rw[zFz];exact h
   go_wp2_with fail
   go_meet
   exact⟨_,_,_,rfl,rfl,rfl,zH x.2.2⟩
  subst h;have K:=x.1.cell 1;have I:=x.2.1.cell 1;go_upto_region 4 with fail
  refine wx (λ_=>false) [.is (.pointer (some ⟨w.heap.size,1,none⟩)),.is (.int .u64 b1),.is (.pointer (some ⟨w.heap.size+1,1,none⟩)),.is (.int .u64 b2),sB,.is (.pointer (some ⟨w.heap.size,1,none⟩)),.is (.int .u64 b1),.is (.pointer (some ⟨w.heap.size+1,1,none⟩)),.is (.int .u64 b2),sB,.is (.pointer (some ⟨w.heap.size+1,1,none⟩)),.is (.int .u64 b2),.is (.pointer (some ⟨w.heap.size,1,none⟩)),.is (.int .u64 b1),sB,sB,sB,sB] [4,9,14,15,16,17] (by kernel_rfl) (by kernel_rfl) (by kernel_rfl)
   (λC=>.c (px C rfl (λ_ _=>rfl)) <| .c (px C rfl (λ_ h=>bH (ES (bc h K)))) <| .c (px C rfl (λ_ _=>rfl)) <| .c (px C rfl (λ_ h=>bH (ES (bc h I)))) <| .c (pz [1,3] [] (by kernel_rfl) λo n z j f d i=>?_) <| .c (px C rfl (λ_ _=>rfl)) <| .c (px C rfl (λ_ h=>bH (ES (bc h K)))) <| .c (px C rfl (λ_ _=>rfl)) <| .c (px C rfl (λ_ h=>bH (ES (bc h I)))) <| .c (pz [6,8] [] (by kernel_rfl) λo n z j f d i=>?_) <| .c (px C rfl (λ_ _=>rfl)) <| .c (px C rfl (λ_ h=>bH (ES (bc h I)))) <| .c (px C rfl (λ_ _=>rfl)) <| .c (px C rfl (λ_ h=>bH (ES (bc h K)))) <| .c (pz [11,13] [] (by kernel_rfl) λo n z j f d i=>?_) <| .c (pz [4] [] (by kernel_rfl) λo n z j f d i=>?_) <| .c (pz [9] [] (by kernel_rfl) λo n z j f d i=>?_) <| .c (pz [14] [] (by kernel_rfl) λo n z j f d i=>?_) .nil) ?_
  ·have l:=aA d.1 rfl rfl;have F:=aA d.2.1 rfl rfl;clear f d;go_simp
   go_at_call 119
   refine(O.out _).mono ?_;rintro e w2 ⟨k,rfl,rfl⟩;exact i _ _ zR ⟨k,rfl⟩
  ·have l:=aA d.1 rfl rfl;have F:=aA d.2.1 rfl rfl;clear f d;go_simp
   go_at_call 120
   refine(N.out _).mono ?_;rintro e w2 ⟨k,rfl,rfl⟩;exact i _ _ zR ⟨k,rfl⟩
  ·have l:=aA d.1 rfl rfl;have F:=aA d.2.1 rfl rfl;clear f d;go_simp
   go_at_call 119
   refine(L.out _).mono ?_;rintro e w2 ⟨k,rfl,rfl⟩;exact i _ _ zR ⟨k,rfl⟩
  ·obtain⟨u,l,k,rfl⟩:=d.1;have l:n.tmps[30]? =some (.bool k):=l;clear f d;go_simp;exact i _ _ zR ⟨_,rfl⟩
  ·obtain⟨u,l,k,rfl⟩:=d.1;have l:n.tmps[35]? =some (.bool k):=l;clear f d;go_simp;exact i _ _ zR ⟨_,rfl⟩
  ·obtain⟨u,l,k,rfl⟩:=d.1;have l:n.tmps[40]? =some (.bool k):=l;clear f d;go_simp;exact i _ _ zR ⟨_,rfl⟩
  intro B z j s J;obtain⟨a,f⟩:=s 15 rfl rfl;obtain⟨b,d⟩:=s 16 rfl rfl;obtain⟨c,E⟩:=s 17 rfl rfl;clear s J;simp only[bJ,List.length,List.take,List.drop,zFd];refine zM ?_
  go_frame
  generalize B 15=l at f⊢;generalize B 16=i at d⊢;generalize B 17=h at E⊢;subst f d E;go_wp2_with fail
  go_meet
  exact⟨_,_,_,rfl,rfl,rfl,zH ⟨x.2.2.1.old j,x.2.2.2.trans (j.mono x.2.2.2.size)⟩⟩
 case rest=>
 obtain⟨a,b,c,rfl,rfl,rfl,f⟩:=hcut;have H:=M.out;rcases(by omega:op=7\/op=8\/op=9\/op=10\/op=11\/op=12)with rfl|rfl|rfl|rfl|rfl|rfl
 all_goals
  clear H M;cases a<;>cases b<;>cases c
  all_goals
   go_wp2_with fail
   refine(Hu _ _).mono ?_;rintro e w' ⟨i,n,rfl,d,l⟩;have h:=f.1.old l;have z:=zH d;clear d;go_wp2_with (refine ae eY rfl _ _ rfl rfl [.int .i64 i,.int .u64 n] rfl h rfl rfl rfl ?_;intro V p)
   have o:=p.bk.cell 0;have d:=p.bk.cell 1;exact zFg (v:=.agg #[i,.int .u64 n]) (by simp[results,results108,go_sem,o,d]) rfl ⟨_,_,rfl,z.out,p.below _ _ (f.2.trans (l.mono f.2.size)) (by omega)⟩
theorem doW (op:Int) (a b:Nat) (f:a<18446744073709551616) (hb:b<18446744073709551616) (w:World):Calls prog 104 #[op,.int .u64 a,.int .u64 b] w (UW w):=by
 by_cases c:op=2
 ·subst c;exact(Yd a b f hb w).mono λe w' ⟨d,c⟩=>⟨_,d,CS _ _ _,c⟩
 by_cases k:op=3
 ·subst k;exact(Px a b f hb w).mono λe w' ⟨d,c⟩=>⟨_,d,CS _ _ _,c⟩
 by_cases n:op=4
 ·subst n;exact(Py a b f hb w).mono λe w' ⟨d,c⟩=>⟨_,d,CS _ _ _,c⟩
 obtain⟨r,wr,p,g,m,d⟩:=lN .add (by simp) 196 (bg a) (bg b) w;have l:=bitsOf r;have j:=zH d;have i:=zH (kG a f);have h:=zH (kG b hb);have o:=zH (jb r d);clear f hb m d
 go_enter func104,ntmps104
 go_wp2_with fail
 refine(i.out _).mono ?_;rintro e w' ⟨rfl,rfl⟩;go_wp2_with fail
 refine(h.out _).mono ?_;rintro e w' ⟨rfl,rfl⟩;go_wp2_with fail
 refine(o.out _).mono ?_;rintro e w' ⟨rfl,rfl⟩;go_wp2_with fail
 go_ret
 exact⟨_,rfl,uC _ j.out,g⟩
theorem zCr (op:Int) (a b:Nat) (k:a<18446744073709551616) (hb:b<18446744073709551616) (w:World):Calls prog 109 #[op,.int .u64 a,.int .u64 b] w (VW w):=by
 have s:=zH (negW a k);have o:=zH (kF a k);have t:=zH (doW op a b k hb);generalize qL a=n at *;clear k hb;have e:=Bk.new w 160 #[(),.int .u64 0];have c:=ba w (.cells #[(),.int .u64 0] 160)
 go_enter func109,ntmps109
 go_upto_region 1 with fail
 generalize w.alloc (.cells #[(),.int .u64 0] 160)=u at *;have d:=zH (zA e c);clear e c
 by_cases q:op=6
 ·subst q;go_wp2_with fail
  refine(s.out _).mono ?_;rintro e w2 ⟨r,rfl,g,f⟩;have c:=d.1.old f;have j:=zH g;clear g;go_wp2_with (refine ae eY rfl _ _ rfl rfl [.int .i64 4,.int .u64 r] rfl c rfl rfl rfl ?_;intro V p)
  have i:=p.bk.cell 0;have h:=p.bk.cell 1;exact zFg (v:=.agg #[.int .i64 4,.int .u64 r]) (by simp[results,results109,go_sem,i,h]) rfl ⟨_,_,rfl,j.out,p.below _ _ (d.2.trans (f.mono d.2.size)) (by omega)⟩
 by_cases l:op=17
 ·subst l;go_wp2_with fail
  refine(o.out _).mono ?_;rintro e w2 ⟨rfl,rfl⟩;go_wp2_with fail
  refine(Hu _ _).mono ?_;rintro e w2 ⟨m,r,rfl,g,f⟩;have c:=d.1.old f;have j:=zH g;clear g;go_wp2_with (refine ae eY rfl _ _ rfl rfl [.int .i64 m,.int .u64 r] rfl c rfl rfl rfl ?_;intro V p)
  have i:=p.bk.cell 0;have h:=p.bk.cell 1;exact zFg (v:=.agg #[m,.int .u64 r]) (by simp[results,results109,go_sem,i,h]) rfl ⟨_,_,rfl,j.out,p.below _ _ (d.2.trans (f.mono d.2.size)) (by omega)⟩
 go_wp2_with fail
 refine(t.out _).mono ?_;rintro e w2 ⟨r,rfl,g,f⟩;have c:=d.1.old f;have j:=zH g;clear g;go_wp2_with (refine ae eY rfl _ _ rfl rfl [.int .i64 4,.int .u64 r] rfl c rfl rfl rfl ?_;intro V p)
 have i:=p.bk.cell 0;have h:=p.bk.cell 1;exact zFg (v:=.agg #[.int .i64 4,.int .u64 r]) (by simp[results,results109,go_sem,i,h]) rfl ⟨_,_,rfl,j.out,p.below _ _ (d.2.trans (f.mono d.2.size)) (by omega)⟩
theorem VN (a b:Int) (w:World):Calls prog 123 #[a,b] w λe w'=>∃(s:Int) (c:Bool),e=.returned (.tuple #[s,.bool c])/\w=w':=by
 by_cases g:a=0
 ·subst g
  go_enter func123,ntmps123
  go_wp2_with fail
  go_ret2
  exact⟨_,_,rfl,rfl⟩
 by_cases hb:b=0
 ·subst hb
  go_enter func123,ntmps123
  go_wp2_with fail
  go_ret2
  exact⟨_,_,rfl,rfl⟩
 by_cases d:a= -1
 ·subst d
  go_enter func123,ntmps123
  go_wp2_with fail
  go_ret2
  exact⟨_,_,rfl,rfl⟩
 by_cases c:b= -1
 ·subst c
  go_enter func123,ntmps123
  go_wp2_with fail
  go_ret2
  exact⟨_,_,rfl,rfl⟩
 obtain⟨s,j⟩:=zN (wrap64 (a*b))
 obtain⟨e,k⟩:=zN (wrap64 (s.tdiv b)==a)
 obtain⟨h,m⟩:=zN (s== -9223372036854775808)
 obtain⟨i,l⟩:=zN (decide (a<0))
 obtain⟨f,n⟩:=zN (decide (b<0))
 go_enter func123,ntmps123
 cases e<;>cases h<;>cases i<;>cases f
 all_goals go_wp2_with fail
 all_goals
  go_ret2
  exact⟨_,_,rfl,rfl⟩
theorem zCs (op a b:Int) (x:I64 a) (hb:I64 b) (w:World):Calls prog 110 #[op,a,b] w (VW w):=by
 have B:=zH (wH a x);clear x hb;have A:=zH (JA a);generalize ofInt a=y at *;have d:=Bk.new w 160 #[(),.int .u64 0];have c:=ba w (.cells #[(),.int .u64 0] 160)
 go_enter func110,ntmps110
 go_upto_block 0 with fail
 generalize w.alloc (.cells #[(),.int .u64 0] 160)=z at *;have f:=zH (zA d c);clear d c
 go_cut[0,1,2] (λi h j wx=>∃d e g:Int,i=.int .i64 d/\h=.int .i64 e/\j=.int .i64 g/\wx=z)
 case first=>
  by_cases j:op=15
  ·subst j;go_wp2_with fail
   refine(Hu _ _).mono ?_;rintro e w2 ⟨g,r,rfl,h,l⟩;have d:=f.1.old l;have k:=zH h;clear h;go_wp2_with (refine ae eY rfl _ _ rfl rfl [.int .i64 g,.int .u64 r] rfl d rfl rfl rfl ?_;intro V p)
   have i:=p.bk.cell 0;have h:=p.bk.cell 1;exact zFg (v:=.agg #[g,.int .u64 r]) (by simp[results,results110,go_sem,i,h]) rfl ⟨_,_,rfl,k.out,p.below _ _ (f.2.trans (l.mono f.2.size)) (by omega)⟩
  by_cases g:op=16
  ·subst g;go_wp2_with fail
   refine(B.out _).mono ?_;rintro e w2 ⟨rfl,rfl⟩;have d:=f.1;go_wp2_with (refine ae eY rfl _ _ rfl rfl [.int .i64 4,.int .u64 y] rfl d rfl rfl rfl ?_;intro V p)
   have i:=p.bk.cell 0;have h:=p.bk.cell 1;exact zFg (v:=.agg #[.int .i64 4,.int .u64 y]) (by simp[results,results110,go_sem,i,h]) rfl ⟨_,_,rfl,A.out,p.below _ _ f.2 (by omega)⟩
  by_cases k:op=6
  ·subst k;go_wp2_with fail
   go_meet
   exact⟨_,_,_,rfl,rfl,rfl,rfl⟩
  go_wp2_with fail
  go_meet
  exact⟨_,_,_,rfl,rfl,rfl,rfl⟩
 case rest=>
 obtain⟨op,a,b,rfl,rfl,rfl,rfl⟩:=hcut
 go_upto_block 1 with fail
 go_cut[7,8] (λj g wx=>∃(s:Int) (k:Bool),j=.int .i64 s/\g=.bool k/\wx=wc)
 case first=>
  by_cases j:op=1
  ·subst j;obtain⟨g,j⟩:=zN (decide (0<=b))
   obtain⟨q,r⟩:=zN (decide (a<=wrap64 (9223372036854775807-b)))
   obtain⟨o,m⟩:=zN (decide (b<0))
   obtain⟨n,t⟩:=zN (decide (wrap64 (-9223372036854775808-b)<=a))
   cases g<;>cases q<;>cases o<;>cases n
   all_goals go_wp2_with fail
   all_goals
    go_meet
    exact⟨_,_,rfl,rfl,rfl⟩
  by_cases r:op=2
  ·subst r;obtain⟨g,j⟩:=zN (decide (0<=b))
   obtain⟨q,r⟩:=zN (decide (wrap64 (-9223372036854775808+b)<=a))
   obtain⟨o,m⟩:=zN (decide (b<0))
   obtain⟨n,t⟩:=zN (decide (a<=wrap64 (9223372036854775807+b)))
   cases g<;>cases q<;>cases o<;>cases n
   all_goals go_wp2_with fail
   all_goals
    go_meet
    exact⟨_,_,rfl,rfl,rfl⟩
  by_cases m:op=3
  ·subst m;go_wp2_with fail
   refine(VN _ _ _).mono ?_;rintro e w2 ⟨s,k,rfl,rfl⟩;go_wp2_with fail
   go_meet
   exact⟨_,_,rfl,rfl,rfl⟩
  by_cases t:op=4
  ·subst t
   by_cases c:b=0
   ·subst c;go_wp2_with fail
    go_meet
    exact⟨_,_,rfl,rfl,rfl⟩
   by_cases e:b= -1
   ·subst e;obtain⟨g,j⟩:=zN (a== -9223372036854775808)
    cases g<;>go_wp2_with fail
    all_goals
     go_meet
     exact⟨_,_,rfl,rfl,rfl⟩
   go_wp2_with fail
   all_goals
    go_meet
    exact⟨_,_,rfl,rfl,rfl⟩
  by_cases l:op=5
  ·subst l
   by_cases c:b=0
   ·subst c;go_wp2_with fail
    go_meet
    exact⟨_,_,rfl,rfl,rfl⟩
   by_cases e:b= -1
   ·subst e;obtain⟨g,j⟩:=zN (a== -9223372036854775808)
    cases g<;>go_wp2_with fail
    all_goals
     go_meet
     exact⟨_,_,rfl,rfl,rfl⟩
   go_wp2_with fail
   all_goals
    go_meet
    exact⟨_,_,rfl,rfl,rfl⟩
  go_wp2_with fail
  go_meet
  exact⟨_,_,rfl,rfl,rfl⟩
 case rest=>
 obtain⟨s,k,rfl,rfl,rfl⟩:=hcut;have d:=f.1;cases k
 ·go_wp2_with (refine ae eY rfl _ _ rfl rfl [.int .i64 0,.int .u64 0] rfl d rfl rfl rfl ?_;intro V p)
  have i:=p.bk.cell 0;have h:=p.bk.cell 1;exact zFg (v:=.agg #[(),.int .u64 0]) (by simp[results,results110,go_sem,i,h]) rfl ⟨_,_,rfl,by decide,p.below _ _ f.2 (by omega)⟩
 have g:=Pv s;have e:=zH (ZB s);generalize un s=u at *;go_wp2_with (refine ae eY rfl _ _ rfl rfl [.int .i64 1,.int .u64 u] rfl d rfl rfl rfl ?_;intro V p)
 have i:=p.bk.cell 0;have h:=p.bk.cell 1;exact zFg (v:=.agg #[.int .i64 1,.int .u64 u]) (by simp[results,results110,go_sem,i,h]) rfl ⟨_,_,rfl,e.out,p.below _ _ f.2 (by omega)⟩
def VaP (S:Nat->Prop) (x:Int×Nat) (cs:List Value) (w:World):Prop:=cs=[.int .i64 x.1,.int .u64 x.2]/\x.2<18446744073709551616
instance:CK 2 VaP where
 pos:=by decide
 keep:=λ_ h=>h
 len:=λh=>by rw[h.1];rfl
 one:=λh=>by rw[h.1];rfl
theorem Bd.VO {α β:Type} {n d base m t c:Nat} {P:(Nat->Prop)->α->List Value->World->Prop} {q:(Nat->Prop)->β->List Value->World->Prop} [CK n P] {S2:Nat->Prop} {xs:List α} {e:List β} {v u:Value} {w w':World} (h:Bd (λ_=>False) base t n P xs v w) (k:Bd S2 m c d q e u w) (a:t≠c) (g:w.grownBy w' u.ownBlock):Bd (λ_=>False) base t n P xs v w':=by
 obtain⟨ps,i,l,f⟩:=h;obtain⟨r,_,o,_⟩:=k;exact⟨ps,i,bU l o a g,λp j=>CK.keep (λb hb _=>hb.1.elim) (f p j)⟩
theorem zCt (op:Int) {S:Nat->Prop} {B:List (Int×Nat)} {v:Value} {w:World} (h:Sl VaP S B v w) (h1:1<=B.length):Calls prog 96 #[op,v] w (VW w):=by
 obtain⟨A,c,rfl,hl,h⟩:=h;have d:=Bk.new w 160 #[(),.int .u64 0];have a:=ba w (.cells #[(),.int .u64 0] 160);have Z:=h.old a;clear h
 go_enter func96,ntmps96
 go_upto_region 1 with fail
 generalize w.alloc (.cells #[(),.int .u64 0] 160)=w0 at *;have HR:=zH Z;have HC:=zH (zA d a);have HL:=zH hl;clear d a Z;go_wp2_with fail
 go_loopw[5,6,15] (λd a i wr=>∃(k:Nat) (xs:List (Int×Nat)) (ks:List Int),k<=B.length/\i=.int .i64 k/\Hid (xs.length=k/\ks.length=k/\Below w0 w0 wr/\Bd (λ_=>False) w0.heap.size 160 2 VaP xs d wr/\Bd (λ_=>False) w0.heap.size 3 1 gK ks a wr)) (λ_ _ i _=>B.length-(intOf i).toNat)
 case atStart=>exact⟨0,[],[],zFj _,rfl,zH ⟨rfl,rfl,zGp _ _,Bd.nil zL,Bd.nil zL⟩⟩
 case round=>
  obtain⟨k,xs,ks,hk,rfl,s⟩:=hrel;obtain⟨A5,c5,rfl,_⟩:=s.2.2.2.1.form;obtain⟨A6,c6,rfl,_⟩:=s.2.2.2.2.form;have a:=s.1;have d:=s.2.1;have y:=zH (zA a d);rw[a,d]at s⊢;clear a d
  by_cases P:k<B.length
  ·obtain⟨b,o,cs,rfl,_,hb,a,e⟩:=(HR.old s.2.2.1).elem P;obtain⟨rfl,d⟩:=a;have m:=zH (Oc B[k].1 B[k].2 d);have a7:=s.2.2.1.size;go_upto_region 6 with(first|(refine aj rF rfl _ rfl rfl [.int .i64 B[k].1,.int .u64 B[k].2] rfl e ?_)|(refine ae eY rfl _ _ rfl rfl [.int .i64 B[k].1,.int .u64 B[k].2] rfl (Bk.new _ _ _) rfl rfl rfl ?_;intro W1 p1;go_frame))
   have a:Below wr.heap.size wr W1:=p1.below _ _ (ba _ _) zL;have l:=zH a;have U:=p1.bk;clear p1 a d e hb;go_wp2_with (refine aj rF rfl _ rfl rfl [.int .i64 B[k].1,.int .u64 B[k].2] rfl (vl U) ?_)
   refine(m.out _).mono ?_;rintro e w2 ⟨a,f,rfl,d,D⟩;have x:=zH (l.trans (D.mono l.size));have ab:=zH (x.size);clear D U m l;go_upto_region 7 with(refine ae eY rfl _ _ rfl rfl [.int .i64 a,.int .u64 f] rfl (Bk.new _ _ _) rfl rfl rfl ?_;intro W3 m;go_frame)
   have l:Below wr.heap.size wr W3:=m.below _ _ (x.trans ((ba _ _).mono x.size)) x.size;have r:=m.bk;have ag:=l.size;have J:=zH (zA (s.2.2.2.1.old l) (zA (s.2.2.2.2.old l) l));have H:=zH d;clear m l d x;have x0:=r.cell 0;have t:=J.1.old (ba W3 (.cells #[a,.int .u64 f] 160));have m:=J.2.1.old (ba W3 (.cells #[a,.int .u64 f] 160))
   have a5:Hid (some w2.heap.size≠(Value.slice A5 k c5).ownBlock):=zH λe=>by
    have:=(s.2.2.2.1.lt e.symm).2;have:=ab.out;omega
   go_upto_region 8 with(first|(refine aj rF rfl _ rfl rfl [.int .i64 a,.int .u64 f] rfl (vl r) ?_)|(refine dC rF rfl _ rfl [.int .i64 a,.int .u64 f] rfl rfl ?_)|(at_builtin;refine bu rF rfl _ _ rfl rfl t rfl [.int .i64 a,.int .u64 f] (Bk.new _ _ _) (a,f) ⟨rfl,H.out⟩ (by rw[y.1];have:=HL.out;omega) (by simp;omega) ?_;intro A9 c9 w9 G F z I))
   have z9:=((r.alloc (.cells #[a,.int .u64 f] 160)).grown z a5.out).cell 0;have X:=(m.VO t (by decide) z).old (ba w9 (.cells #[a] 3));have l:=G.old (ba w9 (.cells #[a] 3));have E:=F _ _ zL (by simp;omega) ((s.2.2.1.trans (J.2.2.mono a7)).alloc (by omega) (.cells #[a,.int .u64 f] 160));rw[y.1]at l⊢;have HY:=zH (zA l E);have ak:=E.size;clear t m x0 G F I l E r z;go_wp2_with (at_builtin;refine oO PQ rfl _ _ rfl rfl X rfl (zCj (Bk.new _ _ _)) (λb h=>h.elim) (by rw[y.2];have:=HL.out;simp;omega) (by simp;omega) ?_;intro Aa ca wa ha a4 a2)
   rw[y.2];go_roundw
   case rel=>exact⟨k+1,xs++[(a,f)],ks++[a],P,by go_num,zH ⟨by simp[y.1],by simp[y.2],a4 _ _ zL (by simp;omega) (HY.2.alloc (by omega) _),HY.1.VO X (by decide) a2,by have:=ha;rw[y.2]at this;exact this⟩⟩
   case measure=>simp[intOf];omega
  obtain rfl:k=B.length:=by omega
  obtain⟨n,l⟩:=zN B.length
  rw[l]at s y h1 hl hk⊢;have R:=HC.1.old s.2.2.1;have HB:=zH (HC.2.trans (s.2.2.1.mono HC.2.size));have HN:=zH (zA l h1);clear HR P l;go_upto_region 10 with fail
  go_cut[41] (λv wx=>∃q:Bool,v=.bool q/\(q=true->n=2)/\wx=wr)
  case first=>
   by_cases r:n=2
   ·subst r
    by_cases l:op=13
    ·subst l;go_wp2_with fail
     go_meet
     exact⟨_,rfl,λ_=>by first|rfl|trivial,rfl⟩
    by_cases m:op=14
    ·subst m;go_wp2_with fail
     go_meet
     exact⟨_,rfl,λ_=>by first|rfl|trivial,rfl⟩
    go_wp2_with fail
    go_meet
    exact⟨_,rfl,λ_=>by first|rfl|trivial,rfl⟩
   go_wp2_with fail
   go_meet
   exact⟨_,rfl,λh=>absurd h (by simp),rfl⟩
  case rest=>
  obtain⟨q,rfl,Q,rfl⟩:=hcut;cases q
  rotate_left
  ·obtain rfl:=Q rfl;clear Q;obtain⟨g,a9,rfl,aa,O,⟨rfl,I⟩,t⟩:=s.2.2.2.1.elem (k:=0) (by rw[y.1];decide);obtain⟨g',a1,l,_,_,⟨rfl,F⟩,z⟩:=s.2.2.2.1.elem (k:=1) (by rw[y.1];decide);injection l with l
   injection l with l
   subst l;have l1:1<xs.length:=by rw[y.1];decide
   obtain⟨p0,K⟩:=zN (xs[0])
   obtain⟨p1,L⟩:=zN (xs[1])
   rw[K]at I t;rw[L]at F z;simp only[zHm]at t;simp only[zLd]at z;have J:=zH (zA t z);have a0:=zH (λo=>zCq p0.1 p1.1 p0.2 p1.2 o);clear K L t z I F l1;go_upto_region 11 with fail
   refine wx (λ_=>false) [.is (.slice (some ⟨g,0,none⟩) 2 c5),.is (.pointer (some ⟨g,0,none⟩)),.is (.agg #[p0.1,.int .u64 p0.2]),.is (.slice (some ⟨g,0,none⟩) 2 c5),.is (.pointer (some ⟨g,2,none⟩)),.is (.agg #[p1.1,.int .u64 p1.2]),.is (.int .i64 op),.is (.bool (op==14)),sV] [1,2,4,5,7,8] (by kernel_rfl) (by kernel_rfl) (by kernel_rfl)
    (λC=>.c (px C rfl (λ_ _=>rfl)) <| .c (pz [0] [] (by kernel_rfl) λY N W E M m r=>?_) <| .c (pz [1] [] (by kernel_rfl) λY N W E M m r=>?_) <| .c (px C rfl (λ_ _=>rfl)) <| .c (pz [3] [] (by kernel_rfl) λY N W E M m r=>?_) <| .c (pz [4] [] (by kernel_rfl) λY N W E M m r=>?_) <| .c (px C rfl (λ_ _=>rfl)) <| .c (pz [6] [] (by kernel_rfl) λY N W E M m r=>?_) <| .c (pz [2,5,7] [] (by kernel_rfl) λY N W E M m r=>?_) .nil) ?_
   ·have e7:=aA m.1 rfl rfl;clear M m;go_simp;exact r _ _ zR rfl
   ·exact jw rF (.tmp 43) rfl (aB (aA m.1 rfl rfl)) _ rfl (λj u G=>(E.cell (p:=⟨g,0+j,none⟩) O).trans (J.1 j u G)) (r _ _ zR rfl)
   ·have e7:=aA m.1 rfl rfl;clear M m;go_simp;exact r _ _ zR rfl
   ·exact jw rF (.tmp 46) rfl (aB (aA m.1 rfl rfl)) _ rfl (λj u G=>(E.cell (p:=⟨g,2+j,none⟩) O).trans (J.2 j u G)) (r _ _ zR rfl)
   ·have e7:=aA m.1 rfl rfl;clear M m;go_simp;exact r _ _ zR rfl
   ·have e7:=aA m.1 rfl rfl;have e8:=aA m.2.1 rfl rfl;have e9:=aA m.2.2.1 rfl rfl;clear M m;go_simp
    go_at_call 107
    refine(a0.out _ _).mono ?_;rintro e w2 ⟨a,f,rfl,h3,G⟩;exact r _ _ G ⟨a,f,rfl,h3⟩
   intro Y W E Z r;obtain⟨a,f,m,d⟩:=Z 8 rfl rfl;clear Z r;simp only[bJ,List.length,List.take,List.drop,zFd]
   go_frame
   generalize Y 8=z8 at m⊢;subst m;have r:=R.old E;have H:=zH (zA d (HB.trans (E.mono HB.size)));clear d E;go_wp2_with (refine ae eY rfl _ _ rfl rfl [.int .i64 a,.int .u64 f] rfl r rfl rfl rfl ?_;intro V p)
   have M:=p.bk.cell 0;have N:=p.bk.cell 1;exact zFg (v:=.agg #[a,.int .u64 f]) (by simp[results,results96,go_sem,M,N]) rfl ⟨_,_,rfl,H.1,p.below _ _ H.2 (by omega)⟩
  have m:=s.2.2.2.2.ownI;rw[y.2]at m;have E:=fM m;have W:=zH (zX op ks A6 c6 wc (by rw[y.2];omega) E);rw[y.2]at W;clear E Q m;go_wp2_with fail
  refine W.mono ?_;rintro e w2 ⟨rfl,D⟩;have E:=s.2.2.2.1.old D;have x:=zH (HB.trans (D.mono HB.size));have r:=R.old D;obtain⟨a,m⟩:=zN (GI op ks)
  rw[m];clear D R m W
  by_cases a6:a=0
  ·subst a6;go_wp2_with (refine ae eY rfl _ _ rfl rfl [.int .i64 0,.int .u64 0] rfl r rfl rfl rfl ?_;intro V p)
   have M:=p.bk.cell 0;have N:=p.bk.cell 1;exact zFg (v:=.agg #[(),.int .u64 0]) (by simp[results,results96,go_sem,M,N]) rfl ⟨_,_,rfl,by decide,p.below _ _ x.out (by omega)⟩
  obtain⟨m,rfl⟩:∃m,n=m+1:=⟨n-1,by omega⟩
  obtain⟨g,a9,rfl,aa,O,⟨rfl,I⟩,t⟩:=E.elem (k:=0) (by rw[y.1];omega);obtain⟨g',a1,l,_,_,⟨rfl,F⟩,z⟩:=E.elem (k:=m) (by rw[y.1];omega);injection l with l
  injection l with l
  subst l;have l1:m<xs.length:=by rw[y.1];omega
  have Q:0<xs.length:=by omega
  obtain⟨p0,K⟩:=zN (xs[0])
  obtain⟨p1,L⟩:=zN (xs[m])
  rw[K]at I t;rw[L]at F z;simp only[zHm]at t;have J:=zH (zA t z);have xG:=zH (zA I F);have af:=zH E;clear K L t z I F E s y Q l1;go_upto_region 15 with fail
  obtain⟨W,R⟩:=p0;obtain⟨U,b1⟩:=p1;have q0:=J.1 0 _ rfl;have q1:=J.1 1 _ rfl;have q2:=J.2 0 _ rfl;have q3:=J.2 1 _ rfl;simp only[zFr,Nat.add_zero]at q0 q1 q2 q3;have a0:IntKind.i64.wrap (m:Int)=m:=by rw[zJx];omega
  have Y:(m:Int)<(m:Int)+1:=by omega
  have a8:=zH r;clear J r
  go_cut[11,12] (λQ E wx=>∃g1 g2,Q=.pointer (some ⟨g1,0,none⟩)/\E=.pointer (some ⟨g2,0,none⟩)/\Hid (Below w2 w2 wx/\Bk wx g1 160 #[W,.int .u64 R]/\Bk wx g2 160 #[U,.int .u64 b1]))
  case first=>
   go_region_held3(λw'=>w'.cell? ⟨g,0,none⟩=some (.int .i64 W)/\w'.cell? ⟨g,1,none⟩=some (.int .u64 R)/\w'.cell? ⟨g,m*2,none⟩=some (.int .i64 U)/\w'.cell? ⟨g,m*2+1,none⟩=some (.int .u64 b1)) (go_keep) (fail)
   all_goals
    go_wp2_with fail
    go_meet
    exact⟨_,_,rfl,rfl,zH ⟨((ba _ _).trans ((ba _ _).mono (by simp))).drew,by first|exact(Bk.new _ _ _).alloc _|exact Bk.newAt (by simp) _ _,by first|exact(Bk.new _ _ _).alloc _|exact Bk.newAt (by simp) _ _⟩⟩
  case rest=>
  obtain⟨g1,g2,rfl,rfl,Q⟩:=hcut;have E:=zH (zA (a8.old Q.1) (x.trans (Q.1.mono x.size)));have HM:=zH (λo=>VM op W U R b1 o xG.1 xG.2);have a3:=zH (zCr op R b1 xG.1 xG.2);have Yx:=zH (zCs op (wrap64 R) (wrap64 b1) (Jz _) (Jz _));have x0:=Q.2.1.cell 0;have x1:=Q.2.1.cell 1;have y1:=Q.2.2.cell 1;clear q0 q1 q2 q3 a0 Y
  by_cases Y:7<=op/\op<=12
  ·go_wp2_with (first|(refine aj rF rfl _ rfl rfl [.int .i64 W,.int .u64 R] rfl (vl Q.2.1) ?_)|(refine aj rF rfl _ rfl rfl [.int .i64 U,.int .u64 b1] rfl (vl Q.2.2) ?_))
   refine(HM.out Y _).mono ?_;rintro e w3 ⟨a,f,rfl,d,G⟩;have r:=E.1.old G;have H:=zH (zA d (E.2.trans (G.mono E.2.size)));clear d G;go_wp2_with (refine ae eY rfl _ _ rfl rfl [.int .i64 a,.int .u64 f] rfl r rfl rfl rfl ?_;intro V p)
   have M:=p.bk.cell 0;have N:=p.bk.cell 1;exact zFg (v:=.agg #[a,.int .u64 f]) (by simp[results,results96,go_sem,M,N]) rfl ⟨_,_,rfl,H.1,p.below _ _ H.2 (by omega)⟩
  by_cases ad:W=4
  ·subst ad;rcases(by omega:¬7<=op\/7<=op/\¬op<=12)with h7|⟨h7,a0⟩
   all_goals
    go_wp2_with fail
    refine(a3.out _).mono ?_;rintro e w3 ⟨a,f,rfl,d,G⟩;have r:=E.1.old G;have H:=zH (zA d (E.2.trans (G.mono E.2.size)));clear d G;go_wp2_with (refine ae eY rfl _ _ rfl rfl [.int .i64 a,.int .u64 f] rfl r rfl rfl rfl ?_;intro V p)
    have M:=p.bk.cell 0;have N:=p.bk.cell 1;exact zFg (v:=.agg #[a,.int .u64 f]) (by simp[results,results96,go_sem,M,N]) rfl ⟨_,_,rfl,H.1,p.below _ _ H.2 (by omega)⟩
  rcases(by omega:¬7<=op\/7<=op/\¬op<=12)with h7|⟨h7,a0⟩
  all_goals
   go_wp2_with fail
   refine(Yx.out _).mono ?_;rintro e w3 ⟨a,f,rfl,d,G⟩;have r:=E.1.old G;have H:=zH (zA d (E.2.trans (G.mono E.2.size)));clear d G;go_wp2_with (refine ae eY rfl _ _ rfl rfl [.int .i64 a,.int .u64 f] rfl r rfl rfl rfl ?_;intro V p)
   have M:=p.bk.cell 0;have N:=p.bk.cell 1;exact zFg (v:=.agg #[a,.int .u64 f]) (by simp[results,results96,go_sem,M,N]) rfl ⟨_,_,rfl,H.1,p.below _ _ H.2 (by omega)⟩
theorem Qd (w:World):(sizeOf 120).run prog w=.ok 2 w:=by
 obtain⟨i,a,d,b,c⟩:=zG4 (show(prog.info? 120).map (λi=>(i.zero,i.size,i.bytes))=some (some (.agg #[(),.int .u64 0]),2,16) by kernel_rfl);simp[sizeOf,typeInfo,a,b]
theorem VP (w:World):(isAgg 120).run prog w=.ok true w:=by simp[isAgg,go_sem]
theorem isW (op kind:Int) (A:Option Addr) (l c:Nat) (vk:Int) (vb:Nat) (pos a:Int) (b:Bool) (w:World):
  Calls prog 48 #[.agg #[op,kind,.slice A l c,vk,.int .u64 vb,pos,a],.bool b] w (BW w):=by
 obtain⟨n,e⟩:∃z:Nat,b.toNat=z:=⟨_,rfl⟩
 have v:=zH (Ht b);rw[e]at v;obtain⟨g,f⟩:=zN (op==40)
 obtain⟨h,d⟩:=zN (vk==2&&(vb:Int)==(n:Int))
 have z:=Hw vk vb 2 n h d;have B:=zH f;have s:=Bk.new w 122 #[op,kind,.slice A l c,vk,.int .u64 vb,pos,a];have q:=ba w (.cells #[op,kind,.slice A l c,vk,.int .u64 vb,pos,a] 122);clear f d e
 go_enter func48,ntmps48
 go_upto_region 1 with fail
 generalize w.alloc (.cells #[op,kind,.slice A l c,vk,.int .u64 vb,pos,a] 122)=x at *;have y:x.cell? ⟨w.heap.size,0,none⟩=some (.int .i64 op):=s.cell 0
 refine wx (λ_=>false) [.is (.pointer (some ⟨w.heap.size,0,none⟩)),.is (.int .i64 op),.is (.bool g),.is (.bool g),.is (bif (true&&(g==true))then .pointer (some ⟨w.heap.size,3,none⟩)else undef),.is (bif (true&&(g==true))then .agg #[vk,.int .u64 vb]else undef),.is (bif (true&&(g==true))then .bool b else undef),.is (bif (true&&(g==true))then .agg #[.int .i64 2,.int .u64 n]else undef),.is (bif (true&&(g==true))then .bool h else undef),.is (.bool (g&&h)),.is (.bool (g&&h))] [2,4,5,6,7,8,9] (by kernel_rfl) (by kernel_rfl) (by kernel_rfl)
  (λC=>.c (px C rfl (λ_ _=>rfl)) <| .c (px C rfl (λ_ h=>bH (lD (bc h y)))) <| .c (pz [1] [] (by kernel_rfl) λo p wr k f d i=>?_) <| .c (px C rfl (λ_ _=>rfl)) <|
   .c (po [] [2] 3 true rfl rfl rfl (by kernel_rfl) λm e o p wr k f d i=>?_) <| .c (po [4] [] 3 true rfl rfl rfl (by kernel_rfl) λm e o p wr k f d i=>?_) <| .c (po [] [1] 3 true rfl rfl rfl (by kernel_rfl) λm e o p wr k f d i=>?_) <| .c (po [6] [] 3 true rfl rfl rfl (by kernel_rfl) λm e o p wr k f d i=>?_) <| .c (po [5,7] [] 3 true rfl rfl rfl (by kernel_rfl) λm e o p wr k f d i=>?_) <| .c (pz [3,8] [] (by kernel_rfl) λo p wr k f d i=>?_) <| .c (px C rfl (λ_ _=>rfl)) .nil) ?_
 ·have F:=aA d.1 rfl rfl;clear f d;go_simp;exact i _ _ zR (zGv Value.bool B.out)
 ·subst m;have E:=f.1.trans rfl;clear f d;go_simp;exact i _ _ zR rfl
 ·subst m
  exact zCu Qd VP (.tmp 9) rfl (aB (aA d.1 rfl rfl)) [.int .i64 vk,.int .u64 vb] rfl (λj u r=>by
   have:=(s.old k).cell (3+j);rw[this]
   match j,r with
   |0,r=>exact r
   |1,r=>exact r) (i _ _ zR rfl)
 ·subst m;have E:=f.1.trans rfl;clear f d;go_simp;exact i _ _ zR rfl
 ·subst m;have t:=aA d.1 rfl rfl;clear f d;go_simp
  go_at_call 78
  refine(v.out _).mono ?_;rintro e w2 ⟨rfl,D⟩;exact i _ _ D rfl
 ·subst m;have t:=aA d.1 rfl rfl;have m:=aA d.2.1 rfl rfl;clear f d;go_simp;exact i _ _ zR rfl
 ·have t:=aA d.1 rfl rfl;have m:=aA d.2.1 rfl rfl;clear f d;cases g<;>(go_simp;exact i _ _ zR rfl)
 intro f wr k e d;clear e d z;simp only[bJ,List.length,List.take,List.drop,zFd];refine zM ?_
 go_frame
 go_wp2_with fail
 go_ret
 exact⟨_,rfl,q.trans (k.mono q.size)⟩
def jm (h:Nat):ai:=
 ⟨some ⟨h+1+1+1,0,none⟩,3,[⟨⟨#[65]⟩,some ⟨h+1,0,none⟩,2,[⟨⟨#[107]⟩,1⟩,⟨⟨#[120]⟩,1⟩]⟩,⟨⟨#[66]⟩,some ⟨h+1+1,0,none⟩,2,[⟨⟨#[107]⟩,1⟩,⟨⟨#[120]⟩,4⟩]⟩,⟨⟨#[67]⟩,none,0,[]⟩],some ⟨h+1+1+1+1,0,none⟩,1,[⟨#[97,110,110]⟩]⟩
theorem VS (w:World):Calls prog 17 #[] w λr w'=>r=.returned (jm w.heap.size).val/\(jm w.heap.size).ok w' w'.heap.size/\Below w w w':=by
 obtain⟨h,a⟩:=zN w.heap.size
 have I:=zH a;clear a
 go_enter func17,ntmps17
 go_wp2
 have A:=Bk.new w 25 #[.slice (some ⟨w.heap.size+1+1+1,0,none⟩) 3 3,.slice (some ⟨w.heap.size+1+1+1+1,0,none⟩) 1 1];obtain⟨i,e⟩:=zN (w.alloc (.cells #[.slice (some ⟨w.heap.size+1+1+1,0,none⟩) 3 3,.slice (some ⟨w.heap.size+1+1+1+1,0,none⟩) 1 1] 25))
 have G:Below w w i:=by rw[<-e];exact zR.alloc zL _
 have E:i.heap.size=w.heap.size+1:=by rw[<-e];simp
 rw[e]at A⊢;have y:=Bk.newAt E.symm 112 #[.string ⟨#[107]⟩,.int .i64 1,.string ⟨#[120]⟩,.int .i64 1];obtain⟨n,a⟩:=zN (i.alloc (.cells #[.string ⟨#[107]⟩,.int .i64 1,.string ⟨#[120]⟩,.int .i64 1] 112))
 have b1:Below i i n:=by rw[<-a];exact zR.alloc zL _
 have C:n.heap.size=w.heap.size+1+1:=by rw[<-a];simp[E]
 rw[a]at y⊢;have s:=Bk.newAt C.symm 112 #[.string ⟨#[107]⟩,.int .i64 1,.string ⟨#[120]⟩,.int .i64 4];obtain⟨j,c⟩:=zN (n.alloc (.cells #[.string ⟨#[107]⟩,.int .i64 1,.string ⟨#[120]⟩,.int .i64 4] 112))
 have b2:Below n n j:=by rw[<-c];exact zR.alloc zL _
 have F:j.heap.size=w.heap.size+1+1+1:=by rw[<-c];simp[C]
 rw[c]at s⊢;have z:=Bk.newAt F.symm 115 #[.string ⟨#[65]⟩,.slice (some ⟨w.heap.size+1,0,none⟩) 2 2,.string ⟨#[66]⟩,.slice (some ⟨w.heap.size+1+1,0,none⟩) 2 2,.string ⟨#[67]⟩,""];obtain⟨o,b⟩:=zN (j.alloc (.cells #[.string ⟨#[65]⟩,.slice (some ⟨w.heap.size+1,0,none⟩) 2 2,.string ⟨#[66]⟩,.slice (some ⟨w.heap.size+1+1,0,none⟩) 2 2,.string ⟨#[67]⟩,""] 115))
 have k:Below j j o:=by rw[<-b];exact zR.alloc zL _
 have B:o.heap.size=w.heap.size+1+1+1+1:=by rw[<-b];simp[F]
 rw[b]at z⊢;have D:=Bk.newAt B.symm 9 #[.string ⟨#[97,110,110]⟩];obtain⟨u,d⟩:=zN (o.alloc (.cells #[.string ⟨#[97,110,110]⟩] 9))
 have g:Below o o u:=by rw[<-d];exact zR.alloc zL _
 have q:u.heap.size=w.heap.size+1+1+1+1+1:=by rw[<-d];simp[B]
 rw[d]at D⊢;have r:=(((A.old b1).old b2).old k).old g;have p:=((y.old b2).old k).old g;have m:=(s.old k).old g;have l:=z.old g;have hb:Below w w u:=(((G.trans (b1.mono (by omega))).trans (b2.mono (by omega))).trans (k.mono (by omega))).trans (g.mono (by omega));have u0:=r.cell 0;have u1:=r.cell 1;simp only[zF7,zGe,zGg]at u0 u1;have H:=zH (zA p (zA m (zA l (zA D (zA hb q)))));clear r p m l A y s z D G b1 b2 k g E C F B q e a c b d hb;refine zFg (v:=.agg #[.slice (some ⟨w.heap.size+1+1+1,0,none⟩) 3 3,.slice (some ⟨w.heap.size+1+1+1+1,0,none⟩) 1 1]) (by simp[results,results17,go_sem,u0,u1]) rfl ?_;obtain⟨p,m,l,d,hb,q⟩:=H.out;refine⟨rfl,⟨Rd.bk l l.lt,by simp[jm],λt b=>?_,?_,by simp[jm],λx c=>?_⟩,hb⟩
 ·simp only[jm,zF6,zGi,zHt]at b;rcases b with rfl|rfl|rfl
  ·exact⟨Rd.bk p p.lt,by simp,by show(⟨#[65]⟩:ByteArray).size<=_;decide,λf a=>by simp only[zF6,zGi,zHt]at a;rcases a with rfl|rfl<;>decide⟩
  ·exact⟨Rd.bk m m.lt,by simp,by show(⟨#[66]⟩:ByteArray).size<=_;decide,λf a=>by simp only[zF6,zGi,zHt]at a;rcases a with rfl|rfl<;>decide⟩
  exact⟨.inl rfl,by simp,by decide,λf a=>by simp at a⟩
 ·exact Rd.bk d d.lt
 simp only[jm,zF6,zGi,zHt]at c;subst c
 decide
end Go.Proofs.YtbjnhllkdilpfaaGreat
