/- Part 19 of the proof. No conditions. -/
import Derived.Test.YtbjnhllkdilpfaaGreatZf18
set_option linter.unusedVariables false
set_option linter.unusedSimpArgs false
set_option maxRecDepth 100000
set_option maxHeartbeats 16000000
namespace Go.Proofs.YtbjnhllkdilpfaaGreat
open Go.RowKit _root_.Go.Proofs.Tryz
def Ej:Nat->Nat
 |0=>4607182418800017408
 |k+1=>Iw .mul (bg (Ej k)) (bg (ofInt 10))
theorem Yf:∀k,Ej k<18446744073709551616
 |0=>by decide
 |k+1=>CS _ _ _
def AQ (n sc:Nat):Nat×Bool:=if 1000000000000000<=n\/15<sc then(0,false)else(Iw .quo (bg (ofInt n)) (bg (Ej sc)),true)
theorem Yg (n a:Nat):(AQ n a).1<18446744073709551616:=by
 unfold AQ
 split
 ·decide
 exact CS _ _ _
theorem UM (n b:Nat) (H:n<=9223372036854775807) (R:b<=1000) (w:World):Calls prog 95 #[n,b] w λe w'=>e=.returned (.tuple #[.int .u64 ((AQ n b).1:Nat),.bool (AQ n b).2])/\Below w w w':=by
 have q:((n:Int)<0)=False:=by simp
 by_cases c:1000000000000000<=n
 ·have M:decide ((1000000000000000:Int)<=(n:Int))=true:=zGm (by omega);have g:AQ n b=(0,false):=by unfold AQ;rw[zF3 (.inl c)]
  rw[g];have P:decide ((n:Int)<0)=false:=zGf (by omega);clear H c g q;generalize(n:Int)=N at *
  go_enter func95,ntmps95
  go_wp2
  go_ret2
  exact⟨rfl,zGp _ _⟩
 have M:decide ((1000000000000000:Int)<=(n:Int))=false:=zGf (by omega);have P:decide ((n:Int)<0)=false:=zGf (by omega);have l:∀W:World,Calls prog 105 #[n] W λe w'=>e=.returned (.int .u64 (ofInt n:Nat))/\W=w':=λW=>wH (n:Int) (by unfold I64;omega) W
 have m:∀W:World,Calls prog 105 #[.int .i64 10] W λe w'=>e=.returned (.int .u64 (ofInt 10:Nat))/\W=w':=λW=>wH 10 (by unfold I64;omega) W
 by_cases s:15<b
 ·have g:AQ n b=(0,false):=by unfold AQ;rw[zF3 (.inr s)]
  rw[g];have L:(15:Int)<(b:Int):=by omega
  clear H c g q l m s;generalize(n:Int)=N at *
  go_enter func95,ntmps95
  go_wp2
  go_ret2
  exact⟨rfl,zGp _ _⟩
 have g:AQ n b=(Iw .quo (bg (ofInt n)) (bg (Ej b)),true):=by unfold AQ;rw[zF2 (by omega)]
 rw[g];have L:¬(15:Int)<(b:Int):=by omega
 have E:=zH l;have h:=zH m;have z:ofInt 10<18446744073709551616:=by decide
 have K:ofInt n<18446744073709551616:=JA n;generalize o:ofInt (n:Int)=C at *;obtain⟨B,f⟩:=zN (ofInt 10)
 rw[f]at h z;have x:=zH f;obtain⟨D,e⟩:=zN (Iw .quo (bg C) (bg (Ej b)))
 rw[e];have O:=zH e;have t:=zH (fun(a:Nat) (p:a<18446744073709551616) W=>Px a B p z W);have j:=zH (fun(a:Nat) (p:a<18446744073709551616) W=>Py C a K p W);have p:∀k:Nat,Iw .mul (bg (Ej k)) (bg B)=Ej (k+1):=λk=>by show _=Iw .mul (bg (Ej k)) (bg (ofInt 10));rw[x.out]
 have F:=zH p;clear H c g q l m s o f e p;generalize(n:Int)=N at *
 go_enter func95,ntmps95
 go_wp2_with fail
 go_loopw[6,7] (λd i wr=>∃k f:Nat,k<=b/\d=.int .u64 f/\i=.int .i64 k/\Hid (Ej k=f)/\Hid (Below w w wr)) (λ_ i _=>b-(intOf i).toNat)
 case atStart=>exact⟨0,_,zFj _,rfl,rfl,zH rfl,zH zR⟩
 case round=>
  obtain⟨k,f,S,rfl,rfl,A,v⟩:=hrel;have y:f<18446744073709551616:=by rw[<-A.out];exact Yf k
  obtain⟨u,rfl⟩:∃u:World,u=wr:=⟨_,rfl⟩
  by_cases Q:k<b
  ·as_aux_lemma=>
   have I:=zH (t.out f y);have G:=zH (show Iw .mul (bg f) (bg B)=Ej (k+1) by rw[<-A.out];exact F.out k);generalize Iw .mul (bg f) (bg B)=J at *;clear t j F A;go_wp2_with fail
   refine(h.out u).mono ?_;rintro r w2 ⟨rfl,o⟩;subst o;go_wp2_with fail
   refine(I.out u).mono ?_;rintro r w2 ⟨rfl,e⟩;have p:=zH (zKg v.out (e.mono (zKa v.out)));clear I e v;go_wp2_with fail
   go_roundw
   case rel=>exact⟨k+1,J,by omega,rfl,by go_num,zH G.symm,p⟩
   case measure=>simp[intOf];omega
  as_aux_lemma=>
  obtain rfl:k=b:=by omega
  have I:=zH (j.out f y);have G:=zH (show Iw .quo (bg C) (bg f)=D by rw[<-A.out];exact O.out);generalize Iw .quo (bg C) (bg f)=J at *;clear t j F A;go_wp2_with fail
  refine(E.out u).mono ?_;rintro r w2 ⟨rfl,o⟩;subst o;go_wp2_with fail
  refine(I.out u).mono ?_;rintro r w2 ⟨rfl,e⟩;have p:=zH (zKg v.out (e.mono (zKa v.out)));clear I e v;go_wp2_with fail
  go_ret2
  obtain rfl:=G.out;exact⟨rfl,p.out⟩
def VW (w:World) (e:Ending) (w':World):Prop:=∃(k:Int) (b:Nat),e=.returned (.agg #[k,.int .u64 b])/\b<18446744073709551616/\Below w w w'
def BW (w:World) (e:Ending) (w':World):Prop:=∃b:Bool,e=.returned (.bool b)/\Below w w w'
def IW (w:World) (e:Ending) (w':World):Prop:=∃k:Int,e=.returned (.int .i64 k)/\Below w w w'
def BE (w:World) (e:Ending) (w':World):Prop:=∃b:Bool,e=.returned (.bool b)/\w=w'
def IE (w:World) (e:Ending) (w':World):Prop:=∃k:Int,e=.returned (.int .i64 k)/\w=w'
def UW (w:World) (e:Ending) (w':World):Prop:=∃b:Nat,e=.returned (.int .u64 b)/\b<18446744073709551616/\Below w w w'
theorem eY (w:World):(sizeOf 160).run prog w=.ok 2 w:=by
 obtain⟨i,a,d,b,c⟩:=zG4 (show(prog.info? 160).map (λi=>(i.zero,i.size,i.bytes))=some (some (.agg #[(),.int .u64 0]),2,16) by kernel_rfl);simp[sizeOf,typeInfo,a,b]
set_option maxRecDepth 100000
set_option maxHeartbeats 4000000
theorem Ht (b:Bool) (w:World):Calls prog 78 #[.bool b] w λe w'=>e=.returned (.agg #[.int .i64 2,.int .u64 (b.toNat:Nat)])/\Below w w w':=by
 cases b<;>(
  go_enter func78,ntmps78
  go_wp2)
 ·exact zFg (v:=.agg #[.int .i64 2,.int .u64 0]) (by simp[results,results78,go_sem]) rfl ⟨rfl,ba _ _⟩
 exact zFg (v:=.agg #[.int .i64 2,.int .u64 1]) (by simp[results,results78,go_sem]) rfl ⟨rfl,ba _ _⟩
theorem Dz (b:Bool):b.toNat<18446744073709551616:=by cases b<;>decide
theorem Hu (b:Bool) (w:World):Calls prog 78 #[.bool b] w (VW w):=(Ht b w).mono λe w' ⟨c,a⟩=>⟨_,_,c,Dz b,a⟩
theorem uw {n:Int} {w w':World} (h:Below w w w'):UW w (.returned (.int .u64 (IntKind.u64.wrap n))) w':=⟨un n,by rw[Pv],ZB n,h⟩
theorem negW (a:Nat) (h:a<18446744073709551616) (w:World):Calls prog 121 #[.int .u64 a] w (UW w):=by
 have H:=zH (kF a h);obtain⟨n,b⟩:=zN (qL a)
 obtain⟨g,c⟩:=zN (decide ((9223372036854775808:Int)<=(a:Int)))
 rw[b]at H;clear b h
 go_enter func121,ntmps121
 go_wp2_with fail
 refine(H.out _).mono ?_;rintro e w' ⟨rfl,rfl⟩;clear H;cases n
 ·cases g
  ·go_wp2_with fail
   go_ret
   exact uw zR
  go_wp2_with fail
  go_ret
  exact uw zR
 go_wp2_with fail
 go_ret
 exact uw (n:=9221120237041090560) zR
theorem zAa (a b:Nat) (f:a<18446744073709551616) (hb:b<18446744073709551616) (w:World):Calls prog 126 #[.int .u64 a,.int .u64 b] w (IE w):=by
 have d:=zH (jb a f);have c:=zH (jb b hb);generalize bg a=x at *;generalize bg b=y at *;obtain⟨i,p⟩:=zN ((x:Int)==(y:Int))
 obtain⟨g,l⟩:=zN (decide ((9223372036854775808:Int)<=(x:Int)))
 obtain⟨j,n⟩:=zN (decide ((9223372036854775808:Int)<=(y:Int)))
 obtain⟨k,m⟩:=zN (decide (y<x))
 obtain⟨h,o⟩:=zN (decide (x<y))
 clear f hb
 go_enter func126,ntmps126
 go_wp2_with fail
 refine(d.out _).mono ?_;rintro e w' ⟨rfl,rfl⟩;go_wp2_with fail
 refine(c.out _).mono ?_;rintro e w' ⟨rfl,rfl⟩;clear d c;cases i<;>cases g<;>cases j<;>cases k<;>cases h<;>(go_wp2_with fail;go_ret;exact⟨_,rfl,rfl⟩)
theorem Qc (a:Nat) (w:World):Calls prog 127 #[.int .u64 a] w (BE w):=by
 obtain⟨b,e⟩:=zN ((a:Int)==0)
 obtain⟨c,d⟩:=zN ((a:Int)==9223372036854775808)
 go_enter func127,ntmps127
 cases b<;>cases c<;>(go_wp2_with fail;go_ret;exact⟨_,rfl,rfl⟩)
theorem VL (a b:Nat) (c:a<18446744073709551616) (hb:b<18446744073709551616) (w:World):Calls prog 120 #[.int .u64 a,.int .u64 b] w (BE w):=by
 have h:=zH (kF a c);have f:=zH (kF b hb);generalize qL a=x at *;generalize qL b=y at *;have i:=zH (Qc a);have d:=zH (Qc b);obtain⟨g,j⟩:=zN ((a:Int)==(b:Int))
 clear c hb
 go_enter func120,ntmps120
 go_wp2_with fail
 refine(h.out _).mono ?_;rintro e w' ⟨rfl,rfl⟩;cases x
 ·go_wp2_with fail
  refine(f.out _).mono ?_;rintro e w' ⟨rfl,rfl⟩;cases y
  ·cases g
   ·go_wp2_with fail
    refine(i.out _).mono ?_;rintro e w' ⟨z,rfl,rfl⟩;cases z
    ·go_wp2_with fail
     go_ret
     exact⟨_,rfl,rfl⟩
    go_wp2_with fail
    refine(d.out _).mono ?_;rintro e w' ⟨z,rfl,rfl⟩;go_wp2_with fail
    go_ret
    exact⟨_,rfl,rfl⟩
   go_wp2_with fail
   go_ret
   exact⟨_,rfl,rfl⟩
  go_wp2_with fail
  go_ret
  exact⟨_,rfl,rfl⟩
 go_wp2_with fail
 go_ret
 exact⟨_,rfl,rfl⟩
theorem zAb (a b:Nat) (c:a<18446744073709551616) (hb:b<18446744073709551616) (w:World):Calls prog 119 #[.int .u64 a,.int .u64 b] w (BE w):=by
 have g:=zH (kF a c);have f:=zH (kF b hb);generalize qL a=x at *;generalize qL b=y at *;have h:=zH (VL a b c hb);have d:=zH (zAa a b c hb);clear c hb
 go_enter func119,ntmps119
 go_wp2_with fail
 refine(g.out _).mono ?_;rintro e w' ⟨rfl,rfl⟩;cases x
 ·go_wp2_with fail
  refine(f.out _).mono ?_;rintro e w' ⟨rfl,rfl⟩;cases y
  ·go_wp2_with fail
   refine(h.out _).mono ?_;rintro e w' ⟨z,rfl,rfl⟩;cases z
   ·go_wp2_with fail
    refine(d.out _).mono ?_;rintro e w' ⟨z,rfl,rfl⟩;go_wp2_with fail
    go_ret
    exact⟨_,rfl,rfl⟩
   go_wp2_with fail
   go_ret
   exact⟨_,rfl,rfl⟩
  go_wp2_with fail
  go_ret
  exact⟨_,rfl,rfl⟩
 go_wp2_with fail
 go_ret
 exact⟨_,rfl,rfl⟩
theorem Oc (k:Int) (b:Nat) (h:b<18446744073709551616) (w:World):Calls prog 106 #[.agg #[k,.int .u64 b]] w (VW w):=by
 have H:=zH (jb b h);have a:=uC b h;generalize bg b=x at *;have i:=zH a;have g:=zH h;obtain⟨d,o⟩:=zN (k==1)
 obtain⟨n,s⟩:=zN (k==2)
 obtain⟨m,p⟩:=zN (k==3)
 obtain⟨j,t⟩:=zN (k==4)
 obtain⟨l,r⟩:=zN (decide (b<=1))
 obtain⟨f,q⟩:=zN (decide (b<=63))
 clear h a;have a:=Bk.new w 160 #[k,.int .u64 b]
 go_enter func106,ntmps106
 go_upto_region 1 with fail
 go_cut[25] (λv wx=>∃c:Bool,v=.bool c/\wx=(w.alloc (.cells #[k,.int .u64 b] 160)).alloc (.cells #[(),.int .u64 0] 160))
 case first=>
  cases d<;>cases n<;>cases m<;>cases l<;>cases f<;>go_wp2_with fail
  all_goals
   go_meet
   exact⟨_,rfl,rfl⟩
 case rest=>
  obtain⟨c,rfl,rfl⟩:=hcut;cases c
  ·cases j
   ·go_wp2_with fail
    exact zFg (v:=.agg #[(),.int .u64 0]) (by simp[results,results106,go_sem]) rfl ⟨_,_,rfl,by decide,bel2 _ _ _⟩
   go_wp2_with fail
   refine(H.out _).mono ?_;rintro e w' ⟨rfl,rfl⟩;go_wp2_with fail
   exact zFg (v:=.agg #[.int .i64 4,.int .u64 x]) (by simp[results,results106,go_sem]) rfl ⟨_,_,rfl,i.out,bel2 _ _ _⟩
  go_wp2_with fail
  exact zFg (v:=.agg #[k,.int .u64 b]) (by simp[results,results106,go_sem]) rfl ⟨_,_,rfl,g.out,bel2 _ _ _⟩
theorem rF:L6 176 160 2 16:=⟨⟨underlying176,⟨.agg #[(),.int .u64 0],by kernel_rfl,rfl⟩,by decide⟩,λw=>by simp[isAgg,go_sem]⟩
abbrev sV:Spec:=.st (λv _=>∃(k:Int) (b:Nat),v=.agg #[k,.int .u64 b]/\b<18446744073709551616) λ_ _ _ _ h=>h
theorem vl {w:World} {g:Nat} {t:TypeId} {k:Int} {b:Nat} (h:Bk w g t #[k,.int .u64 b]):∀(j:Nat) (u:Value),[Value.int .i64 k,.int .u64 b][j]? =some u->w.cell? ⟨g,0+j,none⟩=some u:=λj u a=>by rw[zFr,h.cell j];simpa using a
set_option maxRecDepth 100000
set_option maxHeartbeats 4000000
theorem zEx (f d:Int) (b1 b2:Nat) (q:b1<18446744073709551616) (s:b2<18446744073709551616) (w:World):Calls prog 118 #[.agg #[f,.int .u64 b1],.agg #[d,.int .u64 b2]] w (IW w):=by
 have y:=zH (Oc f b1 q);have u:=zH (Oc d b2 s);clear q s
 go_enter func118,ntmps118
 go_upto_region 1 with fail
 have m:=(Bk.new w 160 #[f,.int .u64 b1]).alloc (.cells #[d,.int .u64 b2] 160);have l:=Bk.newAt (w:=w.alloc (.cells #[f,.int .u64 b1] 160)) (g:=w.heap.size+1) (by simp) 160 #[d,.int .u64 b2];have hb:=bel2 w (.cells #[f,.int .u64 b1] 160) (.cells #[d,.int .u64 b2] 160);generalize(w.alloc (.cells #[f,.int .u64 b1] 160)).alloc (.cells #[d,.int .u64 b2] 160)=L at *
 refine wx (λ_=>false) [.is (.agg #[f,.int .u64 b1]),sV,.is (.agg #[d,.int .u64 b2]),sV] [0,1,2,3] (by kernel_rfl) (by kernel_rfl) (by kernel_rfl)
  (λC=>.c (pz [] [2] (by kernel_rfl) λo p wr a h i j=>?_) <| .c (pz [0] [] (by kernel_rfl) λo p wr a h i j=>?_) <| .c (pz [] [3] (by kernel_rfl) λo p wr a h i j=>?_) <| .c (pz [2] [] (by kernel_rfl) λo p wr a h i j=>?_) .nil) ?_
 ·exact jw rF (.tmp 2) rfl (aB (h.1.trans rfl)) _ rfl (vl (m.old a)) (j _ _ zR rfl)
 ·have t:=aA i.1 rfl rfl;clear h i;go_simp
  go_at_call 106
  refine(y.out _).mono ?_;rintro e w2 ⟨k,b,rfl,n,r⟩;exact j _ _ r ⟨k,b,rfl,n⟩
 ·exact jw rF (.tmp 3) rfl (aB (h.1.trans rfl)) _ rfl (vl (l.old a)) (j _ _ zR rfl)
 ·have t:=aA i.1 rfl rfl;clear h i;go_simp
  go_at_call 106
  refine(u.out _).mono ?_;rintro e w2 ⟨k,b,rfl,n,r⟩;exact j _ _ r ⟨k,b,rfl,n⟩
 intro A wr a j B;obtain⟨i,o,x,r⟩:=j 1 rfl rfl;obtain⟨h,t,p,z⟩:=j 3 rfl rfl;clear j B y u;simp only[bJ,List.length,List.take,List.drop,zFd]
 go_frame
 generalize A 1=J at x⊢;generalize A 3=O at p⊢;subst x p;have m:=m.old a;have l:=l.old a;have hb:=hb.trans (a.mono hb.size);have p:=l.lt;clear a;go_upto_region 2 with(first|(refine ae eY rfl _ _ rfl rfl [.int .i64 i,.int .u64 o] rfl m rfl rfl rfl ?_;intro Q p1;go_frame)|(refine ae eY rfl _ _ rfl rfl [.int .i64 h,.int .u64 t] rfl (p1.zJ l (by omega)) rfl rfl rfl ?_;intro B p2;go_frame))
 have u:=p2.zJ p1.bk (by omega);have y:=p2.bk;have j:=zH (p2.below _ _ (p1.below _ _ hb (by omega)) (by omega));have x:=zH (zA r z);clear p1 p2 m l hb r z p;obtain⟨z,q⟩:=zN (i==4)
 obtain⟨I,s⟩:=zN (h==4)
 have P:=u.cell 0;have M:=u.cell 1;have N:=y.cell 0;have K:=y.cell 1
 go_cut[18] (λv wx=>∃c:Bool,v=.bool c/\wx=B)
 case first=>
  cases z<;>cases I<;>go_wp2_with fail
  all_goals
   go_meet
   exact⟨_,rfl,rfl⟩
 case rest=>
  obtain⟨c,rfl,rfl⟩:=hcut;cases c
  ·obtain⟨G,n⟩:=zN (i==h)
   go_upto_region 4 with fail
   go_quiet (fail)
   have D:=zH (zHf j.out nq);cases G
   ·go_upto_region 6 with fail
    go_quiet (fail)
    have H:=zH (zHf D.out nq);obtain⟨r,F⟩:=zN (decide (i<h))
    obtain⟨p,E⟩:=zN (decide (h<i))
    cases r<;>cases p<;>(go_wp2_with fail;go_ret;exact⟨_,rfl,zHf j.out _⟩)
   obtain⟨r,F⟩:=zN (decide (wrap64 (o:Int)<wrap64 (t:Int)))
   obtain⟨p,E⟩:=zN (decide (wrap64 (t:Int)<wrap64 (o:Int)))
   cases r<;>cases p<;>(go_wp2_with fail;go_ret;exact⟨_,rfl,zHf j.out _⟩)
  go_wp2_with fail
  refine(zAa _ _ x.1 x.2 _).mono ?_;rintro e w' ⟨k,rfl,rfl⟩;go_wp2_with fail
  go_ret
  exact⟨_,rfl,j.out⟩
theorem zCp (a b c d:Int) (w:World):(binOp .eql 160 (.agg #[a,.int .u64 b]) (.agg #[c,.int .u64 d])).run prog w=.ok (.bool (a==c&&b==d)) w:=by
 have f:prog.stoodInHeld 160=false:=by kernel_rfl
 by_cases h:a=c<;>by_cases e:b=d<;>simp[go_sem,h,e,f]
theorem Hw (a b c d:Int) (x:Bool) (h:(a==c&&b==d)=x) (w:World):(binOp .eql 160 (.agg #[a,.int .u64 b]) (.agg #[c,.int .u64 d])).run prog w=.ok (.bool x) w:=by rw[zCp,h]
theorem zCq (h i:Int) (b1 b2:Nat) (o:Bool) (w:World):Calls prog 107 #[.agg #[h,.int .u64 b1],.agg #[i,.int .u64 b2],.bool o] w (VW w):=by
 obtain⟨n,A⟩:∃z:Nat,o.toNat=z:=⟨_,rfl⟩
 have x:=zH (Ht o);rw[A]at x;obtain⟨j,a⟩:=zN (h==2&&(b1:Int)==(n:Int))
 obtain⟨u,b⟩:=zN (i==2&&(b2:Int)==(n:Int))
 have D:=Hw h b1 2 n j a;have B:=Hw i b2 2 n u b;clear a b
 go_enter func107,ntmps107
 go_upto_region 1 with fail
 have t:=((Bk.new w 160 #[h,.int .u64 b1]).alloc (.cells #[i,.int .u64 b2] 160)).alloc (.cells #[(),.int .u64 0] 160);have r:=(Bk.newAt (w:=w.alloc (.cells #[h,.int .u64 b1] 160)) (g:=w.heap.size+1) (by simp) 160 #[i,.int .u64 b2]).alloc (.cells #[(),.int .u64 0] 160);have q:=Bk.newAt (w:=(w.alloc (.cells #[h,.int .u64 b1] 160)).alloc (.cells #[i,.int .u64 b2] 160)) (g:=w.heap.size+2) (by simp) 160 #[(),.int .u64 0];have hb:=bel3 w (.cells #[h,.int .u64 b1] 160) (.cells #[i,.int .u64 b2] 160) (.cells #[(),.int .u64 0] 160);generalize((w.alloc (.cells #[h,.int .u64 b1] 160)).alloc (.cells #[i,.int .u64 b2] 160)).alloc (.cells #[(),.int .u64 0] 160)=E at *
 refine wx (λ_=>false) [.is (.agg #[h,.int .u64 b1]),.is (.bool o),.is (.agg #[.int .i64 2,.int .u64 n]),.is (.bool j),.is (.bool j),.is (bif (true&&(j==false))then .agg #[i,.int .u64 b2]else undef),.is (bif (true&&(j==false))then .bool o else undef),.is (bif (true&&(j==false))then .agg #[.int .i64 2,.int .u64 n]else undef),.is (bif (true&&(j==false))then .bool u else undef),.is (.bool (j||u))] [0,2,3,5,6,7,8,9] (by kernel_rfl) (by kernel_rfl) (by kernel_rfl)
  (λC=>.c (pz [] [3] (by kernel_rfl) λk l wr d b a f=>?_) <| .c (px C rfl (λ_ _=>rfl)) <| .c (pz [1] [] (by kernel_rfl) λk l wr d b a f=>?_) <| .c (pz [0,2] [] (by kernel_rfl) λk l wr d b a f=>?_) <| .c (px C rfl (λ_ _=>rfl)) <|
   .c (po [] [4] 4 false rfl rfl rfl (by kernel_rfl) λm e k l wr d b a f=>?_) <| .c (po [] [2] 4 false rfl rfl rfl (by kernel_rfl) λm e k l wr d b a f=>?_) <| .c (po [6] [] 4 false rfl rfl rfl (by kernel_rfl) λm e k l wr d b a f=>?_) <| .c (po [5,7] [] 4 false rfl rfl rfl (by kernel_rfl) λm e k l wr d b a f=>?_) <| .c (pz [4,8] [] (by kernel_rfl) λk l wr d b a f=>?_) .nil) ?_
 ·exact jw rF (.tmp 3) rfl (aB (b.1.trans rfl)) _ rfl (vl (t.old d)) (f _ _ zR rfl)
 ·have s:=aA a.1 rfl rfl;clear b a;go_simp
  go_at_call 78
  refine(x.out _).mono ?_;rintro e w2 ⟨rfl,y⟩;exact f _ _ y rfl
 ·have s:=aA a.1 rfl rfl;have z:=aA a.2.1 rfl rfl;clear b a;go_simp;exact f _ _ zR rfl
 ·subst m;exact jw rF (.tmp 4) rfl (aB (b.1.trans rfl)) _ rfl (vl (r.old d)) (f _ _ zR rfl)
 ·subst m;have F:=b.1.trans rfl;clear b a;go_simp;exact f _ _ zR rfl
 ·subst m;have s:=aA a.1 rfl rfl;clear b a;go_simp
  go_at_call 78
  refine(x.out _).mono ?_;rintro e w2 ⟨rfl,y⟩;exact f _ _ y rfl
 ·subst m;have s:=aA a.1 rfl rfl;have z:=aA a.2.1 rfl rfl;clear b a;go_simp;exact f _ _ zR rfl
 ·have s:=aA a.1 rfl rfl;have z:=aA a.2.1 rfl rfl;clear b a;cases j<;>(go_simp;exact f _ _ zR rfl)
 intro y wr d b a;clear b a D B;simp only[bJ,List.length,List.take,List.drop,zFd];refine zM ?_
 go_frame
 replace t:=t.old d;replace r:=r.old d;replace q:=q.old d;replace hb:=hb.trans (d.mono hb.size);clear d;generalize(j||u)=g at *;subst A;have b:=zH (zA hb q);clear hb q;cases g
 ·have z:=t.cell 0;have s:=r.cell 0;rcases(by omega:h≠2\/(h=2/\i≠2)\/(h=2/\i=2))with m|⟨rfl,m⟩|⟨rfl,rfl⟩
  rotate_left 2
  ·go_wp2_with fail
   refine(Ht _ _).mono ?_;rintro e w' ⟨rfl,l⟩;have a:=b.2.old l;go_wp2_with (refine ae eY rfl _ _ rfl rfl [.int .i64 2,.int .u64 ((!o).toNat:Nat)] rfl a rfl rfl rfl ?_;intro V p)
   have k:=p.bk.cell 0;have f:=p.bk.cell 1;exact zFg (v:=.agg #[.int .i64 2,.int .u64 ((!o).toNat:Nat)]) (by simp[results,results107,go_sem,k,f]) rfl ⟨_,_,rfl,Dz _,p.below _ _ (b.1.trans (l.mono b.1.size)) (by omega)⟩
  all_goals
   have a:=b.2;go_wp2_with (refine ae eY rfl _ _ rfl rfl [.int .i64 0,.int .u64 0] rfl a rfl rfl rfl ?_;intro V p)
   have k:=p.bk.cell 0;have f:=p.bk.cell 1;exact zFg (v:=.agg #[(),.int .u64 0]) (by simp[results,results107,go_sem,k,f]) rfl ⟨_,_,rfl,by decide,p.below _ _ b.1 (by omega)⟩
 go_wp2_with fail
 refine(x.out _).mono ?_;rintro e w' ⟨rfl,l⟩;have a:=b.2.old l;go_wp2_with (refine ae eY rfl _ _ rfl rfl [.int .i64 2,.int .u64 (o.toNat:Nat)] rfl a rfl rfl rfl ?_;intro V p)
 have k:=p.bk.cell 0;have f:=p.bk.cell 1;exact zFg (v:=.agg #[.int .i64 2,.int .u64 (o.toNat:Nat)]) (by simp[results,results107,go_sem,k,f]) rfl ⟨_,_,rfl,Dz _,p.below _ _ (b.1.trans (l.mono b.1.size)) (by omega)⟩
def NoP (d:Nat) (S:Nat->Prop) (t:T) (cs:List Value) (w:World):Prop:=eG S d t cs w
instance (d:Nat):CK 7 (NoP d) where
 pos:=by decide
 keep:=λhk h=>eG.keep hk h
 len:=λ⟨n,h,_⟩=>by rw[h];exact n.len
 one:=λ⟨n,h,_⟩=>by subst h;cases n;rfl
theorem NoP.mk {d:Nat} {S:Nat->Prop} {t:T} {cs:List Value} {w:World} (h:NoP d S t cs w):∃e op kind b vk vb pos a A c,d=e+1/\t=.mk op kind b vk vb pos a/\cs=[.int .i64 op,.int .i64 kind,.slice A b.length c,.int .i64 vk,.int .u64 vb,.int .i64 pos,.int .i64 a]/\Nd e S b (.slice A b.length c) w:=by
 obtain⟨⟨op,kind,A,c,b,vk,vb,pos,a⟩,rfl,rfl,e⟩:=h
 match d,e with
 |d+1,e=>exact⟨d,op,kind,b.map (eP d),vk,vb,pos,a,A,c,rfl,rfl,by simp[ah.cells],A,c,b,by simp,e.1,e.2.2.2,rfl,e.2.1⟩
theorem Nd.sl {d:Nat} {S:Nat->Prop} {a:List T} {v:Value} {w:World} (h:Nd d S a v w):Sl (NoP d) S a v w:=by
 obtain⟨A,c,ns,rfl,b,e,rfl,i⟩:=h;refine⟨A,c,by simp,by rw[zF5];omega,ns.map (λn=>(eP d n,n.cells)),by simp,by rw[zHw];exact b,λp f=>?_⟩;obtain⟨n,g,rfl⟩:=zGa.1 f;exact⟨n,rfl,rfl,e n g⟩
section
set_option maxRecDepth 100000
set_option maxHeartbeats 8000000
theorem zCz {a b c d:Int} (h:¬(a=c/\b=d)) (w:World):(binOp .neq 120 (.agg #[a,.int .u64 b]) (.agg #[c,.int .u64 d])).run prog w=.ok (.bool true) w:=by
 have g:prog.stoodInHeld 120=false:=by kernel_rfl
 by_cases e:a=c
 ·by_cases f:b=d
  ·exact absurd ⟨e,f⟩ h
  simp[go_sem,e,f,g]
 simp[go_sem,e,g]
def SmW (ts us:List T) (w:World) (e:Ending) (w':World):Prop:=∃b:Bool,e=.returned (.bool b)/\(b=true<->ts=us)/\Below w w w'
theorem SmW.no {b a:List T} {w w':World} (h:¬b=a) (hb:Below w w w'):SmW b a w (.returned (.bool false)) w':=⟨false,rfl,⟨λe=>absurd e (by simp),λe=>absurd e h⟩,hb⟩
theorem Qg (d:Nat) (ih:∀H,H+1=d->∀{S S':Nat->Prop} {j m:List T} {v v':Value} {w:World},Nd H S j v w->Nd H S' m v' w->Calls prog 28 #[v,v'] w (SmW j m w))
  {S S':Nat->Prop} {j m:List T} {v v':Value} {w:World} (J:Nd d S j v w) (G:Nd d S' m v' w):Calls prog 28 #[v,v'] w (SmW j m w):=by
 obtain⟨A,c,rfl,hl,J⟩:=J.sl;obtain⟨A',c',rfl,_,G⟩:=G.sl
 by_cases f:j.length=m.length
 rotate_left
 ·have h:((j.length:Int)==(m.length:Int))=false:=zB (by omega)
  have g:Hid (¬j=m):=zH λe=>f (by rw[e])
  clear J G ih
  go_enter func28,ntmps28
  go_wp2_with fail
  go_ret
  exact .no g.out zR
 have HR:=zH (zA J G);have HI:=zH ih;obtain⟨l,g⟩:=zN j.length
 have I:=zH (zA g (f.symm.trans g));rw[<-f,g];rw[g]at hl;clear J G ih f g
 go_enter func28,ntmps28
 go_wp2_with fail
 go_loopw[15] (λi wr=>∃(k:Nat),k<=l/\i=.int .i64 k/\Hid (Below w w wr/\j.take k=m.take k)) (λi _=>l-(intOf i).toNat)
 case atStart=>exact⟨0,zFj _,rfl,zH ⟨zGp _ _,rfl⟩⟩
 case round=>
  obtain⟨Y,rfl⟩:∃z:World,z=wr:=⟨_,rfl⟩
  obtain⟨k,hk,rfl,s⟩:=hrel
  by_cases t:k<l
  ·have r:k<j.length:=by rw[I.1];exact t
   have u:k<m.length:=by rw[I.2];exact t
   obtain⟨b,o,cs,rfl,_,hb,hP,p⟩:=(HR.1.old s.1).elem r;obtain⟨b2,B,ab,rfl,_,z,U,h⟩:=(HR.2.old s.1).elem u;obtain⟨H,op,kind,y,vk,vb,pos,a,A2,c2,rfl,e1,rfl,hn⟩:=hP.mk;obtain⟨d2,P,f,x,O,C,W,Q,A3,c3,g,e2,rfl,E⟩:=U.mk;injection g with g
   subst g;have D:Hid (¬T.mk op kind y vk vb pos a=T.mk P f x O C W Q->¬j=m):=zH λg e=>g (by rw[<-e1,<-e2];subst e;rfl)
   have aa:Hid (T.mk op kind y vk vb pos a=T.mk P f x O C W Q->j.take (k+1)=m.take (k+1)):=zH λX=>by rw[zGc r,zGc u,e1,e2,X,s.2]
   obtain⟨n,M⟩:=zN y.length
   obtain⟨n2,L⟩:=zN x.length
   have N:=p 0 _ rfl;have a6:=p 1 _ rfl;have F:=p 2 _ rfl;have a5:=p 3 _ rfl;have a4:=p 4 _ rfl;have a0:=p 5 _ rfl;have a9:=p 6 _ rfl;have R:=h 0 _ rfl;have a7:=h 1 _ rfl;have K:=h 2 _ rfl;have a3:=h 3 _ rfl;have a1:=h 4 _ rfl;have a8:=h 5 _ rfl;have Z:=h 6 _ rfl;rw[Nat.add_zero]at N R;have g:=λw' (hw:Below Y Y w')=>HI.out H rfl (hn.keep (.old hw)) (E.keep (.old hw))
   rw[M]at F g;rw[L]at K g;have lI:=zH g;have HB:=zH s.1;have hz:=s.1.size;clear p h hP U hn E e1 e2 M L HR g HI r u;go_upto_region 6 with fail
   go_cut[6,7] (λg h wx=>∃L E,g=.pointer (some ⟨L,0,none⟩)/\h=.pointer (some ⟨E,0,none⟩)/\Hid (Below Y Y wx/\Bk wx L 122 #[op,kind,.slice A2 n c2,vk,.int .u64 vb,pos,a]/\Bk wx E 122 #[P,f,.slice A3 n2 c3,O,.int .u64 C,W,Q]))
   case first=>
    go_region_held3(λw'=>w'.cell? ⟨b,o+k*7,none⟩=some (.int .i64 op)/\w'.cell? ⟨b,o+k*7+1,none⟩=some (.int .i64 kind)/\w'.cell? ⟨b,o+k*7+2,none⟩=some (.slice A2 n c2)/\w'.cell? ⟨b,o+k*7+3,none⟩=some (.int .i64 vk)/\w'.cell? ⟨b,o+k*7+4,none⟩=some (.int .u64 vb)/\w'.cell? ⟨b,o+k*7+5,none⟩=some (.int .i64 pos)/\w'.cell? ⟨b,o+k*7+6,none⟩=some (.int .i64 a)/\w'.cell? ⟨b2,B+k*7,none⟩=some (.int .i64 P)/\w'.cell? ⟨b2,B+k*7+1,none⟩=some (.int .i64 f)/\w'.cell? ⟨b2,B+k*7+2,none⟩=some (.slice A3 n2 c3)/\w'.cell? ⟨b2,B+k*7+3,none⟩=some (.int .i64 O)/\w'.cell? ⟨b2,B+k*7+4,none⟩=some (.int .u64 C)/\w'.cell? ⟨b2,B+k*7+5,none⟩=some (.int .i64 W)/\w'.cell? ⟨b2,B+k*7+6,none⟩=some (.int .i64 Q)) (go_keep) (fail)
    all_goals
     go_wp2_with fail
     go_meet
     exact⟨_,_,rfl,rfl,zH ⟨((ba _ _).trans ((ba _ _).mono (by simp))).drew,by first|exact(Bk.new _ _ _).alloc _|exact Bk.newAt (by simp) _ _,by first|exact(Bk.new _ _ _).alloc _|exact Bk.newAt (by simp) _ _⟩⟩
   case rest=>
    obtain⟨L,E,rfl,rfl,r⟩:=hcut;obtain⟨x0,x1,x2,x3,x4,x5,x6⟩:=zc7 r.2.1;obtain⟨y0,U,y2,y3,y4,y5,y6⟩:=zc7 r.2.2;have g:=zH (HB.trans (r.1.mono hz));clear N a6 F a5 a4 a0 a9 R a7 K a3 a1 a8 Z
    by_cases h:P=op
    rotate_left
    ·go_wp2_with fail
     go_ret
     exact .no (D.out λe=>h (by injection e with i1 i2 i3 i4 i5 i6 i7;exact i1.symm)) g.out
    subst h
    by_cases h:f=kind
    rotate_left
    ·go_wp2_with fail
     go_ret
     exact .no (D.out λe=>h (by injection e with i1 i2 i3 i4 i5 i6 i7;exact i2.symm)) g.out
    subst h
    by_cases h:vk=O/\(vb:Int)=(C:Int)
    rotate_left
    ·have u:=zCz h;go_wp2_with fail
     go_ret
     exact .no (D.out λe=>h (by injection e with i1 i2 i3 i4 i5 i6 i7;exact⟨i4,by rw[i5]⟩)) g.out
    obtain⟨rfl,h⟩:=h;obtain rfl:vb=C:=by omega
    clear h
    by_cases h:W=pos
    rotate_left
    ·go_wp2_with fail
     go_ret
     exact .no (D.out λe=>h (by injection e with i1 i2 i3 i4 i5 i6 i7;exact i6.symm)) g.out
    subst h
    by_cases h:Q=a
    rotate_left
    ·go_wp2_with fail
     go_ret
     exact .no (D.out λe=>h (by injection e with i1 i2 i3 i4 i5 i6 i7;exact i7.symm)) g.out
    subst h;go_wp2_with fail
    refine(lI.out _ r.1).mono ?_;rintro e w2 ⟨q,rfl,u,z⟩;have p:=zH (g.trans (z.mono g.size));have M:=zH u;clear z u;cases q
    ·go_wp2_with fail
     go_ret
     exact .no (D.out λe=>absurd (M.2 (by injection e)) (by simp)) p.out
    go_wp2_with fail
    go_roundw
    case rel=>exact⟨k+1,t,by go_num,zH ⟨p.out,aa.out (by rw[M.1 (by first|rfl|trivial)])⟩⟩
    case measure=>simp[intOf];omega
  obtain rfl:k=l:=by omega
  go_wp2_with fail
  go_ret
  have X:=s.2;rw[<-I.1,zH3,I.1,<-I.2,zH3]at X;exact⟨true,rfl,⟨λ_=>X,λ_=>rfl⟩,s.1⟩
theorem VV:∀(d:Nat) {S S':Nat->Prop} {b a:List T} {v v':Value} {w:World},Nd d S b v w->Nd d S' a v' w->Calls prog 28 #[v,v'] w (SmW b a w)
 |0=>Qg 0 λa h=>by omega
 |d+1=>Qg (d+1) λa h=>by obtain rfl:a=d:=(by omega);exact VV a
theorem zC (d:Nat) {S S':Nat->Prop} {a:List T} {v v':Value} {w:World} (c:Nd d S a v w) (h:Nd d S' a v' w):Calls prog 28 #[v,v'] w λe w'=>e=.returned (.bool true)/\Below w w w':=
 (VV d c h).mono λe w' ⟨b,g,i,f⟩=>⟨by rw[g,i.2 rfl],f⟩
end
def Yes (w:World) (e:Ending) (w':World):Prop:=e=.returned (.bool true)/\Below w w w'
section
set_option maxRecDepth 100000
set_option maxHeartbeats 8000000
theorem KW {d:Nat} {S S':Nat->Prop} {bs:List qh} {v v':Value} {w:World} (t:Sl (zn d) S bs v w) (x:Sl (zn d) S' bs v' w):Calls prog 29 #[v,v'] w (Yes w):=by
 obtain⟨A,c,rfl,hl,t⟩:=t;obtain⟨Z,c',rfl,_,x⟩:=x;have B:=zH (zA t x);obtain⟨n,a⟩:=zN bs.length
 have D:n<=1000000000000:=by omega
 have Q:=zH a;rw[a];clear t x a
 go_enter func29,ntmps29
 go_wp2_with fail
 go_loopw[13] (λi wr=>∃(k:Nat),k<=n/\i=.int .i64 k/\Hid (Below w w wr)) (λi _=>n-(intOf i).toNat)
 case atStart=>exact⟨0,zFj _,rfl,zH zR⟩
 case round=>
  obtain⟨p,rfl⟩:∃z:World,z=wr:=⟨_,rfl⟩
  obtain⟨k,Y,rfl,e⟩:=hrel
  by_cases s:k<n
  ·have a:k<bs.length:=by rw[Q.out];exact s
   obtain⟨b,o,cs,rfl,_,hb,⟨g,rfl,q⟩,j⟩:=(B.1.old e.out).elem a;obtain⟨b2,m,L,rfl,_,O,⟨z,rfl,f⟩,h⟩:=(B.2.old e.out).elem a;have y:=zH λw' (l:Below p p w')=>zC d (q.keep (.old l)) (f.keep (.old l))
   generalize bs[k].type=u at *;have P:p.cell? ⟨b,o+k*2,none⟩=some (.int .i64 u):=j 0 _ rfl;have U:p.cell? ⟨b,o+k*2+1,none⟩=some g:=j 1 _ rfl;have X:p.cell? ⟨b2,m+k*2,none⟩=some (.int .i64 u):=h 0 _ rfl;have I:p.cell? ⟨b2,m+k*2+1,none⟩=some z:=h 1 _ rfl;clear j h q f B a;go_upto_region 6 with fail
   refine wx (λk => false) [.is (.slice (some ⟨b, o, none⟩) n c),
     .is (.int .i64 (k:Nat)),
     .is (.pointer (some ⟨b,o+k*2,none⟩)),
     .is (.pointer (some ⟨b,o+k*2,none⟩)),
     .is (.int .i64 u),
     .is (.slice (some ⟨b2,m,none⟩) n c'),
     .is (.int .i64 (k:Nat)),
     .is (.pointer (some ⟨b2,m+k*2,none⟩)),
     .is (.pointer (some ⟨b2,m+k*2,none⟩)),
     .is (.int .i64 u),
     .is (.bool false),
     .is (.bool false),
     .is (.slice (some ⟨b,o,none⟩) n c),
     .is (.int .i64 (k:Nat)),
     .is (.pointer (some ⟨b,o+k*2,none⟩)),
     .is (.pointer (some ⟨b,o+k*2+1,none⟩)),
     .is (g),
     .is (.slice (some ⟨b2,m,none⟩) n c'),
     .is (.int .i64 (k:Nat)),
     .is (.pointer (some ⟨b2,m+k*2,none⟩)),
     .is (.pointer (some ⟨b2,m+k*2+1,none⟩)),
     .is (z),
     .is (.bool true),
     .is (.bool false),
     .is (.bool false)] [2,7,10,14,19,22] (by kernel_rfl) (by kernel_rfl) (by kernel_rfl)
     (λC=>.c (px C rfl (λ_ _=>rfl)) <|
     .c (px C rfl (λ_ _=>rfl)) <|
     .c (pz [0,1] [] (by kernel_rfl) λq r wr l f a j=>?_) <|
     .c (px C rfl (λ_ _=>rfl)) <|
     .c (px C rfl (λ_ h=>bH (lD (bc h P)))) <|
     .c (px C rfl (λ_ _=>rfl)) <|
     .c (px C rfl (λ_ _=>rfl)) <|
     .c (pz [5,6] [] (by kernel_rfl) λq r wr l f a j=>?_) <|
     .c (px C rfl (λ_ _=>rfl)) <|
     .c (px C rfl (λ_ h=>bH (lD (bc h X)))) <|
     .c (pz [4,9] [] (by kernel_rfl) λq r wr l f a j=>?_) <|
     .c (px C rfl (λ_ _=>rfl)) <|
     .c (px C rfl (λ_ _=>rfl)) <|
     .c (px C rfl (λ_ _=>rfl)) <|
     .c (pz [12,13] [] (by kernel_rfl) λq r wr l f a j=>?_) <|
     .c (px C rfl (λ_ _=>rfl)) <|
     .c (px C rfl (λ_ h=>bH (jD (bc h U)))) <|
     .c (px C rfl (λ_ _=>rfl)) <|
     .c (px C rfl (λ_ _=>rfl)) <|
     .c (pz [17,18] [] (by kernel_rfl) λq r wr l f a j=>?_) <|
     .c (px C rfl (λ_ _=>rfl)) <|
     .c (px C rfl (λ_ h=>bH (jD (bc h I)))) <|
     .c (pz [16,21] [] (by kernel_rfl) λq r wr l f a j=>?_) <|
     .c (px C rfl (λ_ _=>rfl)) <|
     .c (px C rfl (λ_ _=>rfl)) <| .nil) ?_
   ·have H:=aA a.1 rfl rfl;have h:=aA a.2.1 rfl rfl;clear f a;go_simp;refine j _ _ zR ?_
    show(_:Value)=_
    first|rfl|(simp;done)|(simp;omega)
   ·have J:=aA a.1 rfl rfl;have M:=aA a.2.1 rfl rfl;clear f a;go_simp;refine j _ _ zR ?_
    show(_:Value)=_
    first|rfl|(simp;done)|(simp;omega)
   ·have q:=aA a.1 rfl rfl;have G:=aA a.2.1 rfl rfl;clear f a;go_simp;refine j _ _ zR ?_
    show(_:Value)=_
    first|rfl|(simp;done)|(simp;omega)
   ·have K:=aA a.1 rfl rfl;have F:=aA a.2.1 rfl rfl;clear f a;go_simp;refine j _ _ zR ?_
    show(_:Value)=_
    first|rfl|(simp;done)|(simp;omega)
   ·have W:=aA a.1 rfl rfl;have R:=aA a.2.1 rfl rfl;clear f a;go_simp;refine j _ _ zR ?_
    show(_:Value)=_
    first|rfl|(simp;done)|(simp;omega)
   ·have N:=aA a.1 rfl rfl;have E:=aA a.2.1 rfl rfl;clear f a;go_simp
    go_at_call 28
    refine(y.out wr l).mono ?_;rintro r f ⟨rfl,a⟩;exact j _ _ a rfl
   intro h wr l f a;clear f a;simp only[bJ,zF0,zGb,zF1,zFp,zFd,zFh,zF4,Act.put,zFf,zFw,zFx];refine zM ?_;go_wp2_with fail
   go_roundw
   case rel=>exact⟨k+1,s,by go_num,zH (e.trans (l.mono e.size))⟩
   case measure=>simp[intOf];omega
  obtain rfl:k=n:=by omega
  go_wp2_with fail
  go_ret
  exact⟨rfl,e.out⟩
theorem alike {d:Nat} {S S':Nat->Prop} {x:fQ} {cs k:List Value} {w:World} (K:Z5 d S x cs w) (O:Z5 d S' x k w):Calls prog 27 #[.agg cs.toArray,.agg k.toArray] w (Yes w):=by
 obtain⟨R,v5,Y,W,rfl,l,g,f,v⟩:=K;obtain⟨u4,u5,u6,u7,rfl,h,e,c,u⟩:=O;have M:=zH λw' (a:Below w w w')=>KW (l.keep (.old a)) (h.keep (.old a))
 have N:=zH λw' (a:Below w w w')=>zC d (g.keep (.old a)) (e.keep (.old a))
 have L:=zH λw' (a:Below w w w')=>zC d (f.keep (.old a)) (c.keep (.old a))
 obtain⟨H,D,rfl⟩:=l.form;obtain⟨J,B,rfl⟩:=g.form;obtain⟨E,F,rfl⟩:=f.form;obtain⟨I,G,rfl⟩:=v.form;obtain⟨r,A,rfl⟩:=h.form;obtain⟨z,o,rfl⟩:=e.form;obtain⟨s,n,rfl⟩:=c.form;obtain⟨y,q,rfl⟩:=u.form;obtain⟨p,t,m,win,a,i,j,b⟩:=x;simp only[]at *;clear l g f v h e c u
 go_enter func27,ntmps27
 go_upto_region 1 with fail
 obtain⟨C,c⟩:=zN ((w.alloc (.cells #[p,t,.bool m,win,.slice H a.length D,.slice J i.length B,.slice E j.length F,.slice I b.length G] 62)).alloc (.cells #[p,t,.bool m,win,.slice r a.length A,.slice z i.length o,.slice s j.length n,.slice y b.length q] 62))
 have g:=c▸(Bk.new w 62 #[p,t,.bool m,win,.slice H a.length D,.slice J i.length B,.slice E j.length F,.slice I b.length G]).alloc (.cells #[p,t,.bool m,win,.slice r a.length A,.slice z i.length o,.slice s j.length n,.slice y b.length q] 62);have f:Bk C (w.heap.size+1) 62 #[p,t,.bool m,win,.slice r a.length A,.slice z i.length o,.slice s j.length n,.slice y b.length q]:=c▸Bk.newAt (by simp) _ _;have e:Below w w C:=c▸bel2 w _ _;simp only[c];clear c;obtain⟨U,x1,x2,Q,x4⟩:=zc5 g;obtain⟨y0,P,y2,y3,X⟩:=zc5 f;have l:=zH (zA g f);have u:=zH e;clear g f e;go_wp2_with fail
 refine(M.out _ u.out).mono ?_;rintro e Z ⟨rfl,c⟩;have x5:=(l.1.old c).cell 5;have y5:=(l.2.old c).cell 5;have h:=u.trans (c.mono u.size);go_wp2_with fail
 refine(N.out _ h).mono ?_;rintro e w2 ⟨rfl,g⟩;have x6:=((l.1.old c).old g).cell 6;have y6:=((l.2.old c).old g).cell 6;have f:=h.trans (g.mono h.size);go_wp2_with fail
 refine(L.out _ f).mono ?_;rintro e w3 ⟨rfl,v⟩;go_wp2_with fail
 go_ret
 exact⟨rfl,f.trans (v.mono f.size)⟩
end
end Go.Proofs.YtbjnhllkdilpfaaGreat
