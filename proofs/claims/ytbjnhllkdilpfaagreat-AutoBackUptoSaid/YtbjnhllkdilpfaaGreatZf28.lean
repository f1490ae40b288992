/- Part 28 of the proof. No conditions. -/
import Derived.Test.YtbjnhllkdilpfaaGreatZf21
import Derived.Test.YtbjnhllkdilpfaaGreatZf22
set_option linter.unusedVariables false
set_option linter.unusedSimpArgs false
set_option maxRecDepth 100000
set_option maxHeartbeats 16000000
namespace Go.Proofs.YtbjnhllkdilpfaaGreat
open Go.RowKit _root_.Go.Proofs.Tryz
def nC (op n sc l1 l2:Nat):Nat:=
 if op=20 then jr n else if op=21 then jE n sc else if op=22 then(if n=1 then 4 else 5)else if op=23 then l1+2 else if op=24 then l1+1+l2 else if op=25 then l1+7 else(jX.getD (op-25) []).length+l1+l2+3
def zZ (n:Nat) (w:World) (e:Ending) (w':World):Prop:=∃S:ByteArray,e=.returned (.string S)/\S.size=n/\Below w w w'
theorem au (a b:ByteArray):(a++b).size=a.size+b.size:=zJp
theorem Rf (op n l p:Nat) (a S2:ByteArray) (h1:a.size<=24) (h2:S2.size<=24) (a1:20<=op/\op<=31) (hn:n<=9223372036854775807) (aa:op=21->l<=14) (w:World):
  Calls prog 91 #[.agg #[op,"",n,l,a,S2,p]] w (zZ (nC op n l a.size S2.size) w):=by
 unfold zZ;obtain⟨N,o⟩:=zN (nC op n l a.size S2.size)
 rw[o];have j:=o;unfold nC at j;clear o;have a8:op=20\/op=21\/op=22\/op=23\/op=24\/op=25\/(26<=op/\op<=31):=by omega
 have yS:=zH hn;have O7:=zH a1;clear hn a1;rcases a8 with y|y|y|y|y|y|y
 ·
  have o:N=jr n:=by rw[<-j];(repeat' split)<;>first|rfl|(exfalso;omega)
  clear j;have z:((op:Int)==20)=true:=by rw[zFt];omega
  have t:=zH o;clear o y;have HD:=zH (λW=>Bh (n:Int) ⟨by omega,by have:=yS.out;omega⟩ W)
  go_enter func91,ntmps91
  have b:=Bk.new w 110 #[op,"",n,l,a,S2,p];have d:Below w w (w.alloc (.cells #[op,"",n,l,a,S2,p] 110)):=zR.alloc zL _;go_upto_region 1 with fail
  generalize w.alloc (.cells #[op,"",n,l,a,S2,p] 110)=K at *;generalize q:w.heap.size=H at *;have Q:=b.cell 0;have O:=b.cell 2;have U:=b.cell 3;have P:=b.cell 4;have L:=b.cell 5;have f:=zH d;have m:=zH q;clear b d q;go_wp2_with fail
  refine(HD.out _).mono ?_;rintro r w4 ⟨rfl,B⟩;have i:=zH (f.trans (B.mono (by have:=f.size;have:=m.out;omega)));clear B HD;go_wp2
  go_ret
  exact⟨_,rfl,t.symm,by first|exact i.out|(rw[<-m.out];exact i.out)|(rw[m.out];exact i.out)⟩
 ·
  have o:N=jE n l:=by rw[<-j];(repeat' split)<;>first|rfl|(exfalso;omega)
  clear j;have z:((op:Int)==20)=false:=zB (by omega)
  have E:((op:Int)==21)=true:=by rw[zFt];omega
  have SY:=zH (aa y);have t:=zH o;clear o y;have HD:=zH (λW=>Fq n l yS.out SY.out W)
  go_enter func91,ntmps91
  have b:=Bk.new w 110 #[op,"",n,l,a,S2,p];have d:Below w w (w.alloc (.cells #[op,"",n,l,a,S2,p] 110)):=zR.alloc zL _;go_upto_region 1 with fail
  generalize w.alloc (.cells #[op,"",n,l,a,S2,p] 110)=K at *;generalize q:w.heap.size=H at *;have Q:=b.cell 0;have O:=b.cell 2;have U:=b.cell 3;have P:=b.cell 4;have L:=b.cell 5;have f:=zH d;have m:=zH q;clear b d q;go_wp2_with fail
  refine(HD.out _).mono ?_;rintro r w4 ⟨S,rfl,hS,B⟩;have HS:=zH hS;have i:=zH (f.trans (B.mono (by have:=f.size;have:=m.out;omega)));clear B HD hS;go_wp2
  go_ret
  exact⟨_,rfl,HS.trans t.symm,by first|exact i.out|(rw[<-m.out];exact i.out)|(rw[m.out];exact i.out)⟩
 ·
  have o:N=if n=1 then 4 else 5:=by rw[<-j,y];rfl
  clear j;have z:((op:Int)==20)=false:=zB (by omega)
  have E:((op:Int)==21)=false:=zB (by omega)
  have I:((op:Int)==22)=true:=by rw[zFt];omega
  have t:=zH o;clear o y;have i:=zH True.intro
  by_cases J:n=1
  ·have e:((n:Int)==1)=true:=by rw[zFt];omega
   have A:=t.out;rw[zF3 J]at A;have HV:=zH A;clear A t J i
   go_enter func91,ntmps91
   have b:=Bk.new w 110 #[op,"",n,l,a,S2,p];have d:Below w w (w.alloc (.cells #[op,"",n,l,a,S2,p] 110)):=zR.alloc zL _;go_upto_region 1 with fail
   generalize w.alloc (.cells #[op,"",n,l,a,S2,p] 110)=K at *;generalize q:w.heap.size=H at *;have Q:=b.cell 0;have O:=b.cell 2;have U:=b.cell 3;have P:=b.cell 4;have L:=b.cell 5;have f:=zH d;have m:=zH q;clear b d q;have i:=f;go_wp2
   go_ret
   exact⟨_,rfl,HV.symm,by first|exact i.out|(rw[<-m.out];exact i.out)|(rw[m.out];exact i.out)⟩
  have e:((n:Int)==1)=false:=zB (by omega)
  have A:=t.out;rw[zF2 J]at A;have HV:=zH A;clear A t J i
  go_enter func91,ntmps91
  have b:=Bk.new w 110 #[op,"",n,l,a,S2,p];have d:Below w w (w.alloc (.cells #[op,"",n,l,a,S2,p] 110)):=zR.alloc zL _;go_upto_region 1 with fail
  generalize w.alloc (.cells #[op,"",n,l,a,S2,p] 110)=K at *;generalize q:w.heap.size=H at *;have Q:=b.cell 0;have O:=b.cell 2;have U:=b.cell 3;have P:=b.cell 4;have L:=b.cell 5;have f:=zH d;have m:=zH q;clear b d q;have i:=f;go_wp2
  go_ret
  exact⟨_,rfl,HV.symm,by first|exact i.out|(rw[<-m.out];exact i.out)|(rw[m.out];exact i.out)⟩
 ·
  have o:N=a.size+2:=by rw[<-j];(repeat' split)<;>first|rfl|(exfalso;omega)
  clear j;have z:((op:Int)==20)=false:=zB (by omega)
  have E:((op:Int)==21)=false:=zB (by omega)
  have I:((op:Int)==22)=false:=zB (by omega)
  have Y:((op:Int)==23)=true:=by rw[zFt];omega
  have t:=zH o;clear o y;have a0:¬9223372036854775807<1+a.size:=by(try rw[au]);(try simp only[show(⟨#[39]⟩:ByteArray).size=1 from rfl,show(⟨#[46]⟩:ByteArray).size=1 from rfl,show(⟨#[67,79,85,78,84,40]⟩:ByteArray).size=6 from rfl]);omega
  have X:¬9223372036854775807<((⟨#[39]⟩:ByteArray)++a).size+1:=by(try rw[au]);(try simp only[show(⟨#[39]⟩:ByteArray).size=1 from rfl,show(⟨#[46]⟩:ByteArray).size=1 from rfl,show(⟨#[67,79,85,78,84,40]⟩:ByteArray).size=6 from rfl]);omega
  have Z:¬9223372036854775807<1+a.size+1:=by(try rw[au]);(try simp only[show(⟨#[39]⟩:ByteArray).size=1 from rfl,show(⟨#[46]⟩:ByteArray).size=1 from rfl,show(⟨#[67,79,85,78,84,40]⟩:ByteArray).size=6 from rfl]);omega
  go_enter func91,ntmps91
  have b:=Bk.new w 110 #[op,"",n,l,a,S2,p];have d:Below w w (w.alloc (.cells #[op,"",n,l,a,S2,p] 110)):=zR.alloc zL _;go_upto_region 1 with fail
  generalize w.alloc (.cells #[op,"",n,l,a,S2,p] 110)=K at *;generalize q:w.heap.size=H at *;have Q:=b.cell 0;have O:=b.cell 2;have U:=b.cell 3;have P:=b.cell 4;have L:=b.cell 5;have f:=zH d;have m:=zH q;clear b d q;have i:=f;go_wp2
  go_ret
  exact⟨_,rfl,by rw[au,au,t.out];show 1+a.size+1=_;omega,by first|exact i.out|(rw[<-m.out];exact i.out)|(rw[m.out];exact i.out)⟩
 ·
  have o:N=a.size+1+S2.size:=by rw[<-j];(repeat' split)<;>first|rfl|(exfalso;omega)
  clear j;have z:((op:Int)==20)=false:=zB (by omega)
  have E:((op:Int)==21)=false:=zB (by omega)
  have I:((op:Int)==22)=false:=zB (by omega)
  have Y:((op:Int)==23)=false:=zB (by omega)
  have a3:((op:Int)==24)=true:=by rw[zFt];omega
  have t:=zH o;clear o y;have a0:¬9223372036854775807<a.size+1:=by(try rw[au]);(try simp only[show(⟨#[39]⟩:ByteArray).size=1 from rfl,show(⟨#[46]⟩:ByteArray).size=1 from rfl,show(⟨#[67,79,85,78,84,40]⟩:ByteArray).size=6 from rfl]);omega
  have X:¬9223372036854775807<(a++(⟨#[46]⟩:ByteArray)).size+S2.size:=by(try rw[au]);(try simp only[show(⟨#[39]⟩:ByteArray).size=1 from rfl,show(⟨#[46]⟩:ByteArray).size=1 from rfl,show(⟨#[67,79,85,78,84,40]⟩:ByteArray).size=6 from rfl]);omega
  have Z:¬9223372036854775807<a.size+1+S2.size:=by(try rw[au]);(try simp only[show(⟨#[39]⟩:ByteArray).size=1 from rfl,show(⟨#[46]⟩:ByteArray).size=1 from rfl,show(⟨#[67,79,85,78,84,40]⟩:ByteArray).size=6 from rfl]);omega
  go_enter func91,ntmps91
  have b:=Bk.new w 110 #[op,"",n,l,a,S2,p];have d:Below w w (w.alloc (.cells #[op,"",n,l,a,S2,p] 110)):=zR.alloc zL _;go_upto_region 1 with fail
  generalize w.alloc (.cells #[op,"",n,l,a,S2,p] 110)=K at *;generalize q:w.heap.size=H at *;have Q:=b.cell 0;have O:=b.cell 2;have U:=b.cell 3;have P:=b.cell 4;have L:=b.cell 5;have f:=zH d;have m:=zH q;clear b d q;have i:=f;go_wp2
  go_ret
  exact⟨_,rfl,by rw[au,au,t.out];show a.size+1+S2.size=_;omega,by first|exact i.out|(rw[<-m.out];exact i.out)|(rw[m.out];exact i.out)⟩
 ·
  have o:N=a.size+7:=by rw[<-j];(repeat' split)<;>first|rfl|(exfalso;omega)
  clear j;have z:((op:Int)==20)=false:=zB (by omega)
  have E:((op:Int)==21)=false:=zB (by omega)
  have I:((op:Int)==22)=false:=zB (by omega)
  have Y:((op:Int)==23)=false:=zB (by omega)
  have a3:((op:Int)==24)=false:=zB (by omega)
  have a7:((op:Int)==25)=true:=by rw[zFt];omega
  have t:=zH o;clear o y;have a0:¬9223372036854775807<6+a.size:=by(try rw[au]);(try simp only[show(⟨#[39]⟩:ByteArray).size=1 from rfl,show(⟨#[46]⟩:ByteArray).size=1 from rfl,show(⟨#[67,79,85,78,84,40]⟩:ByteArray).size=6 from rfl]);omega
  have X:¬9223372036854775807<((⟨#[67,79,85,78,84,40]⟩:ByteArray)++a).size+1:=by(try rw[au]);(try simp only[show(⟨#[39]⟩:ByteArray).size=1 from rfl,show(⟨#[46]⟩:ByteArray).size=1 from rfl,show(⟨#[67,79,85,78,84,40]⟩:ByteArray).size=6 from rfl]);omega
  have Z:¬9223372036854775807<6+a.size+1:=by(try rw[au]);(try simp only[show(⟨#[39]⟩:ByteArray).size=1 from rfl,show(⟨#[46]⟩:ByteArray).size=1 from rfl,show(⟨#[67,79,85,78,84,40]⟩:ByteArray).size=6 from rfl]);omega
  go_enter func91,ntmps91
  have b:=Bk.new w 110 #[op,"",n,l,a,S2,p];have d:Below w w (w.alloc (.cells #[op,"",n,l,a,S2,p] 110)):=zR.alloc zL _;go_upto_region 1 with fail
  generalize w.alloc (.cells #[op,"",n,l,a,S2,p] 110)=K at *;generalize q:w.heap.size=H at *;have Q:=b.cell 0;have O:=b.cell 2;have U:=b.cell 3;have P:=b.cell 4;have L:=b.cell 5;have f:=zH d;have m:=zH q;clear b d q;have i:=f;go_wp2
  go_ret
  exact⟨_,rfl,by rw[au,au,t.out];show 6+a.size+1=_;omega,by first|exact i.out|(rw[<-m.out];exact i.out)|(rw[m.out];exact i.out)⟩
 
 have o:N=(jX.getD (op-25) []).length+a.size+S2.size+3:=by rw[<-j];(repeat' split)<;>first|rfl|(exfalso;omega)
 clear j;have z:((op:Int)==20)=false:=zB (by omega)
 have E:((op:Int)==21)=false:=zB (by omega)
 have I:((op:Int)==22)=false:=zB (by omega)
 have Y:((op:Int)==23)=false:=zB (by omega)
 have a3:((op:Int)==24)=false:=zB (by omega)
 have a7:((op:Int)==25)=false:=zB (by omega)
 obtain⟨s,x⟩:∃s,op=25+s:=⟨op-25,by omega⟩
 have R:s<7:=by omega
 have e:op-25=s:=by omega
 rw[e]at o;have t:=zH o;clear o e;obtain⟨G,h⟩:∃G:ByteArray,bytes (jX.getD s [])=G:=⟨_,rfl⟩
 have u:(jX.getD s []).length=G.size:=by rw[<-h,bZ]
 have an:G.size<=5:=by
  rw[<-u]
  match s,R with
  |0,_|1,_|2,_|3,_|4,_|5,_|6,_=>decide
 have A:=t.out;rw[u]at A;have HV:=zH A
 have a9:Hid (∀W:World,Calls prog 103 #[] W λe w'=>∃g,e=.returned (.slice (some ⟨g,0,none⟩) 7 7)/\w'.cell? ⟨g,s,none⟩=some (.string G)/\g<w'.heap.size/\Below W.heap.size W w'):=zH λW=>(Ja W).mono (by
  rintro r w' ⟨g,rfl,y,_,D,hb⟩;refine⟨g,rfl,?_,D,hb⟩;have e:s<jX.length:=R;rw[y s e,<-h]
  congr 2
  simp[e])
 have aq:IntKind.i64.wrap (s:Int)=(s:Int):=by rw[zJx];omega
 have b1:(s:Int)<7:=by omega
 have ag:(op:Int)-25=(s:Int):=by omega
 have X:¬9223372036854775807<G.size+1:=by omega
 have Z:¬9223372036854775807<(G++(⟨#[40]⟩:ByteArray)).size+a.size:=by rw[au];show¬9223372036854775807<G.size+1+a.size;omega
 have am:¬9223372036854775807<((G++(⟨#[40]⟩:ByteArray))++a).size+1:=by rw[au,au];show¬9223372036854775807<G.size+1+a.size+1;omega
 have ao:¬9223372036854775807<(((G++(⟨#[40]⟩:ByteArray))++a)++(⟨#[46]⟩:ByteArray)).size+S2.size:=by rw[au,au,au];show¬9223372036854775807<G.size+1+a.size+1+S2.size;omega
 have b3:¬9223372036854775807<((((G++(⟨#[40]⟩:ByteArray))++a)++(⟨#[46]⟩:ByteArray))++S2).size+1:=by rw[au,au,au,au];show¬9223372036854775807<G.size+1+a.size+1+S2.size+1;omega
 have b2:¬9223372036854775807<G.size+1+a.size:=by omega
 have al:¬9223372036854775807<G.size+1+a.size+1:=by omega
 have ar:¬9223372036854775807<G.size+1+a.size+1+S2.size:=by omega
 have av:¬9223372036854775807<G.size+1+a.size+1+S2.size+1:=by omega
 clear h u A t x
 go_enter func91,ntmps91
 have b:=Bk.new w 110 #[op,"",n,l,a,S2,p];have d:Below w w (w.alloc (.cells #[op,"",n,l,a,S2,p] 110)):=zR.alloc zL _;go_upto_region 1 with fail
 generalize w.alloc (.cells #[op,"",n,l,a,S2,p] 110)=K at *;generalize q:w.heap.size=H at *;have Q:=b.cell 0;have O:=b.cell 2;have U:=b.cell 3;have P:=b.cell 4;have L:=b.cell 5;have f:=zH d;have m:=zH q;clear b d q;go_upto_region 16 with fail
 obtain⟨W,e⟩:=zN K
 subst e;clear O U
 refine wx (λk => false) [.st (λv w => ∃ g, v = .slice (some ⟨g, 0, none⟩) 7 7 ∧ g < w.heap.size ∧ w.cell? ⟨g, s, none⟩ = some (.string G)) (λ_ _ _ hb ⟨g, h1, h2, e⟩ => ⟨g, h1, zFs h2 hb.size, (bK hb g _ h2).trans e⟩),
   .is (.pointer (some ⟨H,0,none⟩)),
   .is (.int .i64 (op:Nat)),
   .is (.int .i64 (s:Nat)),
   .st (λv w=>∃g,v=.pointer (some ⟨g,s,none⟩)/\g<w.heap.size/\w.cell? ⟨g,s,none⟩=some (.string G)) (λ_ _ _ hb ⟨g,h1,h2,e⟩=>⟨g,h1,zFs h2 hb.size,(bK hb g _ h2).trans e⟩),
   .is (.string G),
   .is (.string (G++(⟨#[40]⟩:ByteArray))),
   .is (.pointer (some ⟨H,4,none⟩)),
   .is (.string a),
   .is (.string ((G++(⟨#[40]⟩:ByteArray))++a)),
   .is (.string (((G++(⟨#[40]⟩:ByteArray))++a)++(⟨#[46]⟩:ByteArray))),
   .is (.pointer (some ⟨H,5,none⟩)),
   .is (.string S2),
   .is (.string ((((G++(⟨#[40]⟩:ByteArray))++a)++(⟨#[46]⟩:ByteArray))++S2)),
   .is (.string (((((G++(⟨#[40]⟩:ByteArray))++a)++(⟨#[46]⟩:ByteArray))++S2)++(⟨#[41]⟩:ByteArray))),
   .is (.string (((((G++(⟨#[40]⟩:ByteArray))++a)++(⟨#[46]⟩:ByteArray))++S2)++(⟨#[41]⟩:ByteArray)))] [0,3,4,5,6,9,10,13,14] (by kernel_rfl) (by kernel_rfl) (by kernel_rfl)
   (λC=>.c (pz [] [] (by kernel_rfl) λM F wr D x e u=>?_) <|
   .c (px C rfl (λ_ _=>rfl)) <|
   .c (px C rfl (λ_ h=>bH (lD (bc h Q)))) <|
   .c (pz [2] [] (by kernel_rfl) λM F wr D x e u=>?_) <|
   .c (pz [0,3] [] (by kernel_rfl) λM F wr D x e u=>?_) <|
   .c (pz [4] [] (by kernel_rfl) λM F wr D x e u=>?_) <|
   .c (pz [5] [] (by kernel_rfl) λM F wr D x e u=>?_) <|
   .c (px C rfl (λ_ _=>rfl)) <|
   .c (px C rfl (λ_ h=>bH (I7 (bc h P)))) <|
   .c (pz [6,8] [] (by kernel_rfl) λM F wr D x e u=>?_) <|
   .c (pz [9] [] (by kernel_rfl) λM F wr D x e u=>?_) <|
   .c (px C rfl (λ_ _=>rfl)) <|
   .c (px C rfl (λ_ h=>bH (I7 (bc h L)))) <|
   .c (pz [10,12] [] (by kernel_rfl) λM F wr D x e u=>?_) <|
   .c (pz [13] [] (by kernel_rfl) λM F wr D x e u=>?_) <|
   .c (px C rfl (λ_ _=>rfl)) <| .nil) ?_
 ·clear x e;go_simp
  go_at_call 103
  refine(a9.out wr).mono ?_;rintro r w9 ⟨g9,rfl,a6,fV,dM⟩;exact u _ _ dM ⟨g9,rfl,fV,a6⟩
 ·have ap:=aA e.1 rfl rfl;clear x e;go_simp;exact u _ _ zR (by first|rfl|(show(_:Value)=_;simp;omega))
 ·obtain⟨u42,a2,r0⟩:=e.1
  skip
  have aw:=aA e.2.1 rfl rfl;clear x e;obtain⟨a4,M,h,a5⟩:=(show∃g,u42=.slice (some ⟨g,0,none⟩) 7 7/\g<wr.heap.size/\wr.cell? ⟨g,s,none⟩=some (.string G)from r0)
  subst M;have a2:F.tmps[42]? =some (.slice (some ⟨a4,0,none⟩) 7 7):=a2;go_simp;exact u _ _ zR ⟨a4,by first|rfl|simp,h,a5⟩
 ·obtain⟨u46,M,r4⟩:=e.1
  skip
  clear x e;obtain⟨ab,ad,af,ak⟩:=(show∃g,u46=.pointer (some ⟨g,s,none⟩)/\g<wr.heap.size/\wr.cell? ⟨g,s,none⟩=some (.string G)from r4)
  subst ad;have M:F.tmps[46]? =some (.pointer (some ⟨ab,s,none⟩)):=M;go_simp;exact u _ _ zR rfl
 ·have b0:=aA e.1 rfl rfl;clear x e;go_simp;exact u _ _ zR rfl
 ·have b4:=aA e.1 rfl rfl;have ad:=aA e.2.1 rfl rfl;clear x e;go_simp;exact u _ _ zR rfl
 ·have b6:=aA e.1 rfl rfl;clear x e;go_simp;exact u _ _ zR rfl
 ·have F:=aA e.1 rfl rfl;have b5:=aA e.2.1 rfl rfl;clear x e;go_simp;exact u _ _ zR rfl
 ·have ax:=aA e.1 rfl rfl;clear x e;go_simp;exact u _ _ zR rfl
 intro h wr D e hS;clear e hS;simp only[bJ,zF0,zGb,zF1,zFp,zFd,zFh,zF4,Act.put,zFf,zFw,zFx];refine zM ?_;have i:=zH (f.trans (D.mono (by have:=f.size;have:=m.out;omega)));clear D;go_wp2
 go_ret
 exact⟨_,rfl,by rw[au,au,au,au,au,HV.out];show G.size+1+a.size+1+S2.size+1=_;omega,by first|exact i.out|(rw[<-m.out];exact i.out)|(rw[m.out];exact i.out)⟩
def CY (b j:Nat):Nat:=if b=4\/j=1 then b+1 else if b=8 then 1 else b
def oL (b j:Nat) (a:Nat×Nat×Nat):Nat×Nat:=if bz a.1<CY b j then(a.2.1+2,a.2.2+1)else(a.2.1,a.2.2)
def nY (b:Nat):Nat->List (Nat×Nat×Nat)->List (Nat×Nat)
 |_,[]=>[]
 |j,a::l=>oL b j a::nY b (j+1) l
theorem uF (b:Nat):∀(l:List (Nat×Nat×Nat)) (j:Nat),(nY b j l).length=l.length
 |[],j=>rfl
 |a::l,j=>by simp[nY,uF b l (j+1)]
theorem Fv (b:Nat):∀(l:List (Nat×Nat×Nat)) (i j:Nat) (h:j<l.length),(nY b i l)[j]'(by rw[uF];exact h)=oL b (i+j) l[j]
 |a::l,i,0,h=>rfl
 |a::l,i,j+1,h=>by
  have:=Fv b l (i+1) j (by simpa using h)
  show(nY b (i+1) l)[j]'_=_
  rw[this,show i+1+j=i+(j+1) by omega];rfl
structure zEr (w:World) (A:Option Addr) (j:Nat) (a:Nat×Nat×Nat):Prop where
 ex:∃(g:Nat) (d1 d2 d3 d4 d5 d6:Value),A=some ⟨g,0,none⟩/\g<w.heap.size/\(∀(q:Nat) (u:Value),[.int .i64 a.1,d1,d2,d3,d4,d5,d6][q]? =some u->w.cell? ⟨g,j*7+q,none⟩=some u)/\
  ∀W:World,Below w w W->Calls prog 67 #[.agg #[a.1,d1,d2,d3,d4,d5,d6]] W λr W'=>∃S:ByteArray,r=.returned (.tuple #[S,a.2.2])/\S.size=a.2.1/\Below W W W'
def wK (r:Nat×Nat) (w:World) (e:Ending) (w':World):Prop:=∃S:ByteArray,e=.returned (.tuple #[S,.int .i64 (r.2:Nat)])/\S.size=r.1/\Below w w w'
def CZ (l:List (Nat×Nat)):Nat:=l.foldl (λm a=>max m a.2) 0
def textF (op:Nat) (ps:List (Nat×Nat)):Nat×Nat:=
 match ps with
 |[p]=>(p.1+(if op=6 then 1 else if op=15 then 4 else if op=16 then 6 else 7),p.2+1)
 |[p,q]=>(p.1+1+((dN (bz op)).1.getD (op-(dN (bz op)).2) []).length+1+q.1,max p.2 q.2)
 |_=>(0,0)
def U5 (op k:Nat):Prop:=(k=1/\(op=6\/(15<=op/\op<=17)))\/(k=2/\1<=op/\op<=14/\op≠6)
theorem PK {α:Type} {l:List α} (h:l.length=2):∃a b,l=[a,b]:=by
 match l,h with
 |[a,b],_=>exact⟨a,b,rfl⟩
structure TxI (bx n:Nat) (w0:World) (A:Option Addr) (c:Nat) (Ss:List ByteArray) (W:World):Prop where
 hb:Below w0 w0 W
 own:W.ownsRow w0.heap.size 9 1 (.slice A n c) n (Ss.map .string)
theorem TxI.old {d n c:Nat} {b W W':World} {A:Option Addr} {a:List ByteArray} (h:TxI d n b A c a W) (hb:Below W W W'):TxI d n b A c a W':=⟨h.hb.trans (hb.mono h.hb.size),aT h.own hb⟩
theorem Fz (op p:Nat) (c2 c3 c4 c5:Value) (A0:Option Addr) (k cc:Nat) (D:List (Nat×Nat×Nat)) (hk:D.length=k) (P:U5 op k) (hs:∀a∈D,a.2.1<=1000000/\a.2.2<=1000000) (w:World) (H:∀j (hj:j<D.length),zEr w A0 j D[j]):
  Calls prog 67 #[.agg #[op,.slice A0 k cc,c2,c3,c4,c5,p]] w (wK (textF op (nY (bz op) 0 D)) w):=by
 have HC:=zH H;have a1:=zH hk;have HS:=zH hs;have O7:=zH P;obtain⟨iS,ak,av,b3,b5⟩:=zG4 Pn;have sJ:Hid (∀(o:Nat) (W:World),Calls prog 89 #[o] W λe w'=>e=.returned (.int .i64 (bz o:Nat))/\w'=W):=zH λo W=>Fp o W
 have bi:k<=2:=by rcases P with h|h<;>omega
 have bk:1<=k:=by rcases P with h|h<;>omega
 have Z:bz op<=8:=by unfold bz;(repeat' split)<;>omega
 obtain⟨b,d⟩:=zN (bz op)
 have Rh:=zH d;rw[d]at Z;obtain⟨ps,n⟩:=zN (nY b 0 D)
 have PL:=zH n;rw[d,n];clear H hk hs P d n;unfold wK
 go_enter func67,ntmps67
 have d:=Bk.new w 110 #[op,.slice A0 k cc,c2,c3,c4,c5,p];have e:Below w w (w.alloc (.cells #[op,.slice A0 k cc,c2,c3,c4,c5,p] 110)):=zR.alloc zL _;go_upto_region 1 with fail
 generalize w.alloc (.cells #[op,.slice A0 k cc,c2,c3,c4,c5,p] 110)=w0 at *;have b9:=d.lt;generalize f:w.heap.size=bx at *;have q0:=d.cell 0;have q1:=d.cell 1;have E:=zH d;have a3:=zH e;have X:=zH f;clear d e f;go_wp2_with fail
 refine(sJ.out op _).mono ?_;rintro r w1 ⟨rfl,an⟩;obtain rfl:w0=w1:=an.symm;rw[Rh.out];go_wp2_with fail
 clear q0 q1
 go_loopw[5,6,19] (λl m i wr=>∃(j:Nat) (A:Option Addr) (c s:Nat) (Q:List ByteArray),j<=k/\l=.slice A j c/\m=.int .i64 s/\i=.int .i64 j/\s<=1000001/\Hid (Q.map ByteArray.size=(ps.take j).map (·.1)/\CZ (ps.take j)=s)/\Hid (TxI bx j w0 A c Q wr)) (λ_ _ i _=>k-(intOf i).toNat)
 case atStart=>exact⟨0,none,0,0,[],zFj _,rfl,rfl,rfl,by omega,zH ⟨rfl,rfl⟩,zH ⟨zGp _ _,zGs _ _ _ _⟩⟩
 case round=>
  obtain⟨j,A,c,s,Q,hj,rfl,rfl,rfl,bb,HR,N⟩:=hrel;obtain⟨d,rfl⟩:∃d:World,d=wr:=⟨_,rfl⟩
  by_cases ao:j<k
  ·as_aux_lemma=>
   have f:j<D.length:=by rw[a1.out];exact ao
   obtain⟨g,d1,d2,d3,d4,d5,d6,rfl,hg,I,M⟩:=(HC.out j f).ex;have y:=HS.out D[j] (zFe f)
   have Zl:ps[j]? =some (oL b j D[j]):=by
    have C:j<ps.length:=by rw[<-PL.out,uF];exact f
    rw[zAg C]
    congr 1
    have:=Fv b D 0 j f;rw[zFr]at this;simp only[PL.out]at this;exact this
   have t:Below w w d:=by
    rw[X.out];exact a3.trans (N.hb.mono (by have:=a3.size;have:=X.out;omega))
   obtain⟨⟨oj,lj,dj⟩,m⟩:∃z,D[j]=z:=⟨_,rfl⟩
   rw[m]at I M y Zl;simp only at I M y;have q1:=(E.old N.hb).cell 1;have e:∀(q:Nat) (u:Value),[.int .i64 oj,d1,d2,d3,d4,d5,d6][q]? =some u->d.cell? ⟨g,j*7+q,none⟩=some u:=λq u h=>(bK t g _ hg).trans (I q u h)
   have r0:d.cell? ⟨g,j*7,none⟩=some (.int .i64 oj):=e 0 _ rfl;have O:d.cell? ⟨g,j*7+1,none⟩=some d1:=e 1 _ rfl;have U:d.cell? ⟨g,j*7+2,none⟩=some d2:=e 2 _ rfl;have r3:d.cell? ⟨g,j*7+3,none⟩=some d3:=e 3 _ rfl;have Y:d.cell? ⟨g,j*7+4,none⟩=some d4:=e 4 _ rfl;have J:d.cell? ⟨g,j*7+5,none⟩=some d5:=e 5 _ rfl;have R:d.cell? ⟨g,j*7+6,none⟩=some d6:=e 6 _ rfl;have F:=zH (M d t);have K:=zH Zl;have z:=zH (zA hg t);have ag:=y.1;have bm:=y.2;clear I M e Zl y m t hg f HC a1 HS;go_wp2_with fail
   refine F.mono ?_;rintro r w2 ⟨S,rfl,f,e⟩;have L:=zH (N.old e);have q1:=(E.old L.hb).cell 1;have r0:=(bK e g _ (zFs z.1 z.2.size)).trans r0;have B:=zH f;clear F e O U r3 Y J R N f;obtain⟨b0,e⟩:=zN (if b=8 then 1 else b:Nat)
   have a8:=zH e;clear e;go_upto_if 33 with fail
   go_cut[10] (λv wx=>v=.int .i64 b0/\w2=wx)
   case first=>
    as_aux_lemma=>
    by_cases e:b=8
    ·have f:((b:Int)==8)=true:=by rw[zFt];omega
     have C:b0=1:=by rw[<-a8.out,zF3 e]
     subst C;clear e;go_wp2_with fail
     go_meet
     exact⟨rfl,rfl⟩
    have f:((b:Int)==8)=false:=zB (by omega)
    have C:b0=b:=by rw[<-a8.out,zF2 e]
    subst C;clear e;go_wp2_with fail
    go_meet
    exact⟨rfl,rfl⟩
   case rest=>
   obtain⟨rfl,t⟩:=hcut;subst t;obtain⟨up,e⟩:=zN (decide (b=4)||decide (j=1))
   have Yq:=zH e;clear e;go_upto_region 11 with fail
   go_cut[39] (λv wx=>v=.bool up/\w2=wx)
   case first=>
    as_aux_lemma=>
    by_cases e:b=4
    ·have f:((b:Int)==4)=true:=by rw[zFt];omega
     have hu:up=true:=by rw[<-Yq.out];simp[e]
     subst hu;clear e;go_wp2_with fail
     go_meet
     exact⟨rfl,rfl⟩
    have f:((b:Int)==4)=false:=zB (by omega)
    have hu:((j:Int)==1)=up:=by
     rw[<-Yq.out,zHe,zFt];simp[e];omega
    clear e;cases up
    all_goals
     go_wp2_with fail
     go_meet
     exact⟨rfl,rfl⟩
   case rest=>
   obtain⟨rfl,t⟩:=hcut;subst t;obtain⟨m,e⟩:=zN (CY b j)
   have bo:m<=9:=by
    rw[<-e];unfold CY
    (repeat' split)<;>omega
   have a7:=zH e;clear e;go_upto_if 39 with fail
   go_cut[10] (λv wx=>v=.int .i64 m/\w2=wx)
   case first=>
    as_aux_lemma=>
    cases up
    ·have J:m=b0:=by
      have hu:¬(b=4\/j=1):=by
       have:=Yq.out;simp at this;omega
      rw[<-a7.out];unfold CY;rw[zF2 hu];exact a8.out
     subst J;go_wp2_with fail
     go_meet
     exact⟨rfl,rfl⟩
    have J:m=b+1:=by
     have hu:b=4\/j=1:=by
      have:=Yq.out
      simpa using this
     rw[<-a7.out];unfold CY;rw[zF3 hu]
    subst J;go_wp2_with fail
    go_meet
    exact⟨by go_num,rfl⟩
   case rest=>
   obtain⟨rfl,t⟩:=hcut;subst t;go_wp2_with fail
   refine(sJ.out oj w2).mono ?_;rintro r w3 ⟨rfl,aq⟩;obtain rfl:w2=w3:=aq.symm;obtain⟨lo,e⟩:=zN (bz oj)
   rw[e];obtain⟨F,Zl⟩:=zN (oL b j (oj,lj,dj))
   have f:F=if lo<m then(lj+2,dj+1)else(lj,dj):=by
    rw[<-Zl,<-e,<-a7.out];rfl
   have ax:F.2<=1000001:=by
    rw[f]
    split
    ·show dj+1<=_;omega
    show dj<=_;omega
   have O:=zH f;have R:Hid (ps[j]? =some F):=zH (by rw[<-Zl];exact K.out);clear e Zl f K;go_upto_if 50 with fail
   go_cut[8,9] (λe f wx=>∃S:ByteArray,e=.string S/\f=.int .i64 F.2/\Hid (S.size=F.1)/\w2=wx)
   case first=>
    as_aux_lemma=>
    by_cases e:lo<m
    ·have K:(lo:Int)<(m:Int):=by omega
     have f:=O.out;rw[zF3 e]at f;subst f;have y:=B.out;have b2:¬9223372036854775807<1+S.size:=by omega
     have a9:¬9223372036854775807<((⟨#[40]⟩:ByteArray)++S).size+1:=by rw[au];show¬9223372036854775807<1+S.size+1;omega
     have a4:¬9223372036854775807<1+S.size+1:=by omega
     have HZ:Hid ((((⟨#[40]⟩:ByteArray)++S)++(⟨#[41]⟩:ByteArray)).size=lj+2):=zH (by rw[au,au];show 1+S.size+1=_;omega);clear e O y;go_wp2_with fail
     go_meet
     exact⟨_,rfl,by go_num,HZ,rfl⟩
    have K:¬(lo:Int)<(m:Int):=by omega
    have f:=O.out;rw[zF2 e]at f;subst f;clear e O;go_wp2_with fail
    go_meet
    exact⟨_,rfl,rfl,B,rfl⟩
   case rest=>
   obtain⟨S',rfl,rfl,HZ,t⟩:=hcut;subst t;clear O B r0;obtain⟨pl,K⟩:=F;simp only at ax HZ R⊢;have am:=L.hb.size;have F:w0.heap.size<=(w2.alloc (.cells #[S'] 9)).heap.size:=by simp;omega
   have B:=L.own.alloc (.cells #[S'] 9);have b8:j<=2:=by omega
   clear q1;go_wp2_with (first|at_builtin;(refine aU (by rfl) _ _ 23 (by rfl) w0.heap.size 9 iS _ 1 16 underlying23 ak av b3 b5 rfl (by decide) (.slice A j c) j _ (by rfl) B (w2.heap.size+1) (some ⟨w2.heap.size,0,none⟩) 1 1 [.string S'] (by rfl) (Rd.lit rfl _ _) (by rfl) ?c2 ?c3 ?c4 F ?_))
   case c2=>intro u hu;simp at hu;subst hu;rfl
   case c3=>unfold maxLen;omega
   case c4=>omega
   intro A6 c6 w6 e O _;have f:Below w0 w0 w6:=eU (L.hb.alloc am _) B zL O F;have iW:Hid (TxI bx (j+1) w0 A6 c6 (Q++[S']) w6):=zH ⟨f,by rw[zGr];exact e⟩
   have a2:Hid ((Q++[S']).map ByteArray.size=(ps.take (j+1)).map (·.1)/\CZ (ps.take (j+1))=max s K):=zH (by
    have J:j<ps.length:=(zFc.1 R.out).1;have U:ps[j]=(pl,K):=(zFc.1 R.out).2;rw[zGc J,U];refine⟨by rw[zGr,zGr,HR.1];simp[HZ.out],?_⟩;unfold CZ;rw[List.foldl_append];have:=HR.2;unfold CZ at this;rw[this]
    rfl)
   have Y:max s K<=1000001:=by omega
   clear e O f B F L HR HZ R z
   by_cases hm:s<K
   ·have f:(s:Int)<(K:Int):=by omega
    have e:max s K=K:=by omega
    rw[e]at a2 Y;clear hm e;go_wp2
    go_roundw
    case rel=>exact⟨j+1,A6,c6,K,Q++[S'],by omega,rfl,rfl,by go_num,Y,a2,iW⟩
    case measure=>simp[intOf];omega
   have f:¬(s:Int)<(K:Int):=by omega
   have e:max s K=s:=by omega
   rw[e]at a2 Y;clear hm e;go_wp2
   go_roundw
   case rel=>exact⟨j+1,A6,c6,s,Q++[S'],by omega,rfl,rfl,by go_num,Y,a2,iW⟩
   case measure=>simp[intOf];omega
  obtain rfl:j=k:=by omega
  have n:ps.length=j:=by rw[<-PL.out,uF];exact a1.out
  have z:Q.length=j:=by
   have C:=zGv List.length HR.1;rw[zF5,zF5,zHv (by omega)]at C;omega
  have Yt:Q.map ByteArray.size=ps.map (·.1):=by
   have C:=HR.1
   rwa [zHv (by omega)]at C
  have O:CZ ps=s:=by
   have C:=HR.2
   rwa [zHv (by omega)]at C
  have f:∀q∈ps,q.1<=1000002:=by
   rw[<-PL.out]
   have e:∀(l:List (Nat×Nat×Nat)) (i:Nat),(∀a∈l,a.2.1<=1000000/\a.2.2<=1000000)->∀q∈nY b i l,q.1<=1000002:=by
    intro l
    induction l with
    |nil=>intro i _ q M;simp[nY]at M
    |cons a l B=>
     intro i h q M;rcases zF6.1 M with rfl|M
     ·have:=h a (by simp);unfold oL
      split<;>simp<;>omega
     exact B _ (λa F=>h a (by simp[F])) q M
   exact e D 0 HS.out
  have a0:=fM N.own
  have L:Hid (Below w w d):=zH (by
   rw[X.out]
   exact a3.trans (N.hb.mono (by have:=a3.size;have:=X.out;omega)))
  have q0:=(E.old N.hb).cell 0;clear HC a1 HS PL HR;rcases O7.out with⟨rfl,ho⟩|⟨rfl,ho⟩
  ·as_aux_lemma=>
   obtain⟨T,rfl⟩:=zKe.1 z;obtain⟨⟨B,e0⟩,rfl⟩:=zKe.1 n;have hT:T.size=B:=by simpa using Yt
   have ap:B<=1000002:=f (B,e0) (by simp);have R:e0=s:=by rw[<-O];simp[CZ]
   obtain⟨g,o,hA,hg,I⟩:=a0.at_ (j:=0) (by simp);subst hA;have t0:d.cell? ⟨g,o+0,none⟩=some (.string T):=I 0 _ rfl;have bj:d.cell? ⟨g,o,none⟩=some (.string T):=t0;have HT:=zH hT;have ar:T.size<=1000002:=by omega
   subst R;clear Yt z n f a0 O I O7 hT sJ Rh N;have aw:op=6\/op=15\/op=16\/op=17:=by omega
   rcases aw with rfl|rfl|rfl|rfl
   ·as_aux_lemma=>
    have hs:¬9223372036854775807<1+T.size:=by omega
    clear ho;go_wp2
    go_ret2
    exact⟨_,rfl,by rw[au];show 1+T.size=B+1;rw[HT.out];omega,by first|exact L.out|(rw[<-X.out];exact L.out)⟩
   ·as_aux_lemma=>
    have hs:¬9223372036854775807<4+T.size:=by omega
    clear ho;go_wp2
    go_ret2
    exact⟨_,rfl,by rw[au];show 4+T.size=B+4;rw[HT.out];omega,by first|exact L.out|(rw[<-X.out];exact L.out)⟩
   ·as_aux_lemma=>
    have hs:¬9223372036854775807<5+T.size:=by omega
    have a9:¬9223372036854775807<((⟨#[82,69,65,76,40]⟩:ByteArray)++T).size+1:=by rw[au];show¬9223372036854775807<5+T.size+1;omega
    have a4:¬9223372036854775807<5+T.size+1:=by omega
    clear ho;go_wp2
    go_ret2
    exact⟨_,rfl,by rw[au,au];show 5+T.size+1=B+6;rw[HT.out];omega,by first|exact L.out|(rw[<-X.out];exact L.out)⟩
   as_aux_lemma=>
   have hs:¬9223372036854775807<6+T.size:=by omega
   have a9:¬9223372036854775807<((⟨#[73,83,78,65,78,40]⟩:ByteArray)++T).size+1:=by rw[au];show¬9223372036854775807<6+T.size+1;omega
   have a4:¬9223372036854775807<6+T.size+1:=by omega
   clear ho;go_wp2
   go_ret2
   exact⟨_,rfl,by rw[au,au];show 6+T.size+1=B+7;rw[HT.out];omega,by first|exact L.out|(rw[<-X.out];exact L.out)⟩
  as_aux_lemma=>
  obtain⟨T,U,rfl⟩:=PK z;obtain⟨⟨B,e0⟩,⟨l1,e1⟩,rfl⟩:=PK n;have hT:T.size=B/\U.size=l1:=by simpa using Yt
  have ap:B<=1000002:=f (B,e0) (by simp);have ag:l1<=1000002:=f (l1,e1) (by simp);have R:max e0 e1=s:=by rw[<-O];simp[CZ]
  obtain⟨g,o,hA,hg,I⟩:=a0.at_ (j:=0) (by simp);subst hA;have t0:d.cell? ⟨g,o,none⟩=some (.string T):=I 0 _ rfl;have t1:d.cell? ⟨g,o+1,none⟩=some (.string U):=I 1 _ rfl;have HT:=zH hT;have ar:T.size<=1000002:=by omega
  have bd:U.size<=1000002:=by omega
  have b1:=zH R
  have a5:∃e,op=(dN b).2+e/\e<(dN b).1.length:=by
   rw[<-Rh.out];have F:op=1\/op=2\/op=3\/op=4\/op=5\/op=7\/op=8\/op=9\/op=10\/op=11\/op=12\/op=13\/op=14:=by omega
   rcases F with rfl|rfl|rfl|rfl|rfl|rfl|rfl|rfl|rfl|rfl|rfl|rfl|rfl<;>
    first|exact⟨0,by decide⟩|exact⟨1,by decide⟩|exact⟨2,by decide⟩|exact⟨3,by decide⟩|exact⟨4,by decide⟩|exact⟨5,by decide⟩
  have F:∀x∈(dN b).1,x.length<=3:=by
   match b,Z with
   |0,_|1,_|2,_|3,_|4,_|5,_|6,_|7,_|8,_=>decide
  obtain⟨e,J,Ri⟩:=a5;have Iq:=zH (EW b Z d);unfold Gu at Iq
  have a5:Hid (textF op [(B,e0),(l1,e1)]=(B+1+((dN b).1.getD e []).length+1+l1,max e0 e1)):=zH (by
   unfold textF
   rw[Rh.out,show op-(dN b).2=e by omega])
  have ab:((dN b).1.getD e []).length<=3:=by
   rw[zGy,zAg Ri];exact F _ (zFe Ri)
  have ad:(dN b).1.length<=6:=by
   match b,Z with
   |0,_|1,_|2,_|3,_|4,_|5,_|6,_|7,_|8,_=>decide
  have a6:(dN b).1[e]? =some ((dN b).1.getD e []):=by
   rw[zGy,zAg Ri];rfl
  generalize dN b=sp at *;obtain⟨sl,fs⟩:=sp;simp only at J Ri Iq a5 ab ad a6;have b6:(op:Int)-(fs:Int)=(e:Int):=by omega
  clear Yt z n f a0 O I O7 hT sJ Rh F J R ho;go_wp2_with fail
  refine Iq.mono ?_;rintro r w4 ⟨As,cs,rfl,aa,J⟩;have F:=(N.old J)
  have q0:=(E.old F.hb).cell 0
  have t0:=(bK J g _ (by
   have:=hg
   omega)).trans t0
  have t1:=(bK J g _ (by
   have:=hg
   omega)).trans t1
  have pq:=zH (L.trans (J.mono L.size));obtain⟨gs,os,b4,b7,af⟩:=aa.at_ (j:=e) (by simpa using Ri);subst b4;have t2:w4.cell? ⟨gs,os+e,none⟩=some (.string (bytes (sl.getD e []))):=af e _ (by rw[zG2,a6];rfl);obtain⟨G,hG⟩:=zN (bytes (sl.getD e []))
  have Xl:G.size=(sl.getD e []).length:=by rw[<-hG,bZ]
  rw[hG]at t2;have Yu:=zH Xl;have bq:G.size<=3:=by omega
  have b2:¬9223372036854775807<T.size+1:=by omega
  have a9:¬9223372036854775807<(T++(⟨#[32]⟩:ByteArray)).size+G.size:=by rw[au];show¬9223372036854775807<T.size+1+G.size;omega
  have a4:¬9223372036854775807<((T++(⟨#[32]⟩:ByteArray))++G).size+1:=by rw[au,au];show¬9223372036854775807<T.size+1+G.size+1;omega
  have b4:¬9223372036854775807<(((T++(⟨#[32]⟩:ByteArray))++G)++(⟨#[32]⟩:ByteArray)).size+U.size:=by rw[au,au,au];show¬9223372036854775807<T.size+1+G.size+1+U.size;omega
  have br:¬9223372036854775807<T.size+1+G.size:=by omega
  have bl:¬9223372036854775807<T.size+1+G.size+1:=by omega
  have bh:¬9223372036854775807<T.size+1+G.size+1+U.size:=by omega
  have bp:(e:Int)<(sl.length:Int):=by omega
  have be:IntKind.i64.wrap (e:Int)=(e:Int):=by rw[zJx];omega
  generalize sl.length=sn at *;clear hG Xl af aa a6 ab J F N Iq E Ri;go_upto_region 20 with fail
  go_quiet (fail)
  have F:=zH (pq.trans ((zHf (zGp w4.heap.size w4) nq).mono pq.size));go_wp2
  go_ret2
  exact⟨_,by rw[a5.out,b1.out];rfl,by rw[a5.out,au,au,au,au];show T.size+1+G.size+1+U.size=_;have C:=HT.out;have J:=Yu.out;omega,by first|exact F.out|(rw[<-X.out];exact F.out)⟩
end Go.Proofs.YtbjnhllkdilpfaaGreat
