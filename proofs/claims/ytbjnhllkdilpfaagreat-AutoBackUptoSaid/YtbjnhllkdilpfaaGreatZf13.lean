/- Part 13 of the proof. No conditions. -/
import Derived.Test.YtbjnhllkdilpfaaGreatZf12
import Derived.Test.YtbjnhllkdilpfaaGreatZf08
set_option linter.unusedVariables false
set_option linter.unusedSimpArgs false
set_option maxRecDepth 100000
set_option maxHeartbeats 16000000
namespace Go.Proofs.YtbjnhllkdilpfaaGreat
open Go.RowKit _root_.Go.Proofs.Tryz
theorem cO {w w':World} {g o:Nat} {v:Value} (h:w.grownBy w' (some g)):w.grownBy (w'.setCell ⟨g,o,none⟩ v) (some g):=
 ⟨h.os,h.tape,h.output,by simpa using h.size,λk b a=>(zGt w' _ v k (λe=>a (by rw[e]))).trans (h.block k b a)⟩
def dF (LA:Option Addr) (n c:Nat) (s:PS):List Value:=[.slice LA n c,.int .i64 s.i,.int .i64 s.opn,.int .i64 s.err,.int .i64 s.pos]
structure dH (b:Nat) (t:TypeId) (rest:List Value) (L:List aC) (LA:Option Addr) (Lc:Nat) (s:PS) (w:World):Prop where
 bk:Bk w b t (dF LA L.length Lc s++rest).toArray
 rd:Rd w b LA (L.flatMap aC.cells)
section
variable {b:Nat} {t:TypeId} {rest:List Value} {L:List aC} {LA:Option Addr} {Lc:Nat} {s:PS} {w w':World}
theorem dH.c0 (h:dH b t rest L LA Lc s w):w.cell? ⟨b,0,none⟩=some (.slice LA L.length Lc):=by rw[h.bk.cell 0];simp[dF]
theorem dH.c1 (h:dH b t rest L LA Lc s w):w.cell? ⟨b,1,none⟩=some (.int .i64 s.i):=by rw[h.bk.cell 1];simp[dF]
theorem dH.c2 (h:dH b t rest L LA Lc s w):w.cell? ⟨b,2,none⟩=some (.int .i64 s.opn):=by rw[h.bk.cell 2];simp[dF]
theorem dH.c3 (h:dH b t rest L LA Lc s w):w.cell? ⟨b,3,none⟩=some (.int .i64 s.err):=by rw[h.bk.cell 3];simp[dF]
theorem dH.c4 (h:dH b t rest L LA Lc s w):w.cell? ⟨b,4,none⟩=some (.int .i64 s.pos):=by rw[h.bk.cell 4];simp[dF]
theorem dH.old (h:dH b t rest L LA Lc s w) (hb:Below w w w'):dH b t rest L LA Lc s w':=⟨h.bk.old hb,h.rd.below (hb.mono (zG5 h.bk.lt))⟩
theorem o6 {A:Option Addr} {cs:List Value} (h:Rd w b A cs) (o:Nat) (v:Value):Rd (w.setCell ⟨b,o,none⟩ v) b A cs:=
 h.below ((zGp b w).setCell (p:=⟨b,o,none⟩) (zFv b) v)
theorem dH.set1 (h:dH b t rest L LA Lc s w) (i:Nat):dH b t rest L LA Lc ⟨i,s.opn,s.err,s.pos⟩ (w.setCell ⟨b,1,none⟩ (.int .i64 i)):=⟨by simpa[dF]using h.bk.put 1 (.int .i64 i),o6 h.rd _ _⟩
theorem dH.set2 (h:dH b t rest L LA Lc s w) (i:Nat):dH b t rest L LA Lc ⟨s.i,i,s.err,s.pos⟩ (w.setCell ⟨b,2,none⟩ (.int .i64 i)):=⟨by simpa[dF]using h.bk.put 2 (.int .i64 i),o6 h.rd _ _⟩
theorem dH.set3 (h:dH b t rest L LA Lc s w) (i:Nat):dH b t rest L LA Lc ⟨s.i,s.opn,i,s.pos⟩ (w.setCell ⟨b,3,none⟩ (.int .i64 i)):=⟨by simpa[dF]using h.bk.put 3 (.int .i64 i),o6 h.rd _ _⟩
theorem dH.set4 (h:dH b t rest L LA Lc s w) (i:Nat):dH b t rest L LA Lc ⟨s.i,s.opn,s.err,i⟩ (w.setCell ⟨b,4,none⟩ (.int .i64 i)):=⟨by simpa[dF]using h.bk.put 4 (.int .i64 i),o6 h.rd _ _⟩
theorem dH.fr (h:dH b t rest L LA Lc s w) (i:Nat):w.frozen? ⟨b,i,none⟩=false:=h.bk.frozen i
theorem uo (h:s.i<L.length):bC L s=L[s.i]:=by unfold bC;simp[h]
end
@[go_sem] theorem zAu (c e b d a:Value) (w:World):(Instr.field 94 (.agg #[c,e,b,d,a]) 4).run prog w=.ok a w:=by kernel_rfl
structure Steps (b:Nat) (t:TypeId) (rest:List Value) (L:List aC) (LA:Option Addr) (Lc:Nat) (s:PS) (w w':World):Prop where
 st:dH b t rest L LA Lc s w'
 grown:w.grownBy w' (some b)
theorem Bi (L:List aC) (s:PS) (x:Str):fD L s x=(((bC L s).kind==1||(bC L s).kind==6)&&(bC L s).text==x):=rfl
section
variable (b:Nat) (t:TypeId) (rest:List Value) (L:List aC) (LA:Option Addr) (Lc:Nat) (s:PS) (w:World)
theorem uq (h:dH b t rest L LA Lc s w) (D:s.i<L.length) (M:L.length<=4001):
  Calls prog 58 #[.pointer (some ⟨b,0,none⟩)] w λe w'=>e=.returned (bC L s).val/\Below w w w':=by
 obtain⟨e,j,d,G,a⟩:=h.rd.elem (n:=5) xA (by omega) D;rw[uo D];have x:w.cell? ⟨e,j+s.i*5,none⟩=some (.int .i64 L[s.i].kind):=a 0 _ rfl;have r:w.cell? ⟨e,j+s.i*5+1,none⟩=some (.string (bytes L[s.i].text)):=a 1 _ rfl;have o:w.cell? ⟨e,j+s.i*5+2,none⟩=some (.int .i64 L[s.i].n):=a 2 _ rfl;have u:w.cell? ⟨e,j+s.i*5+3,none⟩=some (.int .i64 L[s.i].scale):=a 3 _ rfl;have p:w.cell? ⟨e,j+s.i*5+4,none⟩=some (.int .i64 L[s.i].pos):=a 4 _ rfl;have m:=h.c0;have q:=h.c1;rw[d]at m;have y:=h.bk.lt;unfold aC.val;generalize L[s.i]=T at *;generalize s.i=i at *;clear a h d
 go_enter func58,ntmps58
 go_upto_region 1 with fail
 have B:=Bk.new w 94 #[(),.string ⟨#[]⟩,(),(),()];have a:Below w w (w.alloc (.cells #[(),.string ⟨#[]⟩,(),(),()] 94)):=zR.alloc zL _;have g:b<w.heap.size:=y;have d:e<w.heap.size:=by omega
 replace m:=(bK a b 0 g).trans m;replace q:=(bK a b 1 g).trans q;replace x:=(bK a e _ d).trans x;replace r:=(bK a e _ d).trans r;replace o:=(bK a e _ d).trans o;replace u:=(bK a e _ d).trans u;replace p:=(bK a e _ d).trans p;generalize w.alloc (.cells #[(),.string ⟨#[]⟩,(),(),()] 94)=W at *
 refine wx (λk => false) [.is (.pointer (some ⟨b, 0, none⟩)),
   .is (.pointer (some ⟨b,0,none⟩)),
   .is (.pointer (some ⟨b,0,none⟩)),
   .is (.slice (some ⟨e,j,none⟩) L.length Lc),
   .is (.pointer (some ⟨b,0,none⟩)),
   .is (.pointer (some ⟨b,0,none⟩)),
   .is (.pointer (some ⟨b,1,none⟩)),
   .is (.int .i64 (i:Nat)),
   .is (.pointer (some ⟨e,j+i*5,none⟩)),
   .is (.agg #[T.kind,.string (bytes T.text),T.n,T.scale,T.pos])] [8,9] (by kernel_rfl) (by kernel_rfl) (by kernel_rfl)
   (λC=>.c (px C rfl (λ_ _=>rfl)) <|
   .c (px C rfl (λ_ _=>rfl)) <|
   .c (px C rfl (λ_ _=>rfl)) <|
   .c (px C rfl (λ_ h=>bH (XR (bc h m)))) <|
   .c (px C rfl (λ_ _=>rfl)) <|
   .c (px C rfl (λ_ _=>rfl)) <|
   .c (px C rfl (λ_ _=>rfl)) <|
   .c (px C rfl (λ_ h=>bH (lD (bc h q)))) <|
   .c (pz [3,7] [] (by kernel_rfl) λE F wr f z l A=>?_) <|
   .c (pz [8] [] (by kernel_rfl) λE F wr f z l A=>?_) <| .nil) ?_
 ·have K:=aA l.1 rfl rfl;have E:=aA l.2.1 rfl rfl;clear z l;go_simp;exact A _ _ zR rfl
 ·have F:=aA l.1 rfl rfl;clear z l;have I:=zE f x;have H:=zE f r;have l:=zE f o;have z:=zE f u;have J:=zE f p;go_simp;exact A _ _ zR rfl
 intro E wr f z l;clear z l;simp only[bJ,zF0,zGb,zF1,zFp,zFd,zFh,zF4,Act.put,zFf,zFw,zFx];have z:=B.old f;have l:=a.trans (f.mono a.size);clear B f a m q x r o u p;go_wp2_with (first|(refine ae fB rfl _ _ rfl rfl [.int .i64 T.kind,.string (bytes T.text),.int .i64 T.n,.int .i64 T.scale,.int .i64 T.pos] rfl z rfl rfl rfl ?_;intro B a))
 obtain⟨u0,u1,u2,u3,u4⟩:=zc5 a.bk;have A:=a.below _ _ l zL;refine zFg (v:=.agg #[T.kind,.string (bytes T.text),T.n,T.scale,T.pos]) (by simp[results,results58,go_sem,u0,u1,u2,u3,u4]) rfl ?_;exact⟨rfl,A⟩
theorem mP (S:ByteArray) (h:dH b t rest L LA Lc s w) (g:s.i<L.length) (j:L.length<=4001):
  Calls prog 37 #[.pointer (some ⟨b,0,none⟩),S] w λe w'=>e=.returned (.bool (fD L s S.toList))/\Below w w w':=by
 have e:=zH (uq b t rest L LA Lc s w h g j);rw[Bi];unfold aC.val at e;generalize bC L s=T at *;obtain⟨b1,a⟩:=zN (T.kind==1)
 obtain⟨b2,d⟩:=zN (T.kind==6)
 obtain⟨f,c⟩:=zN (T.text==S.toList)
 have k:((T.kind:Int)==1)=b1:=by rw[<-a,zHe,zFt,zFt];omega
 have m:((T.kind:Int)==6)=b2:=by rw[<-d,zHe,zFt,zFt];omega
 have l:((bytes T.text).toList==S.toList)=f:=by rw[aI];exact c
 rw[a,d,c];clear h a d c
 go_enter func37,ntmps37
 go_wp2_with fail
 refine e.mono ?_;rintro r w2 ⟨rfl,a⟩;have d:=Bk.new w2 94 #[T.kind,.string (bytes T.text),T.n,T.scale,T.pos];have c:=a.alloc a.size (.cells #[T.kind,.string (bytes T.text),T.n,T.scale,T.pos] 94);have u0:=d.cell 0;have u1:=d.cell 1;generalize bytes T.text=X at *;clear e a d;cases b1<;>cases b2<;>cases f<;>
 (go_wp2
  go_ret
  exact⟨rfl,c⟩)
theorem mr (e:Nat) (h:dH b t rest L LA Lc s w) (p:s.i<L.length) (m:L.length<=4001):
  Calls prog 40 #[.pointer (some ⟨b,0,none⟩),e] w λr w'=>r=.returned (.tuple #[])/\Steps b t rest L LA Lc (bf L e s) w w':=by
 have j:=zH (uq b t rest L LA Lc s w h p m);have l:=h.c3;have k:=zH h;unfold bf;unfold aC.val at j;generalize bC L s=T at *
 by_cases f:s.err=0
 ·rw[zF3 f];have q:((s.err:Int)==0)=true:=by rw[f];rfl
  clear h f
  go_enter func40,ntmps40
  go_wp2_with fail
  refine j.mono ?_;rintro r w2 ⟨rfl,d⟩;have c:=k.old d;have x:=c.c3;have y:=c.fr 3;have a:=c.set3 e;have z:=a.c4;have u:=a.fr 4;have g:=a.set4 T.pos;have n:=cO (o:=4) (v:=.int .i64 T.pos) (cO (o:=3) (v:=.int .i64 e) (below_grown d (some b)));clear l j k c a d;go_wp2
  first|go_end0|refine zHg (v:=.tuple #[]) (by simp[results,results40,go_sem]) rfl ?_
  exact⟨rfl,g,n⟩
 rw[zF2 f];have q:((s.err:Int)==0)=false:=zB (by omega)
 clear f
 go_enter func40,ntmps40
 go_wp2
 first|go_end0|refine zHg (v:=.tuple #[]) (by simp[results,results40,go_sem]) rfl ?_
 exact⟨rfl,h,zF8 _ _⟩
theorem step_next (h:dH b t rest L LA Lc s w):Steps b t rest L LA Lc (aO s) w (w.setCell ⟨b,1,none⟩ (.int .i64 ((s.i:Int)+1))):=⟨h.set1 (s.i+1),cO (zF8 _ _)⟩
theorem nS (S:ByteArray) (h:dH b t rest L LA Lc s w) (l:s.i<L.length) (k:L.length<=4001):
  Calls prog 35 #[.pointer (some ⟨b,0,none⟩),S] w λr w'=>r=.returned (.tuple #[])/\Steps b t rest L LA Lc (aQ L S.toList s) w w':=by
 have e:=zH (mP b t rest L LA Lc s w S h l k);have g:Hid (∀W:World,dH b t rest L LA Lc s W->Calls prog 40 #[.pointer (some ⟨b,0,none⟩),.int .i64 13] W λr w'=>r=.returned (.tuple #[])/\Steps b t rest L LA Lc (bf L 13 s) W w'):=zH λW h=>mr b t rest L LA Lc s W 13 h l k
 have j:=h.c3;have o:=zH h;unfold aQ
 by_cases f:s.err=0
 case neg=>
  rw[zF3 f];have p:((s.err:Int)==0)=false:=zB (by omega)
  clear f e g
  go_enter func35,ntmps35
  go_wp2
  (try simp only[Exit.inBlock,Exit.then]);refine zFg (v:=.tuple #[]) (by simp[results,results35,go_sem]) rfl ?_
  exact⟨rfl,h,zF8 _ _⟩
 case pos=>
  rw[zF2 (by omega)];have p:((s.err:Int)==0)=true:=by rw[f];rfl
  obtain⟨n,a⟩:=zN (fD L s S.toList)
  rw[a]at e⊢;clear h f a
  go_enter func35,ntmps35
  go_wp2_with fail
  refine e.mono ?_;rintro r w2 ⟨rfl,c⟩;have a:=o.old c;cases n
  ·as_aux_lemma=>
   clear j e;go_wp2_with fail
   refine(g.out _ a).mono ?_;rintro r x ⟨rfl,d⟩;go_wp2
   (try simp only[Exit.inBlock,Exit.then]);refine zFg (v:=.tuple #[]) (by simp[results,results35,go_sem]) rfl ?_
   exact⟨rfl,d.st,(below_grown c _).trans d.grown⟩
  as_aux_lemma=>
  have q:=a.c1;have u:=a.fr 1;have m:=step_next b t rest L LA Lc s w2 a;clear j e g;go_wp2
  first|go_end0|refine zHg (v:=.tuple #[]) (by simp[results,results35,go_sem]) rfl ?_
  exact⟨rfl,m.st,(below_grown c _).trans m.grown⟩
theorem open_any (h:dH b t rest L LA Lc s w) (C:s.i<L.length) (z:L.length<=4001) (K:s.opn<=4001):
  Calls prog 112 #[.pointer (some ⟨b,0,none⟩)] w λr w'=>r=.returned (.int .i64 ((bC L s).pos:Nat))/\Steps b t rest L LA Lc (dG L s) w w':=by
 have p:=zH (uq b t rest L LA Lc s w h C z);have y:Hid (∀W:World,dH b t rest L LA Lc s W->Calls prog 40 #[.pointer (some ⟨b,0,none⟩),.int .i64 14] W λr w'=>r=.returned (.tuple #[])/\Steps b t rest L LA Lc (bf L 14 s) W w'):=zH λW h=>mr b t rest L LA Lc s W 14 h C z
 have A:=h.c2;have q:=zH h;unfold dG;have n:(bf L 14 s).i=s.i/\(bf L 14 s).opn=s.opn:=by unfold bf;split<;>exact⟨rfl,rfl⟩
 generalize bf L 14 s=f at *;unfold aC.val at p;generalize bC L s=T at *
 by_cases l:s.opn=30
 case neg=>
  rw[zF2 l];have D:((s.opn:Int)==30)=false:=zB (by omega)
  clear h l y n
  go_enter func112,ntmps112
  go_wp2_with fail
  refine p.mono ?_;rintro r w2 ⟨rfl,e⟩;have d:=q.old e;have B:=d.c2;have G:=d.fr 2;have a:=d.set2 (s.opn+1);have u:=a.c1;have x:=a.fr 1;have c:=a.set1 (s.i+1);have k:=cO (o:=1) (v:=.int .i64 ((s.i+1:Nat):Int)) (cO (o:=2) (v:=.int .i64 ((s.opn+1:Nat):Int)) (below_grown e (some b)));rw[show((s.opn+1:Nat):Int)=(s.opn:Int)+1 by omega]at c k u x;rw[show((s.i+1:Nat):Int)=(s.i:Int)+1 by omega]at c k;clear A p d e a q;go_wp2
  go_ret
  exact⟨rfl,c,k⟩
 case pos=>
  rw[zF3 l];have D:((s.opn:Int)==30)=true:=by rw[l];rfl
  clear h
  go_enter func112,ntmps112
  go_wp2_with fail
  refine p.mono ?_;rintro r w2 ⟨rfl,e⟩;have d:=q.old e;have B:=d.c2;clear A p;go_wp2_with fail
  refine(y.out _ d).mono ?_;rintro r M ⟨rfl,a,m⟩;have k:=(below_grown e (some b)).trans m;obtain⟨H,I⟩:=n;have E:f.opn<=4001:=by omega
  have J:f.i<L.length:=by omega
  have F:=a.c2;have G:=a.fr 2;have c:=a.set2 (f.opn+1);have u:=c.c1;have x:=c.fr 1;have j:=c.set1 (f.i+1);have g:=cO (o:=1) (v:=.int .i64 ((f.i+1:Nat):Int)) (cO (o:=2) (v:=.int .i64 ((f.opn+1:Nat):Int)) k);rw[show((f.opn+1:Nat):Int)=(f.opn:Int)+1 by omega]at j g u x;rw[show((f.i+1:Nat):Int)=(f.i:Int)+1 by omega]at j g;clear B d e a m k c q y H I l D;go_wp2
  go_ret
  exact⟨rfl,j,g⟩
theorem name_any (h:dH b t rest L LA Lc s w) (A:s.i<L.length) (z:L.length<=4001):
  Calls prog 124 #[.pointer (some ⟨b,0,none⟩)] w λr w'=>r=.returned (.string (bytes (iE L s).1))/\Steps b t rest L LA Lc (iE L s).2 w w':=by
 have j:=zH (uq b t rest L LA Lc s w h A z);have q:Hid (∀W:World,dH b t rest L LA Lc s W->Calls prog 40 #[.pointer (some ⟨b,0,none⟩),.int .i64 13] W λr w'=>r=.returned (.tuple #[])/\Steps b t rest L LA Lc (bf L 13 s) W w'):=zH λW h=>mr b t rest L LA Lc s W 13 h A z
 have y:=h.c3;have g:=zH h;unfold iE
 by_cases o:s.err=0
 case neg=>
  rw[zF3 o];have C:((s.err:Int)==0)=false:=zB (by omega)
  clear o j q
  go_enter func124,ntmps124
  go_wp2
  go_ret
  exact⟨rfl,h,zF8 _ _⟩
 case pos=>
  rw[zF2 (by omega)];have C:((s.err:Int)==0)=true:=by rw[o];rfl
  unfold aC.val at j;generalize bC L s=T at *;clear h o
  by_cases k:T.kind=2
  ·as_aux_lemma=>
   rw[zF3 k];have B:((T.kind:Int)==2)=true:=by rw[k];rfl
   go_enter func124,ntmps124
   go_wp2_with fail
   refine j.mono ?_;rintro r w2 ⟨rfl,a⟩;have f:=Bk.new w2 94 #[T.kind,.string (bytes T.text),T.n,T.scale,T.pos];have e:Below w2 w2 (w2.alloc (.cells #[T.kind,.string (bytes T.text),T.n,T.scale,T.pos] 94)):=zR.alloc zL _;have d:=a.trans (e.mono a.size);have c:=(g.old a).old e;have m:b≠w2.heap.size:=by have:=(g.old a).bk.lt;omega
   have u0:=f.cell 0;have D:=c.c1;have E:=c.fr 1;have u1:=(f.far (p:=⟨b,1,none⟩) (zLh m) (.int .i64 ((s.i:Int)+1))).cell 1;have u:=step_next b t rest L LA Lc s _ c;have x:=(below_grown d (some b)).trans u.grown;replace u:=u.st;clear y j q a e c k f g d;go_wp2
   go_ret
   exact⟨rfl,u,x⟩
  as_aux_lemma=>
  rw[zF2 k];have B:((T.kind:Int)==2)=false:=zB (by omega)
  go_enter func124,ntmps124
  go_wp2_with fail
  refine j.mono ?_;rintro r w2 ⟨rfl,a⟩;have f:=Bk.new w2 94 #[T.kind,.string (bytes T.text),T.n,T.scale,T.pos];have e:Below w2 w2 (w2.alloc (.cells #[T.kind,.string (bytes T.text),T.n,T.scale,T.pos] 94)):=zR.alloc zL _;have d:=a.trans (e.mono a.size);have c:=(g.old a).old e;have m:b≠w2.heap.size:=by have:=(g.old a).bk.lt;omega
  have u0:=f.cell 0;clear y j a e k f;go_wp2_with fail
  refine(q.out _ c).mono ?_;rintro r F ⟨rfl,v,l⟩;have x:=(below_grown d (some b)).trans l;clear q g d l c;go_wp2
  go_ret
  exact⟨rfl,v,x⟩
end
def dS (L:List aC):Prop:=∃M e,L=M++[e]/\e.kind=0
structure iy (L:List aC) (s:PS):Prop where
 lt:s.i<L.length
 opn:s.opn<=s.i
structure bF (L:List aC) (s s':PS):Prop where
 ok:iy L s'
 le:s.i<=s'.i
 opn:s'.opn=s.opn
theorem bF.refl {L:List aC} {s:PS} (h:iy L s):bF L s s:=⟨h,zFv _,rfl⟩
theorem bF.trans {L:List aC} {s c a:PS} (h:bF L s c) (b:bF L c a):bF L s a:=⟨b.ok,zFi h.le b.le,b.opn.trans h.opn⟩
section
variable {L:List aC} {s:PS}
theorem I8 (c:dS L) (h:s.i<L.length) (b:(bC L s).kind≠0):s.i+1<L.length:=by
 obtain⟨M,e,rfl,f⟩:=c;rcases zHu (s.i+1) (M++[e]).length with a|a
 ·exact a
 exfalso
 apply b
 have d:s.i=M.length:=by simp at h a;omega
 rw[uo h];simp only[d];simp[f]
theorem bM {x:Str} (h:fD L s x=true):(bC L s).kind≠0:=by
 rw[Bi]at h;simp at h;omega
theorem bF.next (b:dS L) (h:iy L s) (a:(bC L s).kind≠0):bF L s (aO s):=⟨⟨I8 b h.lt a,by show s.opn<=s.i+1;have:=h.opn;omega⟩,zJ9 _,rfl⟩
theorem bF.fail (e:Nat) (h:iy L s):bF L s (bf L e s):=by
 unfold bf
 split
 ·exact⟨⟨h.lt,h.opn⟩,zFv _,rfl⟩
 exact bF.refl h
theorem bF.need (b:dS L) (w:Str) (h:iy L s):bF L s (aQ L w s):=by
 unfold aQ
 split
 ·exact bF.refl h
 split
 ·rename_i a
  exact bF.next b h (bM a)
 exact bF.fail _ h
theorem bF.name (b:dS L) (h:iy L s):bF L s (iE L s).2:=by
 unfold iE
 split
 ·exact bF.refl h
 split
 ·rename_i a
  exact bF.next b h (by rw[a];decide)
 exact bF.fail _ h
theorem ET (L:List aC) (s:PS):iR L s=if(aQ L [46] (iE L s).2).err=0/\fD L (aQ L [46] (iE L s).2) iY=true then((iE L s).1,iY,aO (aQ L [46] (iE L s).2))else((iE L s).1,iE L (aQ L [46] (iE L s).2)):=rfl
theorem bF.field (b:dS L) (h:iy L s):bF L s (iR L s).2.2:=by
 rw[ET];have c:=bF.name b h;have a:=c.trans (bF.need b [46] c.ok)
 split
 ·rename_i d
  exact a.trans (bF.next b a.ok (bM d.2))
 exact a.trans (bF.name b a.ok)
theorem jk (d:dS L) (h:iy L s) (c:(bC L s).kind≠0):iy L (dG L s)/\(dG L s).i=s.i+1/\(dG L s).opn=s.opn+1:=by
 have b:=I8 d h.lt c;have e:=h.opn;have a:(bf L 14 s).i=s.i/\(bf L 14 s).opn=s.opn:=by unfold bf;split<;>exact⟨rfl,rfl⟩
 unfold dG
 split
 ·exact⟨⟨by show(bf L 14 s).i+1<_;rw[a.1];exact b,by show(bf L 14 s).opn+1<=(bf L 14 s).i+1;rw[a.1,a.2];omega⟩,by show(bf L 14 s).i+1=_;rw[a.1],by show(bf L 14 s).opn+1=_;rw[a.2]⟩
 exact⟨⟨b,by show s.opn+1<=s.i+1;omega⟩,rfl,rfl⟩
theorem bF.shut {a:PS} (d:dS L) (h:iy L s) (c:(bC L s).kind≠0) (b:bF L (dG L s) a):bF L s (BH a):=by
 obtain⟨f,j,g⟩:=jk d h c;have k:=b.opn;have e:=b.le;exact⟨⟨b.ok.lt,by show a.opn-1<=a.i;have:=b.ok.opn;omega⟩,by show s.i<=a.i;omega,by show a.opn-1=s.opn;omega⟩
end
section
variable (b:Nat) (t:TypeId) (rest:List Value) (L:List aC) (LA:Option Addr) (Lc:Nat) (s:PS) (w:World)
theorem EU (h:dH b t rest L LA Lc s w) (E:dS L) (C:iy L s) (A:L.length<=4001):
  Calls prog 113 #[.pointer (some ⟨b,0,none⟩)] w λr w'=>r=.returned (.tuple #[.string (bytes (iR L s).1),.string (bytes (iR L s).2.1)])/\Steps b t rest L LA Lc (iR L s).2.2 w w':=by
 have c:=bF.name E C;have d:=c.trans (bF.need E [46] c.ok);have u:=zH (name_any b t rest L LA Lc s w h C.lt A)
 have q:Hid (∀W:World,dH b t rest L LA Lc (iE L s).2 W->Calls prog 35 #[.pointer (some ⟨b,0,none⟩),.string ⟨#[46]⟩] W λr w'=>r=.returned (.tuple #[])/\Steps b t rest L LA Lc (aQ L [46] (iE L s).2) W w'):=zH λW h=>by
  have:=nS b t rest L LA Lc (iE L s).2 W ⟨#[46]⟩ h c.ok.lt A
  rwa [show(⟨#[46]⟩:ByteArray).toList=[46] by rw[zFm]]at this
 rw[ET];generalize iE L s=e at *;obtain⟨O,H⟩:=e;simp only at *;generalize aQ L [46] H=l at *
 have k:Hid (∀W:World,dH b t rest L LA Lc l W->Calls prog 37 #[.pointer (some ⟨b,0,none⟩),.string ⟨#[84,73,77,69]⟩] W λr w'=>r=.returned (.bool (fD L l iY))/\Below W.heap.size W w'):=zH λW h=>by
  have:=mP b t rest L LA Lc l W ⟨#[84,73,77,69]⟩ h d.ok.lt A
  rwa [show(⟨#[84,73,77,69]⟩:ByteArray).toList=iY by rw[zFm];rfl]at this
 have y:Hid (∀W:World,dH b t rest L LA Lc l W->Calls prog 124 #[.pointer (some ⟨b,0,none⟩)] W λr w'=>r=.returned (.string (bytes (iE L l).1))/\Steps b t rest L LA Lc (iE L l).2 W w'):=zH λW h=>name_any b t rest L LA Lc l W h d.ok.lt A
 have I:=d.ok.lt;clear h c d C;have c:Hid (∀(n a:Str) (x:PS) (W:World),Steps b t rest L LA Lc x w W->((n,a,x)=(n,a,x))):=zH λ_ _ _ _ _=>rfl
 clear c
 by_cases p:l.err=0
 case neg=>
  have J:((l.err:Int)==0)=false:=zB (by omega)
  rw[zF2 (by simp[p])];clear p k
  go_enter func113,ntmps113
  go_wp2_with fail
  refine u.mono ?_;rintro r w2 ⟨rfl,i,g⟩;go_wp2_with fail
  refine(q.out _ i).mono ?_;rintro r F ⟨rfl,c,e⟩;have v:=c.c3;have o:=g.trans e;clear i g e u q;go_wp2_with fail
  refine(y.out _ c).mono ?_;rintro r B ⟨rfl,d,f⟩;have m:=o.trans f;clear c f y v o;go_wp2
  go_ret2
  exact⟨rfl,d,m⟩
 case pos=>
  have J:((l.err:Int)==0)=true:=by rw[p];rfl
  obtain⟨G,j⟩:=zN (fD L l iY)
  rw[j]at k⊢;clear j;cases G
  ·as_aux_lemma=>
   rw[zF2 (by simp)];clear p
   go_enter func113,ntmps113
   go_wp2_with fail
   refine u.mono ?_;rintro r w2 ⟨rfl,i,g⟩;go_wp2_with fail
   refine(q.out _ i).mono ?_;rintro r F ⟨rfl,c,e⟩;have v:=c.c3;have o:=g.trans e;clear i g e u q;go_wp2_with fail
   refine(k.out _ c).mono ?_;rintro r B ⟨rfl,j⟩;have d:=c.old j;have f:=o.trans (below_grown j (some b));clear c j o k v;go_wp2_with fail
   refine(y.out _ d).mono ?_;rintro r N ⟨rfl,D,z⟩;have m:=f.trans z;clear d z y f;go_wp2
   go_ret2
   exact⟨rfl,D,m⟩
  as_aux_lemma=>
  rw[zF3 ⟨p,rfl⟩];clear p
  go_enter func113,ntmps113
  go_wp2_with fail
  refine u.mono ?_;rintro r w2 ⟨rfl,i,g⟩;go_wp2_with fail
  refine(q.out _ i).mono ?_;rintro r F ⟨rfl,c,e⟩;have v:=c.c3;have o:=g.trans e;clear i g e u q y;go_wp2_with fail
  refine(k.out _ c).mono ?_;rintro r B ⟨rfl,j⟩;have d:=c.old j;have f:=o.trans (below_grown j (some b));have K:=d.c1;have M:=d.fr 1;have z:=step_next b t rest L LA Lc l B d;have m:=f.trans z.grown;replace z:=z.st;clear c j o k v d f;go_wp2
  go_ret2
  exact⟨rfl,z,m⟩
end
theorem xE {a w:World} {b g o:Nat} {v:Value} (h:a.grownBy w (some b)) (e:a.heap.size<=g):a.grownBy (w.setCell ⟨g,o,none⟩ v) (some b):=
 ⟨h.os,h.tape,h.output,by simpa using h.size,λk d c=>(zGt w _ v k (by show k≠g;omega)).trans (h.block k d c)⟩
theorem ML {a w:World} {b:Nat} (h:a.grownBy w (some b)) (o:Obj):a.grownBy (w.alloc o) (some b):=h.trans (below_grown (zR.alloc zL o) _)
theorem dH.far {b g o:Nat} {t:TypeId} {a:List Value} {L:List aC} {c:Option Addr} {d:Nat} {s:PS} {w:World} (h:dH b t a L c d s w) (e:b<g) (v:Value):dH b t a L c d s (w.setCell ⟨g,o,none⟩ v):=
 ⟨h.bk.far (p:=⟨g,o,none⟩) (by show b≠g;omega) v,h.rd.below ((zGp b w).setCell (p:=⟨g,o,none⟩) (zG5 e) v)⟩
def iF (op n scale:Nat) (name attr:Str) (pos:Nat):List Value:=[.int .i64 op,.slice none 0 0,.int .i64 n,.int .i64 scale,.string (bytes name),.string (bytes attr),.int .i64 pos]
theorem BU (L:List aC) (pos i:Nat) (w:Str) (l:List Str) (op:Nat) (n a:Str) (s:PS):jI L pos i (w::l) (op,n,a,s)=jI L pos (i+1) l (if op=0/\fD L s w=true then(25+i,TB L s i)else(op,n,a,s)):=rfl
theorem I9 (L:List aC) (s:PS) (i:Nat):TB L s i=if i=0 then((iE L (aQ L [40] (aO s))).1,[],aQ L [41] (iE L (aQ L [40] (aO s))).2)else((iR L (aQ L [40] (aO s))).1,(iR L (aQ L [40] (aO s))).2.1,aQ L [41] (iR L (aQ L [40] (aO s))).2.2):=by
 unfold TB
 split<;>rfl
theorem Ja (w:World):Calls prog 103 #[] w λe w'=>∃g,e=.returned (.slice (some ⟨g,0,none⟩) 7 7)/\(∀k (h:k<jX.length),w'.cell? ⟨g,k,none⟩=some (.string (bytes jX[k])))/\w.heap.size<=g/\g<w'.heap.size/\Below w w w':=by
 go_enter func103,ntmps103
 go_wp2
 go_ret
 have b:=Bk.new w 9 (jX.map λx=>Value.string (bytes x)).toArray;have a:Below w w (w.alloc (.cells (jX.map λx=>Value.string (bytes x)).toArray 9)):=zR.alloc zL _;refine⟨w.heap.size,rfl,λk h=>?_,zFv _,b.lt,a⟩;refine(b.cell k).trans ?_;rw[zF7,zG2,zAg h];rfl
structure SS (b:Nat) (t:TypeId) (rest:List Value) (L:List aC) (LA:Option Addr) (Lc:Nat) (gx ga:Nat) (AL:List Str) (w w1:World) (cs:List Value) (x:PS) (W:World):Prop where
 st:dH b t rest L LA Lc x W
 bk:Bk W gx 110 cs.toArray
 ag:∀k (h:k<AL.length),W.cell? ⟨ga,k,none⟩=some (.string (bytes AL[k]))
 fr:∀w0:World,w0.grownBy w (some b)->w0.heap.size<=gx->w0.grownBy W (some b)
 sz:w1.heap.size<=W.heap.size
 ws:w.heap.size<=w1.heap.size
 ot:∀k,k<w.heap.size->k≠b->k≠gx->W.heap[k]? =w.heap[k]?
section
variable {b:Nat} {t:TypeId} {rest:List Value} {L:List aC} {LA:Option Addr} {Lc gx ga:Nat} {AL:List Str} {w w1 W W':World} {cs:List Value} {x x':PS}
theorem SS.old (h:SS b t rest L LA Lc gx ga AL w w1 cs x W) (c:ga<w1.heap.size) (hb:Below W W W'):SS b t rest L LA Lc gx ga AL w w1 cs x W':=
 ⟨h.st.old hb,h.bk.old hb,λk a=>(hb.cell (p:=⟨ga,k,none⟩) (zFs c h.sz)).trans (h.ag k a),λe a d=>(h.fr e a d).trans (below_grown hb _),zFi h.sz hb.size,h.ws,λk a d e=>(hb.block k (by have:=h.sz;have:=h.ws;omega)).trans (h.ot k a d e)⟩
theorem SS.steps (h:SS b t rest L LA Lc gx ga AL w w1 cs x W) (d:ga<w1.heap.size) (g:b<gx) (i:gx<ga) (a:Steps b t rest L LA Lc x' W W'):SS b t rest L LA Lc gx ga AL w w1 cs x' W':=
 ⟨a.st,h.bk.grown a.grown (by intro e;injection e with e;omega),λk j=>by
  have e:W'.heap[ga]? =W.heap[ga]? :=a.grown.block ga (zFs d h.sz) (by intro e;injection e with e;omega)
  rw[<-h.ag k j];simp[World.cell?,e],λl c f=>(h.fr l c f).trans a.grown,zFi h.sz a.grown.size,h.ws,λk c f l=>(a.grown.block k (by have:=h.sz;have:=h.ws;omega) (by intro e;injection e with e;omega)).trans (h.ot k c f l)⟩
theorem SS.put (h:SS b t rest L LA Lc gx ga AL w w1 cs x W) (c:b<gx) (f:gx<ga) (i:Nat) (v:Value):SS b t rest L LA Lc gx ga AL w w1 (cs.set i v) x (W.setCell ⟨gx,i,none⟩ v):=
 ⟨h.st.far c v,by simpa using h.bk.put i v,λk g=>by
  have e:(W.setCell ⟨gx,i,none⟩ v).heap[ga]? =W.heap[ga]? :=zGt W _ v ga (by show ga≠gx;omega)
  rw[<-h.ag k g];simp[World.cell?,e],λj d a=>xE (h.fr j d a) a,by simpa using h.sz,h.ws,λk d a j=>(zGt W _ v k (by show k≠gx;omega)).trans (h.ot k d a j)⟩
end
section
variable (b:Nat) (t:TypeId) (rest:List Value) (L:List aC) (LA:Option Addr) (Lc:Nat) (s:PS) (w:World)
def NaOk (op:Nat) (n a:Str):Prop:=op=0->n=[]/\a=[]
def zEc (gx pos:Nat) (r:az×PS) (w w':World):Prop:=
 ∃op n a,r.1=.leaf op 0 0 n a pos/\Bk w' gx 110 (iF op 0 0 n a pos).toArray/\dH b t rest L LA Lc r.2 w'/\(∀w0:World,w0.grownBy w (some b)->w0.heap.size<=gx->w0.grownBy w' (some b))/\w.heap.size<=w'.heap.size/\∀k,k<w.heap.size->k≠b->k≠gx->w'.heap[k]? =w.heap[k]?
theorem Ed (gx pos:Nat) (h:dH b t rest L LA Lc s w) (G:dS L) (hi:iy L s) (N:L.length<=4001) (hx:Bk w gx 110 (iF 0 0 0 [] [] pos).toArray) (e:b<gx):
  Calls prog 114 #[.pointer (some ⟨b,0,none⟩),.pointer (some ⟨gx,0,none⟩)] w λr w'=>r=.returned (.tuple #[])/\bF L s (fA L pos s).2/\zEc b t rest L LA Lc gx pos (fA L pos s) w w':=by
 obtain⟨g,c⟩:=zN (jI L pos 0 jX (0,[],[],s))
 have d:fA L pos s=(.leaf g.1 0 0 g.2.1 g.2.2.1 pos,if g.1=0 then bf L 13 g.2.2.2 else g.2.2.2):=by unfold fA;rw[c]
 rw[d];clear d;have HR:Hid (jI L pos 0 (jX.drop 0) (0,[],[],s)=g):=zH c;have f:=zH h;have l:=zH hx;have HI:=zH hi;clear c h hx hi
 go_enter func114,ntmps114
 go_wp2_with fail
 refine(Ja w).mono ?_;rintro r w1 ⟨ga,rfl,d,a8,j,c⟩;have P:=f.old c;have Q:=l.old c;have a7:=l.lt;have HG:=zH d;have a0:=c.size;have a2:=f.bk.lt;have H:=zH c;clear d c f l;have a3:jX.length=7:=rfl;generalize jX=AL at *;go_wp2
 have f:gx<ga:=by omega
 go_loopw[8] (λi wr=>∃(k op:Nat) (n a:Str) (x:PS),k<=7/\i=.int .i64 k/\Hid (jI L pos k (AL.drop k) (op,n,a,x)=g)/\Hid (SS b t rest L LA Lc gx ga AL w w1 (iF op 0 0 n a pos) x wr)/\Hid (bF L s x)/\Hid (NaOk op n a)) (λi _=>7-(intOf i).toNat)
 case atStart=>exact⟨0,0,[],[],s,zFj _,rfl,HR,zH ⟨P,Q,HG.out,λd c _=>c.trans (below_grown H.out _),zFv _,a0,λk c _ _=>H.block k c⟩,zH (bF.refl HI.out),zH (λ_=>⟨rfl,rfl⟩)⟩
 case round=>
  clear HR P Q HG H HI;obtain⟨k,op,n,a,x,hk,rfl,q,m,C,Gs⟩:=hrel;obtain⟨wo,rfl⟩:∃wo:World,wo=wr:=⟨_,rfl⟩
  have J:wo.cell? ⟨gx,0,none⟩=some (.int .i64 op):=m.bk.cell 0
  by_cases a4:k<7
  ·have O:k<AL.length:=by omega
   have u:=m.ag k O;have c:=q.out;rw[zFk O,BU]at c;obtain⟨X,l⟩:=zN (bytes AL[k])
   have o:X.toList=AL[k]:=by rw[<-l,aI]
   rw[l]at u;have d:=λW h=>mP b t rest L LA Lc x W X h C.ok.lt N
   rw[o]at d;clear q l o;generalize AL[k]=wd at *
   by_cases S:op=0
   case neg=>
    as_aux_lemma=>
    have jA:((op:Int)==0)=false:=zB (by omega)
    rw[zF2 (by simp[S])]at c;have p:=zH c;clear c d S;go_wp2
    go_roundw
    case rel=>exact⟨k+1,op,n,a,x,by omega,by go_num,p,m,C,Gs⟩
    case measure=>simp[intOf];omega
   case pos=>
   subst S;obtain⟨bi,o⟩:=zN (fD L x wd)
   rw[o]at c d;have l:=zH d;cases bi
   case false=>
    as_aux_lemma=>
    rw[zF2 (by simp)]at c;have p:=zH c;clear c d o;go_wp2_with fail
    refine(l.out _ m.st).mono ?_;rintro r w2 ⟨rfl,B⟩;have z:=zH (m.old j B);clear m B l u J;go_wp2
    go_roundw
    case rel=>exact⟨k+1,0,n,a,x,by omega,by go_num,p,z,C,Gs⟩
    case measure=>simp[intOf];omega
   case true=>
   obtain⟨rfl,rfl⟩:=Gs.out rfl;clear Gs;rw[zF3 ⟨rfl,rfl⟩,I9]at c;have z:=bM o;have A:=C.trans (bF.next G C.ok z);have E:=A.trans (bF.need G [40] A.ok)
   have D:Hid (∀W:World,dH b t rest L LA Lc (aO x) W->Calls prog 35 #[.pointer (some ⟨b,0,none⟩),.string ⟨#[40]⟩] W λr w'=>r=.returned (.tuple #[])/\Steps b t rest L LA Lc (aQ L [40] (aO x)) W w'):=zH λW h=>by
    have:=nS b t rest L LA Lc (aO x) W ⟨#[40]⟩ h A.ok.lt N
    rwa [show(⟨#[40]⟩:ByteArray).toList=[40] by rw[zFm]]at this
   have MM:Hid (∀(y:PS),iy L y->∀W:World,dH b t rest L LA Lc y W->Calls prog 35 #[.pointer (some ⟨b,0,none⟩),.string ⟨#[41]⟩] W λr w'=>r=.returned (.tuple #[])/\Steps b t rest L LA Lc (aQ L [41] y) W w'):=zH λy Y W h=>by
    have:=nS b t rest L LA Lc y W ⟨#[41]⟩ h Y.lt N
    rwa [show(⟨#[41]⟩:ByteArray).toList=[41] by rw[zFm]]at this
   have uS:Hid (∀(y:PS),iy L y->∀W:World,dH b t rest L LA Lc y W->Calls prog 124 #[.pointer (some ⟨b,0,none⟩)] W λr w'=>r=.returned (.string (bytes (iE L y).1))/\Steps b t rest L LA Lc (iE L y).2 W w'):=zH λy Y W h=>name_any b t rest L LA Lc y W h Y.lt N
   have xG:Hid (∀(y:PS),iy L y->∀W:World,dH b t rest L LA Lc y W->Calls prog 113 #[.pointer (some ⟨b,0,none⟩)] W λr w'=>r=.returned (.tuple #[.string (bytes (iR L y).1),.string (bytes (iR L y).2.1)])/\Steps b t rest L LA Lc (iR L y).2.2 W w'):=zH λy Y W h=>EU b t rest L LA Lc y W h G Y N
   have a5:=C.ok.lt;clear d o z;go_wp2_with fail
   refine(l.out _ m.st).mono ?_;rintro r w2 ⟨rfl,B⟩;have d:=m.old j B;have I:=d.st.c1;have F:=d.st.fr 1;have o:=d.steps j e f (step_next b t rest L LA Lc x w2 d.st);clear B m l u J d;go_wp2_with fail
   refine(D.out _ o.st).mono ?_;rintro r w4 ⟨rfl,u⟩;have z:=o.steps j e f u;generalize aQ L [40] (aO x)=x2 at *;have l:wo.heap.size<=w4.heap.size\/True:=.inr trivial;clear u o D I F A l;have e0:w4.cell? ⟨gx,0,none⟩=some (.int .i64 0):=z.bk.cell 0;have f0:=z.bk.frozen 0;have u:=z.put e f 0 (.int .i64 (25+(k:Int)))
   by_cases R:k=0
   case pos=>
    as_aux_lemma=>
    subst R;rw[zF3 rfl]at c;go_wp2_with fail
    refine(uS.out x2 E.ok _ u.st).mono ?_;rintro r w6 ⟨rfl,Z⟩;have l:=u.steps j e f Z;have D:=E.trans (bF.name G E.ok);generalize iE L x2=rr at *;obtain⟨F,K⟩:=rr;simp only at *;clear Z z u e0 f0 uS xG;have e4:w6.cell? ⟨gx,4,none⟩=some (.string (bytes [])):=l.bk.cell 4;have f4:=l.bk.frozen 4;have o:=l.put e f 4 (.string (bytes F));go_wp2_with fail
    refine(MM.out K D.ok _ o.st).mono ?_;rintro r w8 ⟨rfl,U⟩;have A:=o.steps j e f U;have I:=zH (D.trans (bF.need G [41] D.ok));have p:=zH c;have vI:Hid (SS b t rest L LA Lc gx ga AL w w1 (iF 25 0 0 F [] pos) (aQ L [41] K) w8):=zH A;clear U l o A e4 f4 c E D MM;generalize aQ L [41] K=x8 at *;go_wp2
    go_roundw
    case rel=>exact⟨1,25,F,[],x8,by omega,by go_num,p,vI,I,zH (λh=>by cases h)⟩
    case measure=>simp[intOf]
   case neg=>
    as_aux_lemma=>
    rw[zF2 R]at c;have a1:((k:Int)==0)=false:=zB (by omega)
    go_wp2_with fail
    refine(xG.out x2 E.ok _ u.st).mono ?_;rintro r w6 ⟨rfl,Z⟩;have l:=u.steps j e f Z;have D:=E.trans (bF.field G E.ok);generalize iR L x2=rr at *;obtain⟨F,a6,K⟩:=rr;simp only at *;clear Z z u e0 f0 uS xG;have e4:w6.cell? ⟨gx,4,none⟩=some (.string (bytes [])):=l.bk.cell 4;have f4:=l.bk.frozen 4;have o:=l.put e f 4 (.string (bytes F));have e5:(w6.setCell ⟨gx,4,none⟩ (.string (bytes F))).cell? ⟨gx,5,none⟩=some (.string (bytes [])):=o.bk.cell 5;have f5:=o.bk.frozen 5;have M:=o.put e f 5 (.string (bytes a6));go_wp2_with fail
    refine(MM.out K D.ok _ M.st).mono ?_;rintro r w8 ⟨rfl,U⟩;have A:=M.steps j e f U;have I:=zH (D.trans (bF.need G [41] D.ok));have p:=zH c;have vI:Hid (SS b t rest L LA Lc gx ga AL w w1 (iF (25+k) 0 0 F a6 pos) (aQ L [41] K) w8):=zH A;clear U l o M A e4 f4 e5 f5 c E D MM;generalize aQ L [41] K=x8 at *;go_wp2
    go_roundw
    case rel=>exact⟨k+1,25+k,F,a6,x8,by omega,by go_num,p,vI,I,zH (λh=>by omega)⟩
    case measure=>simp[intOf];omega
  as_aux_lemma=>
  obtain rfl:k=7:=by omega
  have c:=q.out;rw[zFq (by omega)]at c;have c:(op,n,a,x)=g:=c;subst c;clear q
  by_cases S:op=0
  ·subst S;have o:Hid (∀W:World,dH b t rest L LA Lc x W->Calls prog 40 #[.pointer (some ⟨b,0,none⟩),.int .i64 13] W λr w'=>r=.returned (.tuple #[])/\Steps b t rest L LA Lc (bf L 13 x) W w'):=zH λW h=>mr b t rest L LA Lc x W 13 h C.ok.lt N
   go_wp2_with fail
   refine(o.out _ m.st).mono ?_;rintro r w2 ⟨rfl,l⟩;have d:=m.steps j e f l;clear m o J;go_wp2
   first|go_end0|refine zHg (v:=.tuple #[]) (by simp[results,results114,go_sem]) rfl ?_
   exact⟨rfl,C.trans (bF.fail _ C.ok),0,n,a,rfl,d.bk,d.st,d.fr,zFi d.ws d.sz,d.ot⟩
  have jA:((op:Int)==0)=false:=zB (by omega)
  go_wp2
  first|go_end0|refine zHg (v:=.tuple #[]) (by simp[results,results114,go_sem]) rfl ?_
  exact⟨rfl,C.out,op,n,a,rfl,m.bk,m.st,m.fr,zFi m.ws m.sz,m.ot⟩
end
def opC (op g k pos:Nat):List Value:=[.int .i64 op,.slice (some ⟨g,0,none⟩) k k,.int .i64 0,.int .i64 0,.string ⟨#[]⟩,.string ⟨#[]⟩,.int .i64 pos]
def mM (P:Nat->Prop) (w:World):az->List Value->Prop
 |.leaf op n sc nm a p,cs=>cs=iF op n sc nm a p
 |.un op x p,cs=>∃g xs,cs=opC op g 1 p/\P g/\Bk w g 110 xs.toArray/\mM P w x xs
 |.bin op x y p,cs=>∃g xs ys,cs=opC op g 2 p/\P g/\Bk w g 110 (xs++ys).toArray/\mM P w x xs/\mM P w y ys
theorem mM.keep {P P':Nat->Prop} {w w':World} (a:∀g,P g->g<w.heap.size->P' g/\w'.heap[g]? =w.heap[g]?):∀{e:az} {cs:List Value},mM P w e cs->mM P' w' e cs
 |.leaf ..,_,h=>h
 |.un _ x _,_,⟨g,xs,d,c,b,e⟩=>⟨g,xs,d,(a g c b.lt).1,(a g c b.lt).2.trans b,e.keep a⟩
 |.bin _ x y _,_,⟨g,xs,f,d,c,b,e,i⟩=>⟨g,xs,f,d,(a g c b.lt).1,(a g c b.lt).2.trans b,e.keep a,i.keep a⟩
theorem mM.old {P:Nat->Prop} {w w':World} {e:az} {cs:List Value} (h:mM P w e cs) (hb:Below w w w'):mM P w' e cs:=h.keep λg a b=>⟨a,hb.block g b⟩
theorem mM.grown {b B:Nat} {w w':World} {e:az} {cs:List Value} (h:mM (λg=>B<=g) w e cs) (hb:w.grownBy w' (some b)) (a:b<B):mM (λg=>B<=g) w' e cs:=h.keep λg d c=>⟨d,hb.block g c (by intro e;injection e with e;omega)⟩
theorem mM.put {q B:Nat} {t:TypeId} {a:Array Value} {w w':World} {e:az} {cs:List Value} (h:mM (λg=>B<=g) w e cs) (c:qC w q t a w') (b:q<B):mM (λg=>B<=g) w' e cs:=h.keep λg d f=>⟨d,c.other g (by omega)⟩
theorem mM.more {B B':Nat} {w:World} {e:az} {cs:List Value} (h:mM (λg=>B<=g) w e cs) (a:B'<=B):mM (λg=>B'<=g) w e cs:=h.keep λg c b=>⟨by omega,rfl⟩
theorem mM.set {q B o:Nat} {v:Value} {w:World} {e:az} {cs:List Value} (h:mM (λg=>B<=g) w e cs) (a:q<B):mM (λg=>B<=g) (w.setCell ⟨q,o,none⟩ v) e cs:=h.keep λg b c=>⟨b,zGt w _ v g (by show g≠q;omega)⟩
theorem mM.seven {P:Nat->Prop} {w:World}:∀{e:az} {cs:List Value},mM P w e cs->∃b e a d h c f,cs=[b,e,a,d,h,c,f]/\[b,e,a,d,h,c,f].all Value.oneCell'=true
 |.leaf ..,_,h=>⟨_,_,_,_,_,_,_,h,rfl⟩
 |.un ..,_,⟨g,xs,a,_⟩=>⟨_,_,_,_,_,_,_,a,rfl⟩
 |.bin ..,_,⟨g,xs,b,a,_⟩=>⟨_,_,_,_,_,_,_,a,rfl⟩
theorem Ua:(prog.info? 110).map (λi=>(i.zero,i.size,i.bytes))=some (some (.agg #[(),"",(),(),.string ⟨#[]⟩,.string ⟨#[]⟩,()]),7,88):=by kernel_rfl
theorem cZ (w:World):(sizeOf 110).run prog w=.ok 7 w:=by
 obtain⟨i,a,d,b,c⟩:=zG4 Ua;simp[sizeOf,typeInfo,a,b]
theorem BZ (w:World):(isAgg 110).run prog w=.ok true w:=by simp[isAgg,go_sem]
theorem Jb (b g a d e c f:Value) (w:World):(Instr.buildSlice 50 1 #[(0,.agg #[b,g,a,d,e,c,f])]).run prog w=.ok (.slice (some ⟨w.heap.size,0,none⟩) 1 1) (w.alloc (.cells #[b,g,a,d,e,c,f] 110)):=by kernel_rfl
theorem kV {w:World} {ops:Array Oper} {b:List Oper} {o:Oper} {a:Act} {Q:Exit->Act->World->Prop} {e k d g i f j:Value} (c:o.guard=none) (x:Operand) (l:o.op=.buildSlice 50 1 #[(0,x)]) (m:a.eval x=.agg #[e,k,d,g,i,f,j])
  (h:wpList prog ops Q b (a.put o.dst (.slice (some ⟨w.heap.size,0,none⟩) 1 1)) (w.alloc (.cells #[e,k,d,g,i,f,j] 110))):wpList prog ops Q (o::b) a w:=
 zH8 c λ_ n=>by
  unfold Oper.wp execOp;simp only[l,zHp,zGq,zHc,m,zH5,Jb,Result.andThen_ok,Sem.run_pure];exact n _ _ h
section
variable {L:List aC}
theorem O6 (j:dS L) (b:PS->az×PS) (c:∀s,iy L s->bF L s (b s).2) (a:Nat):∀(k:Nat) (x:az) (s:PS),iy L s->bF L s (rQ L b a k x s).2
 |0,x,s,h=>bF.refl h
 |k+1,x,s,h=>by
  unfold rQ
  split
  ·exact bF.refl h
  split
  ·exact bF.refl h
  rename_i p n
  have o:(bC L s).kind≠0:=by
   intro e
   apply n
   have g:∀w,fD L s w=false:=λw=>by rw[Bi,e];rfl
   have d:∀(l:List Str) (first i op:Nat),oQ L s first i l op=op:=by
    intro l
    induction l with
    |nil=>intro _ _ _;rfl
    |cons x l m=>intro f i op;show oQ L s f (i+1) l (if fD L s x=true then f+i else op)=op;rw[g x];exact m _ _ _
   exact d _ _ _ _
  have e:=bF.next j h o;have d:=e.trans (c _ e.ok)
  show bF L s (if a=4 then(_,(b (aO s)).2)else rQ L b a k _ (b (aO s)).2).2
  split
  ·exact d
  exact d.trans (O6 j b c a k _ _ d.ok)
theorem Gt (b:dS L) (pos:Nat):∀(l:List Str) (i op:Nat) (n a:Str) (x s:PS),bF L s x->bF L s (jI L pos i l (op,n,a,x)).2.2.2
 |[],i,op,n,a,x,s,h=>h
 |w::l,i,op,n,a,x,s,h=>by
  rw[BU]
  split
  ·rename_i f
   have e:=h.trans (bF.next b h.ok (bM f.2));have d:=e.trans (bF.need b [40] e.ok);rw[I9]
   split
   ·have c:=d.trans (bF.name b d.ok);exact Gt b pos l _ _ _ _ _ s (c.trans (bF.need b [41] c.ok))
   have c:=d.trans (bF.field b d.ok);exact Gt b pos l _ _ _ _ _ s (c.trans (bF.need b [41] c.ok))
  exact Gt b pos l _ _ _ _ _ s h
theorem XT (d:dS L) (pos:Nat) (s:PS) (h:iy L s):bF L s (fA L pos s).2:=by
 unfold fA;generalize jX=c;have b:=Gt d pos c 0 0 [] [] s s (bF.refl h);generalize jI L pos 0 c (0,[],[],s)=r at *;obtain⟨op,n,a,x⟩:=r
 show bF L s (if op=0 then bf L 13 x else x)
 split
 ·exact b.trans (bF.fail _ b.ok)
 exact b
theorem XU (b:dS L) (f:PS->az×PS) (d:∀s,iy L s->bF L s (f s).2) (s:PS) (h:iy L s):bF L s (pR L f s).2:=by
 unfold pR;simp only[]
 split
 ·rename_i a;exact bF.next b h (by rw[a];decide)
 split
 ·rename_i a;exact bF.next b h (by rw[a];decide)
 split
 ·rename_i a;exact bF.next b h (by rw[a];decide)
 split
 ·exact bF.field b h
 split
 ·rename_i c
  have a:=bM c;have e:=d _ (jk b h a).1;exact bF.shut b h a (e.trans (bF.need b [41] e.ok))
 split
 ·rename_i c
  have a:(bC L s).kind≠0:=by
   rcases zKz.1 c with c|c<;>exact bM c
  exact bF.next b h a
 split
 ·rename_i c
  have a:(bC L s).kind≠0:=by
   rcases zKz.1 c with c|c<;>exact bM c
  have i:=(jk b h a).1;have g:=bF.need b [40] i;have e:=g.trans (d _ g.ok);exact bF.shut b h a (e.trans (bF.need b [41] e.ok))
 show bF L s (fA L _ s).2
 exact XT b _ s h
theorem fO (b:dS L):∀(f a:Nat) (s:PS),iy L s->bF L s (aW L f a s).2
 |0,_,s,h=>bF.refl h
 |f+1,a,s,h=>by
  unfold aW
  split
  ·exact bF.refl h
  split
  ·split
   ·rename_i d
    have c:=bM d;exact bF.shut b h c (fO b f a _ (jk b h c).1)
   exact fO b f _ s h
  split
  ·exact XU b _ (λs h=>fO b f 1 s h) s h
  have c:=fO b f (a+1) s h;exact c.trans (O6 b _ (λs h=>fO b f (a+1) s h) a _ _ _ c.ok)
end
def Gu (level:Nat) (w:World) (e:Ending) (w':World):Prop:=
 ∃(A:Option Addr) (c:Nat),e=.returned (.tuple #[.slice A (dN level).1.length c,.int .i64 ((dN level).2:Nat)])/\Rd w' w'.heap.size A ((dN level).1.map λx=>Value.string (bytes x))/\Below w w w'
theorem EW (a:Nat) (h:a<=8) (w:World):Calls prog 90 #[a] w (Gu a w):=by
 match a,h with
 |1,_=>
  go_enter func90,ntmps90
  go_wp2
  go_ret2
  exact⟨_,_,rfl,Rd.bk (Bk.new w 9 _) (Bk.new w 9 _).lt,zR.alloc zL _⟩
 |2,_=>
  go_enter func90,ntmps90
  go_wp2
  go_ret2
  exact⟨_,_,rfl,Rd.bk (Bk.new w 9 _) (Bk.new w 9 _).lt,zR.alloc zL _⟩
 |4,_=>
  go_enter func90,ntmps90
  go_wp2
  go_ret2
  exact⟨_,_,rfl,Rd.bk (Bk.new w 9 _) (Bk.new w 9 _).lt,zR.alloc zL _⟩
 |5,_=>
  go_enter func90,ntmps90
  go_wp2
  go_ret2
  exact⟨_,_,rfl,Rd.bk (Bk.new w 9 _) (Bk.new w 9 _).lt,zR.alloc zL _⟩
 |6,_=>
  go_enter func90,ntmps90
  go_wp2
  go_ret2
  exact⟨_,_,rfl,Rd.bk (Bk.new w 9 _) (Bk.new w 9 _).lt,zR.alloc zL _⟩
 |0,_=>
  go_enter func90,ntmps90
  go_wp2
  go_ret2
  exact⟨none,0,rfl,Rd.nil,zGp _ _⟩
 |3,_=>
  go_enter func90,ntmps90
  go_wp2
  go_ret2
  exact⟨none,0,rfl,Rd.nil,zGp _ _⟩
 |7,_=>
  go_enter func90,ntmps90
  go_wp2
  go_ret2
  exact⟨none,0,rfl,Rd.nil,zGp _ _⟩
 |8,_=>
  go_enter func90,ntmps90
  go_wp2
  go_ret2
  exact⟨none,0,rfl,Rd.nil,zGp _ _⟩
end Go.Proofs.YtbjnhllkdilpfaaGreat
