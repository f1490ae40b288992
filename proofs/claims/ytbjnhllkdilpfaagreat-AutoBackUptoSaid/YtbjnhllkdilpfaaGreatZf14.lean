/- Part 14 of the proof. No conditions. -/
import Derived.Test.YtbjnhllkdilpfaaGreatZf13
set_option linter.unusedVariables false
set_option linter.unusedSimpArgs false
set_option maxRecDepth 100000
set_option maxHeartbeats 16000000
namespace Go.Proofs.YtbjnhllkdilpfaaGreat
open Go.RowKit _root_.Go.Proofs.Tryz
section
variable (b:Nat) (t:TypeId) (rest:List Value) (L:List aC) (LA:Option Addr) (Lc:Nat)
def jO (r:az×PS) (w:World) (e:Ending) (w':World):Prop:=
 ∃cs,e=.returned (.agg cs.toArray)/\mM (λg=>w.heap.size<=g) w' r.1 cs/\dH b t rest L LA Lc r.2 w'/\w.grownBy w' (some b)
def Ub (f:Nat):Prop:=∀(level:Nat) (s:PS) (w:World),1<=level->level<=8->dH b t rest L LA Lc s w->iy L s->10*(L.length-s.i)+(9-level)<=f->
 Calls prog 87 #[.pointer (some ⟨b,0,none⟩),level] w (jO b t rest L LA Lc (aW L f level s) w)
end
theorem fC {w W W':World} {b g:Nat} {t:TypeId} {cs:Array Value} (h:w.grownBy W (some b)) (a:qC W g t cs W') (e:w.heap.size<=g):w.grownBy W' (some b):=
 ⟨a.grown.os.trans h.os,a.grown.tape.trans h.tape,a.grown.output.trans h.output,by rw[a.size];exact h.size,λk d c=>(a.other k (by omega)).trans (h.block k d c)⟩
structure xe (b:Nat) (t:TypeId) (rest:List Value) (L:List aC) (LA:Option Addr) (Lc:Nat) (gr gt gx:Nat) (T:aC) (w:World) (cs:List Value) (x:PS) (W:World):Prop where
 st:dH b t rest L LA Lc x W
 kr:Bk W gr 110 (iF 0 0 0 [] [] 0).toArray
 kt:Bk W gt 94 #[T.kind,.string (bytes T.text),T.n,T.scale,T.pos]
 kx:Bk W gx 110 cs.toArray
 gw:w.grownBy W (some b)
structure QH (b gr gt gx:Nat) (w:World):Prop where
 h1:b<w.heap.size
 h2:w.heap.size<=gr
 h3:gr<gt
 h4:gt<gx
section
variable {b:Nat} {t:TypeId} {rest:List Value} {L:List aC} {LA:Option Addr} {Lc gr gt gx:Nat} {T:aC} {w W W':World} {cs:List Value} {x x':PS}
theorem xe.old (h:xe b t rest L LA Lc gr gt gx T w cs x W) (hb:Below W W W'):xe b t rest L LA Lc gr gt gx T w cs x W':=
 ⟨h.st.old hb,h.kr.old hb,h.kt.old hb,h.kx.old hb,h.gw.trans (below_grown hb _)⟩
theorem aG {g b:Nat} (h:g≠b):some g≠some b:=λe=>h (by injection e)
theorem xe.steps (h:xe b t rest L LA Lc gr gt gx T w cs x W) (a:QH b gr gt gx w) (d:dH b t rest L LA Lc x' W') (c:W.grownBy W' (some b)):xe b t rest L LA Lc gr gt gx T w cs x' W':=
 have:=a.h1;have:=a.h2;have:=a.h3;have:=a.h4
 ⟨d,h.kr.grown c (aG (by omega)),h.kt.grown c (aG (by omega)),h.kx.grown c (aG (by omega)),h.gw.trans c⟩
theorem xe.put (h:xe b t rest L LA Lc gr gt gx T w cs x W) (a:QH b gr gt gx w) (i:Nat) (v:Value):xe b t rest L LA Lc gr gt gx T w (cs.set i v) x (W.setCell ⟨gx,i,none⟩ v):=
 have:=a.h1;have:=a.h2;have:=a.h3;have:=a.h4
 ⟨h.st.far (by omega) v,h.kr.far (p:=⟨gx,i,none⟩) (by show gr≠gx;omega) v,h.kt.far (p:=⟨gx,i,none⟩) (by show gt≠gx;omega) v,by simpa using h.kx.put i v,xE h.gw (by omega)⟩
theorem xe.fE (h:xe b t rest L LA Lc gr gt gx T w cs x W) (c:QH b gr gt gx w) {d:List Value} (a:qC W gx 110 d.toArray W'):xe b t rest L LA Lc gr gt gx T w d x W':=
 have:=c.h1;have:=c.h2;have:=c.h3;have:=c.h4
 ⟨⟨a.zJ h.st.bk (by omega),h.st.rd.below (a.below _ _ zR (by omega))⟩,a.zJ h.kr (by omega),a.zJ h.kt (by omega),a.bk,fC h.gw a (by omega)⟩
end
theorem xe.drew {b:Nat} {t:TypeId} {rest:List Value} {L:List aC} {LA:Option Addr} {Lc gr gt gx:Nat} {T:aC} {w W:World} {cs:List Value} {x:PS} (h:xe b t rest L LA Lc gr gt gx T w cs x W):xe b t rest L LA Lc gr gt gx T w cs x W.drew:=h.old ⟨rfl,rfl,rfl,zFv _,λ_ _=>rfl⟩
theorem xe.fin {b:Nat} {t:TypeId} {rest:List Value} {L:List aC} {LA:Option Addr} {Lc gr gt gx:Nat} {T:aC} {w W W':World} {cs:List Value} {x:PS} {d:Array Value} (h:xe b t rest L LA Lc gr gt gx T w cs x W) (c:QH b gr gt gx w) (a:qC W gr 110 d W'):dH b t rest L LA Lc x W'/\w.grownBy W' (some b):=
 have:=c.h1;have:=c.h2
 ⟨⟨a.zJ h.st.bk (by omega),h.st.rd.below (a.below _ _ zR (by omega))⟩,fC h.gw a (by omega)⟩
structure LfO (b:Nat) (t:TypeId) (rest:List Value) (L:List aC) (LA:Option Addr) (Lc gr gx:Nat) (w:World) (r:az×PS) (W:World):Prop where
 ok:∃cs,Bk W gx 110 cs.toArray/\mM (λg=>gx+1<=g) W r.1 cs
 st:dH b t rest L LA Lc r.2 W
 kr:Bk W gr 110 (iF 0 0 0 [] [] 0).toArray
 gw:w.grownBy W (some b)
theorem xe.o {b:Nat} {t:TypeId} {rest:List Value} {L:List aC} {LA:Option Addr} {Lc gr gt gx:Nat} {T:aC} {w W:World} {cs:List Value} {x:PS} (h:xe b t rest L LA Lc gr gt gx T w cs x W) {r:az×PS} (c:mM (λg=>gx+1<=g) W r.1 cs) (a:x=r.2):LfO b t rest L LA Lc gr gx w r W:=
 ⟨⟨cs,h.kx,c⟩,a▸h.st,h.kr,h.gw⟩
theorem xe.c {b:Nat} {t:TypeId} {rest:List Value} {L:List aC} {LA:Option Addr} {Lc gr gt gx:Nat} {T:aC} {w W:World} {d j a f g e k:Value} {x:PS} (h:xe b t rest L LA Lc gr gt gx T w [d,j,a,f,g,e,k] x W):
  W.cell? ⟨gx,0,none⟩=some d/\W.cell? ⟨gx,1,none⟩=some j/\W.cell? ⟨gx,2,none⟩=some a/\W.cell? ⟨gx,3,none⟩=some f/\W.cell? ⟨gx,4,none⟩=some g/\W.cell? ⟨gx,5,none⟩=some e/\∀i,W.frozen? ⟨gx,i,none⟩=false:=
 ⟨h.kx.cell 0,h.kx.cell 1,h.kx.cell 2,h.kx.cell 3,h.kx.cell 4,h.kx.cell 5,h.kx.frozen⟩
theorem xe.tk {b:Nat} {t:TypeId} {rest:List Value} {L:List aC} {LA:Option Addr} {Lc gr gt gx:Nat} {T:aC} {w W:World} {cs:List Value} {x:PS} (h:xe b t rest L LA Lc gr gt gx T w cs x W):
  W.cell? ⟨gt,0,none⟩=some (.int .i64 T.kind)/\W.cell? ⟨gt,1,none⟩=some (.string (bytes T.text))/\W.cell? ⟨gt,2,none⟩=some (.int .i64 T.n)/\W.cell? ⟨gt,3,none⟩=some (.int .i64 T.scale):=
 ⟨h.kt.cell 0,h.kt.cell 1,h.kt.cell 2,h.kt.cell 3⟩
theorem xe.inc {b:Nat} {t:TypeId} {rest:List Value} {L:List aC} {LA:Option Addr} {Lc gr gt gx:Nat} {T:aC} {w W:World} {cs:List Value} {x:PS} (h:xe b t rest L LA Lc gr gt gx T w cs x W) (a:QH b gr gt gx w):xe b t rest L LA Lc gr gt gx T w cs ⟨x.i+1,x.opn,x.err,x.pos⟩ (W.setCell ⟨b,1,none⟩ (.int .i64 ((x.i:Int)+1))):=
 h.steps a (h.st.set1 (x.i+1)) (cO (zF8 _ _))
section
variable (b:Nat) (t:TypeId) (rest:List Value) (L:List aC) (LA:Option Addr) (Lc:Nat)
theorem Uc (f:Nat) (IH:Ub b t rest L LA Lc f) (s:PS) (w:World) (h:dH b t rest L LA Lc s w) (he:dS L) (hi:iy L s) (hL:L.length<=4001) (hf:10*(L.length-s.i)<=f):
  Calls prog 101 #[.pointer (some ⟨b,0,none⟩)] w (jO b t rest L LA Lc (pR L (aW L f 1) s) w):=by
 have C:Hid (∀W:World,dH b t rest L LA Lc s W->Calls prog 58 #[.pointer (some ⟨b,0,none⟩)] W λe w'=>e=.returned (bC L s).val/\Below W W w'):=zH λW h=>uq b t rest L LA Lc s W h hi.lt hL
 have y:Hid (∀(S:ByteArray) (x:Str),S.toList=x->∀W:World,dH b t rest L LA Lc s W->Calls prog 37 #[.pointer (some ⟨b,0,none⟩),S] W λr w'=>r=.returned (.bool (fD L s x))/\Below W.heap.size W w'):=zH λS x hx W h=>by
  have:=mP b t rest L LA Lc s W S h hi.lt hL
  rwa [hx]at this
 obtain⟨R,d⟩:=zN (pR L (aW L f 1) s)
 have g:Hid (∀x,fD L s x=true->(bC L s).kind≠0):=zH λx hx=>bM hx
 have H:Hid ((bC L s).kind≠0->bF L s (aO s)):=zH λe=>bF.next he hi e
 have O7:Hid ((bC L s).kind≠0->iy L (dG L s)/\(dG L s).i=s.i+1/\(dG L s).opn=s.opn+1):=zH λe=>jk he hi e
 rw[d];unfold pR at d;unfold aC.val at C;generalize ao:bC L s=T at *;have m:=zH d;have HS:=zH h;have z:=zH IH;have a3:=h.bk.lt;have a4:=hi.lt;have ak:=hi.opn;have HI:=zH hi;clear d h IH hi
 go_enter func101,ntmps101
 go_wp2_with fail
 have E:Bk (w.alloc (.cells #[(),"",(),(),.string ⟨#[]⟩,.string ⟨#[]⟩,()] 110)) w.heap.size 110 (iF 0 0 0 [] [] 0).toArray:=Bk.new w 110 _;have l:Below w w (w.alloc (.cells #[(),"",(),(),.string ⟨#[]⟩,.string ⟨#[]⟩,()] 110)):=zR.alloc zL _;have k:=HS.old l;refine(C.out _ k).mono ?_;rintro r w2 ⟨rfl,d⟩;have B:=k.old d;have F:=E.old d
 have an:w.heap.size+1<=w2.heap.size:=by
  have:=d.size;simp at this;omega
 have D:=(Bk.new w2 94 #[T.kind,.string (bytes T.text),T.n,T.scale,T.pos])
 have A:=D.alloc (.cells #[(),"",(),(),.string ⟨#[]⟩,.string ⟨#[]⟩,T.pos] 110);have kx:Bk ((w2.alloc (.cells #[T.kind,.string (bytes T.text),T.n,T.scale,T.pos] 94)).alloc (.cells #[(),"",(),(),.string ⟨#[]⟩,.string ⟨#[]⟩,T.pos] 110)) (w2.heap.size+1) 110 (iF 0 0 0 [] [] T.pos).toArray:=Bk.newAt (by simp) _ _;have j:Below w2 w2 ((w2.alloc (.cells #[T.kind,.string (bytes T.text),T.n,T.scale,T.pos] 94)).alloc (.cells #[(),"",(),(),.string ⟨#[]⟩,.string ⟨#[]⟩,T.pos] 110)):=(zR.alloc zL _).alloc (by simp) _;have G:=D.cell 4;have u:w.grownBy ((w2.alloc (.cells #[T.kind,.string (bytes T.text),T.n,T.scale,T.pos] 94)).alloc (.cells #[(),"",(),(),.string ⟨#[]⟩,.string ⟨#[]⟩,T.pos] 110)) (some b):=((below_grown l _).trans (below_grown d _)).trans (below_grown j _);have N:Hid (xe b t rest L LA Lc w.heap.size w2.heap.size (w2.heap.size+1) T w (iF 0 0 0 [] [] T.pos) s ((w2.alloc (.cells #[T.kind,.string (bytes T.text),T.n,T.scale,T.pos] 94)).alloc (.cells #[(),"",(),(),.string ⟨#[]⟩,.string ⟨#[]⟩,T.pos] 110))):=zH ⟨B.old j,F.old j,A,kx,u⟩
 have e:Hid (QH b w.heap.size w2.heap.size (w2.heap.size+1) w):=zH ⟨a3,zFv _,by omega,by omega⟩
 go_upto_block 0 with fail
 generalize(w2.alloc (.cells #[T.kind,.string (bytes T.text),T.n,T.scale,T.pos] 94)).alloc (.cells #[(),"",(),(),.string ⟨#[]⟩,.string ⟨#[]⟩,T.pos] 110)=W at *;clear G D A kx j u B F d k E l C;generalize ag:w2.heap.size=gt at *;generalize ab:w.heap.size=gr at *;obtain⟨q0,u⟩:=zN (fD L s [40])
 obtain⟨qT,k⟩:=zN (fD L s EE)
 obtain⟨qF,d⟩:=zN (fD L s Gl)
 obtain⟨qR,j⟩:=zN (fD L s OO)
 obtain⟨qN,l⟩:=zN (fD L s TC)
 have C:=y.out ⟨#[40]⟩ [40] (by rw[zFm]);have D:=y.out ⟨#[84,82,85,69]⟩ EE (by rw[zFm];rfl);have A:=y.out ⟨#[70,65,76,83,69]⟩ Gl (by rw[zFm];rfl);have E:=y.out ⟨#[82,69,65,76]⟩ OO (by rw[zFm];rfl);have B:=y.out ⟨#[73,83,78,65,78]⟩ TC (by rw[zFm];rfl);rw[u]at C;rw[k]at D;rw[d]at A;rw[j]at E;rw[l]at B;have H0:=zH C;have H1:=zH D;have H2:=zH A;have H3:=zH E;have H4:=zH B
 have HK:Hid ((q0||(qT||qF)||(qR||qN))=true->T.kind≠0):=zH λh=>by
  simp only[zG8]at h;rcases h with(h|h|h)|h|h
  ·exact g.out [40] (by rw[u];exact h)
  ·exact g.out EE (by rw[k];exact h)
  ·exact g.out Gl (by rw[d];exact h)
  ·exact g.out OO (by rw[j];exact h)
  exact g.out TC (by rw[l];exact h)
 have HQ:=zH (zA u (zA k (zA d (zA j l))));have SV:Hid (∀W:World,dH b t rest L LA Lc s W->Calls prog 112 #[.pointer (some ⟨b,0,none⟩)] W λr w'=>r=.returned (.int .i64 ((bC L s).pos:Nat))/\Steps b t rest L LA Lc (dG L s) W w'):=zH λW h=>open_any b t rest L LA Lc s W h a4 hL (by omega)
 have sJ:Hid (∀(x:PS) (W:World),dH b t rest L LA Lc x W->iy L x->s.i+1<=x.i->Calls prog 87 #[.pointer (some ⟨b,0,none⟩),.int .i64 1] W (jO b t rest L LA Lc (aW L f 1 x) W)):=zH λx W h F hx=>z.out 1 x W (by omega) (by omega) h F (by have:=F.lt;omega)
 have mJ:Hid (∀(c:UInt8) (x:PS) (W:World),dH b t rest L LA Lc x W->iy L x->Calls prog 35 #[.pointer (some ⟨b,0,none⟩),.string ⟨#[c]⟩] W λr w'=>r=.returned (.tuple #[])/\Steps b t rest L LA Lc (aQ L [c] x) W w'):=zH λc x W h hx=>by
  have:=nS b t rest L LA Lc x W ⟨#[c]⟩ h hx.lt hL
  rwa [show(⟨#[c]⟩:ByteArray).toList=[c] by rw[zFm]]at this
 have G:=zH he;have XV:=zH hL;clear u k d j l y g z H he C D A E B
 go_cut[] (λwx=>Hid (LfO b t rest L LA Lc gr (gt+1) w R wx))
 case first=>
  as_aux_lemma=>
  obtain⟨y,F,C,B,z,D,H⟩:=N.c;obtain⟨A,j,l,k⟩:=N.tk
  by_cases h3:T.kind=3
  ·as_aux_lemma=>
   have E:((T.kind:Int)==3)=true:=by rw[h3];rfl
   have d:=m.out;rw[zF3 h3]at d;subst d;go_upto_region 5 with fail
   go_region
   have V:=((N.put e.out 0 (.int .i64 20)).put e.out 2 (.int .i64 T.n)).drew;clear y F C B z D H A j l k;generalize((W.setCell ⟨gt+1,0,none⟩ (.int .i64 20)).setCell ⟨gt+1,2,none⟩ (.int .i64 T.n)).drew=W2 at *;have d1:=V.st.c1;have g1:=V.st.fr 1;have u:=zH (V.inc e.out);clear V;go_wp2
   go_meet
   exact zH (u.o rfl rfl)
  have al:((T.kind:Int)==3)=false:=zB (by omega)
  by_cases h4:T.kind=4
  ·as_aux_lemma=>
   have E:((T.kind:Int)==4)=true:=by rw[h4];rfl
   have d:=m.out;rw[zF2 h3,zF3 h4]at d;subst d;go_upto_region 8 with fail
   go_region
   have V:=(((N.put e.out 0 (.int .i64 21)).put e.out 2 (.int .i64 T.n)).put e.out 3 (.int .i64 T.scale)).drew;clear y F C B z D H A j l k;generalize(((W.setCell ⟨gt+1,0,none⟩ (.int .i64 21)).setCell ⟨gt+1,2,none⟩ (.int .i64 T.n)).setCell ⟨gt+1,3,none⟩ (.int .i64 T.scale)).drew=W2 at *;have d1:=V.st.c1;have g1:=V.st.fr 1;have u:=zH (V.inc e.out);clear V;go_wp2
   go_meet
   exact zH (u.o rfl rfl)
  have SX:((T.kind:Int)==4)=false:=zB (by omega)
  by_cases h5:T.kind=5
  ·as_aux_lemma=>
   have E:((T.kind:Int)==5)=true:=by rw[h5];rfl
   have d:=m.out;rw[zF2 h3,zF2 h4,zF3 h5]at d;subst d;go_upto_region 11 with fail
   go_region
   have V:=((N.put e.out 0 (.int .i64 23)).put e.out 4 (.string (bytes T.text))).drew;clear y F C B z D H A j l k;generalize((W.setCell ⟨gt+1,0,none⟩ (.int .i64 23)).setCell ⟨gt+1,4,none⟩ (.string (bytes T.text))).drew=W2 at *;have d1:=V.st.c1;have g1:=V.st.fr 1;have u:=zH (V.inc e.out);clear V;go_wp2
   go_meet
   exact zH (u.o rfl rfl)
  have af:((T.kind:Int)==5)=false:=zB (by omega)
  by_cases h2:T.kind=2
  ·as_aux_lemma=>
   have E:((T.kind:Int)==2)=true:=by rw[h2];rfl
   have d:=m.out;rw[zF2 h3,zF2 h4,zF2 h5,zF3 h2]at d;have I:Hid (∀W:World,dH b t rest L LA Lc s W->Calls prog 113 #[.pointer (some ⟨b,0,none⟩)] W λr w'=>r=.returned (.tuple #[.string (bytes (iR L s).1),.string (bytes (iR L s).2.1)])/\Steps b t rest L LA Lc (iR L s).2.2 W w'):=zH λW h=>EU b t rest L LA Lc s W h G.out HI.out XV.out
   generalize iR L s=g at *;obtain⟨M,J,x6⟩:=g;subst d;go_upto_region 15 with fail
   have V:=N.put e.out 0 (.int .i64 24);clear y F C B z D H A j l k;generalize W.setCell ⟨gt+1,0,none⟩ (.int .i64 24)=W2 at *;go_wp2_with fail
   refine(I.out _ V.st).mono ?_;rintro r W3 ⟨rfl,g⟩;have u:=V.steps e.out g.st g.grown;obtain⟨y,F,C,B,z,D,H⟩:=u.c;have K:=zH ((u.put e.out 4 (.string (bytes M))).put e.out 5 (.string (bytes J)));clear V u g I;go_wp2
   go_meet
   exact zH (K.o rfl rfl)
  have aa:((T.kind:Int)==2)=false:=zB (by omega)
  have d:=m.out;rw[zF2 h3,zF2 h4,zF2 h5,zF2 h2,HQ.1,HQ.2.1,HQ.2.2.1,HQ.2.2.2.1,HQ.2.2.2.2]at d;have m:=zH d;clear d HQ y F C B z D H j l k;go_wp2_with fail
  refine(H0.out _ N.st).mono ?_;rintro r W1 ⟨rfl,hb⟩;have M:=zH (N.old hb);clear hb N A H0;cases q0
  case true=>
   as_aux_lemma=>
   obtain⟨J,a9,a5⟩:=O7.out (HK.out rfl);have k:=fO G.out f 1 (dG L s) J;have l:=k.trans (bF.need G.out [41] k.ok);have Cc:=l.opn;have A:=l.ok.opn;have E:=l.ok.lt;have d:((aW L f 1 (dG L s)).1,BH (aQ L [41] (aW L f 1 (dG L s)).2))=R:=m.out;have vT:=zH (λW h=>sJ.out (dG L s) W h J (by omega));have uu:=zH (λW h=>mJ.out 41 (aW L f 1 (dG L s)).2 W h k.ok);clear sJ mJ m HK H1 H2 H3 H4 O7 k l;go_wp2_with fail
   refine(SV.out _ M.st).mono ?_;rintro r W2 ⟨rfl,g⟩;have V:=M.steps e.out g.st g.grown;have hz:=V.kx.lt;clear g SV M;generalize dG L s=so at *;generalize aW L f 1 so=rr at *;obtain⟨e5,s5⟩:=rr;simp only at vT uu d Cc A E;go_wp2_with fail
   refine(vT.out _ V.st).mono ?_;rintro r W3 ⟨cs,rfl,j,g,hg⟩;have V:=V.steps e.out g hg;obtain⟨P,O,Z,Y,Q,X,U,rfl,hy⟩:=j.seven;have j:=j.more (show gt+1+1<=_ by omega);have kx:=V.kx;clear g hg vT;go_wp2_with (first|(refine ae cZ rfl _ _ rfl rfl [P,O,Z,Y,Q,X,U] rfl kx rfl rfl hy ?_;intro K I))
   have V:=V.fE e.out I;have j:=j.put I (by omega);clear kx I;go_wp2_with fail
   refine(uu.out _ V.st).mono ?_;rintro r W5 ⟨rfl,g⟩;have V:=V.steps e.out g.st g.grown;have j:=j.grown g.grown (by omega);clear g uu;generalize aQ L [41] s5=s6 at *;have d2:=V.st.c2;have g2:=V.st.fr 2;obtain⟨on,I⟩:=zN (s6.opn-1)
   have a7:(s6.opn:Int)-1=(on:Int):=by omega
   have a8:(s6.opn:Int)<=4001:=by omega
   have u:=zH (V.steps e.out (V.st.set2 on) (cO (zF8 _ _)));have HE:=zH (j.set (q:=b) (o:=2) (v:=.int .i64 (on:Int)) (by omega));subst d;have a0:=zH I;clear I V j Cc A E;go_wp2
   go_meet
   exact zH (u.o HE.out (by rw[<-a0.out];rfl))
  case false=>
  have d:(if(qT||qF)=true then(.leaf 22 (if qT=true then 1 else 0) 0 [] [] T.pos,aO s)else if(qR||qN)=true then(.un (if qN=true then 17 else 16) (aW L f 1 (aQ L [40] (dG L s))).1 T.pos,BH (aQ L [41] (aW L f 1 (aQ L [40] (dG L s))).2))else fA L T.pos s)=R:=m.out;have m:=zH d;clear d;go_upto_region 21 with fail
  go_cut[88] (λv wx=>v=.bool (qT||qF)/\Hid (xe b t rest L LA Lc gr gt (gt+1) T w (iF 0 0 0 [] [] T.pos) s wx))
  case first=>
   as_aux_lemma=>
   go_wp2_with fail
   refine(H1.out _ M.st).mono ?_;rintro r W2 ⟨rfl,hb⟩;have K:=zH (M.old hb);clear hb;cases qT
   ·go_wp2_with fail
    refine(H2.out _ K.st).mono ?_;rintro r W3 ⟨rfl,hb⟩;have HX:=zH (K.old hb);clear hb;go_wp2
    go_meet
    exact⟨rfl,HX⟩
   go_wp2
   go_meet
   exact⟨rfl,K⟩
  case rest=>
  obtain⟨rfl,jM⟩:=hcut;clear M;cases hqq:(qT||qF)
  case true=>
   as_aux_lemma=>
   have d:=m.out;rw[zF3 hqq]at d;have M:=zH d;clear hqq d;obtain⟨y,F,C,B,z,D,H⟩:=jM.c;go_upto_region 23 with fail
   have V:=jM.put e.out 0 (.int .i64 22);clear y F C B z D H;generalize wc.setCell ⟨gt+1,0,none⟩ (.int .i64 22)=W5 at *;go_wp2_with fail
   refine(H1.out _ V.st).mono ?_;rintro r W6 ⟨rfl,hb⟩;have V:=V.old hb;clear hb;cases qT
   ·have d1:=V.st.c1;have g1:=V.st.fr 1;have u:=zH (V.inc e.out);clear V;go_wp2
    go_meet
    exact zH (by rw[<-M.out];exact u.o rfl rfl)
   obtain⟨y,F,C,B,z,D,H⟩:=V.c;go_upto_region 25 with fail
   have V:=V.put e.out 2 (.int .i64 1);clear y F C B z D H;generalize W6.setCell ⟨gt+1,2,none⟩ (.int .i64 1)=W7 at *;have d1:=V.st.c1;have g1:=V.st.fr 1;have u:=zH (V.inc e.out);clear V;go_wp2
   go_meet
   exact zH (by rw[<-M.out];exact u.o rfl rfl)
  case false=>
  have d:=m.out;rw[zF2 (by rw[hqq];decide)]at d;have m:=zH d;clear d hqq;go_upto_region 26 with fail
  go_cut[106] (λv wx=>v=.bool (qR||qN)/\Hid (xe b t rest L LA Lc gr gt (gt+1) T w (iF 0 0 0 [] [] T.pos) s wx))
  case first=>
   as_aux_lemma=>
   go_wp2_with fail
   refine(H3.out _ jM.st).mono ?_;rintro r W2 ⟨rfl,hb⟩;have K:=zH (jM.old hb);clear hb;cases qR
   ·go_wp2_with fail
    refine(H4.out _ K.st).mono ?_;rintro r W3 ⟨rfl,hb⟩;have HX:=zH (K.old hb);clear hb;go_wp2
    go_meet
    exact⟨rfl,HX⟩
   go_wp2
   go_meet
   exact⟨rfl,K⟩
  case rest=>
  obtain⟨rfl,yG⟩:=hcut;clear jM;cases hqq:(qR||qN)
  case true=>
   as_aux_lemma=>
   have d:=m.out;rw[zF3 hqq]at d;obtain⟨J,a9,a5⟩:=O7.out (HK.out (by rw[hqq];simp));have gn:=bF.need G.out [40] J;have a1:=gn.le;have k:=gn.trans (fO G.out f 1 _ gn.ok);have l:=k.trans (bF.need G.out [41] k.ok);have Cc:=l.opn;have A:=l.ok.opn;have E:=l.ok.lt;have vT:=zH (λW h=>sJ.out (aQ L [40] (dG L s)) W h gn.ok (by omega));have a2:=zH (λW h=>mJ.out 40 (dG L s) W h J);have uu:=zH (λW h=>mJ.out 41 (aW L f 1 (aQ L [40] (dG L s))).2 W h k.ok);have M:=zH d;clear sJ mJ m HK H1 H2 H3 O7 k l gn hqq d a1;obtain⟨y,F,C,B,z,D,H⟩:=yG.c;go_upto_region 28 with fail
   have V:=yG.put e.out 0 (.int .i64 16);clear y F C B z D H;generalize wc.setCell ⟨gt+1,0,none⟩ (.int .i64 16)=W5 at *;go_wp2_with fail
   refine(H4.out _ V.st).mono ?_;rintro r W6 ⟨rfl,hb⟩;have V:=V.old hb;clear hb;go_upto_if 115 with fail
   go_cut[] (λwx=>Hid (xe b t rest L LA Lc gr gt (gt+1) T w (iF (if qN=true then 17 else 16) 0 0 [] [] T.pos) s wx))
   case first=>
    as_aux_lemma=>
    cases qN
    ·have K:=zH V;clear V;go_wp2
     go_meet
     exact K
    obtain⟨y,F,C,B,z,D,H⟩:=V.c;have K:=zH (V.put e.out 0 (.int .i64 17));clear V;go_wp2
    go_meet
    exact K
   case rest=>
   have V:=hcut.out;clear hcut H4;obtain⟨op,K⟩:=zN (if qN=true then 17 else 16)
   have d:=M.out;rw[K]at V d;clear K M;go_wp2_with fail
   refine(SV.out _ V.st).mono ?_;rintro r W7 ⟨rfl,g⟩;have V:=V.steps e.out g.st g.grown;clear g SV;generalize dG L s=so at *;go_wp2_with fail
   refine(a2.out _ V.st).mono ?_;rintro r W8 ⟨rfl,g⟩;have V:=V.steps e.out g.st g.grown;have hz:=V.kx.lt;clear g a2;generalize aQ L [40] so=sn at *;generalize aW L f 1 sn=rr at *;obtain⟨e5,s5⟩:=rr;simp only at vT uu d Cc A E;go_wp2_with fail
   refine(vT.out _ V.st).mono ?_;rintro r W9 ⟨cs,rfl,j,g,hg⟩;have V:=V.steps e.out g hg;have am:=hg.size;obtain⟨P,O,Z,Y,Q,X,U,rfl,hy⟩:=j.seven;have j:=j.more (show gt+1+1<=_ by omega);clear g hg vT;obtain⟨K,a2⟩:=zN W9.heap.size
   have a1:Below W9 W9 (W9.alloc (.cells #[P,O,Z,Y,Q,X,U] 110)):=zR.alloc zL _;have kb:Bk (W9.alloc (.cells #[P,O,Z,Y,Q,X,U] 110)) K 110 #[P,O,Z,Y,Q,X,U]:=Bk.newAt a2.symm _ _;have V:=V.old a1;have j:=j.old a1;obtain⟨y,F,C,B,z,D,H⟩:=V.c;have V:=V.put e.out 1 (.slice (some ⟨K,0,none⟩) 1 1);have j:=j.set (q:=gt+1) (o:=1) (v:=.slice (some ⟨K,0,none⟩) 1 1) (by omega);have kb:=kb.far (p:=⟨gt+1,1,none⟩) (by show K≠gt+1;omega) (.slice (some ⟨K,0,none⟩) 1 1);clear a1;go_wp2_with (first|(refine kV rfl _ rfl rfl ?_))
   refine(uu.out _ V.st).mono ?_;rintro r ad ⟨rfl,g⟩;have V:=V.steps e.out g.st g.grown;have j:=j.grown g.grown (by omega);have kb:=kb.grown g.grown (aG (by omega));clear g uu y F C B z D H;generalize aQ L [41] s5=s6 at *;have d2:=V.st.c2;have g2:=V.st.fr 2;obtain⟨on,I⟩:=zN (s6.opn-1)
   have a7:(s6.opn:Int)-1=(on:Int):=by omega
   have a8:(s6.opn:Int)<=4001:=by omega
   have u:=zH (V.steps e.out (V.st.set2 on) (cO (zF8 _ _)));have HE:=zH (j.set (q:=b) (o:=2) (v:=.int .i64 (on:Int)) (by omega));have KB:=zH (kb.far (p:=⟨b,2,none⟩) (by show K≠b;omega) (.int .i64 (on:Int)));subst d;have a0:=zH I;have a1:gt+1+1<=K:=by omega
   clear I V j kb Cc A E a2;go_wp2
   go_meet
   exact zH (u.o ⟨K,[P,O,Z,Y,Q,X,U],rfl,a1,KB.out,HE.out⟩ (by rw[<-a0.out];rfl))
  case false=>
  have d:=m.out;rw[zF2 (by rw[hqq];decide)]at d;clear hqq m sJ mJ SV HK H1 H2 H3 H4 O7;go_wp2_with fail
  refine(Ed b t rest L LA Lc s _ (gt+1) T.pos yG.st G.out HI.out XV.out yG.kx (by have:=e.h1;have:=e.h2;have:=e.h3;omega)).mono ?_;rintro r W8 ⟨rfl,-,op,n,a,k,u,g,A,l,E⟩;have J:=yG.kx.lt
  have I:Hid (LfO b t rest L LA Lc gr (gt+1) w R W8):=zH (by
   have:=e.h1;have:=e.h2;have:=e.h3;rw[<-d]
   exact⟨⟨_,u,by rw[k];rfl⟩,g,(E gr (by omega) (by omega) (by omega)).trans yG.kr,A w yG.gw (by omega)⟩)
  clear k u g A l E d;go_wp2
  go_meet
  exact I
 case rest=>
 clear N m SV sJ mJ HQ HK H0 H1 H2 H3 H4 O7;obtain⟨cs,kx,j⟩:=hcut.ok;obtain⟨P,O,Z,Y,Q,X,U,rfl,hy⟩:=j.seven;obtain⟨y,F,C,B,z,D,x6⟩:=zc7 kx;simp only[zF7,zGe,zGg]at y F C B z D x6;have g:=hcut.kr;go_wp2_with (first|(refine ae cZ rfl _ _ rfl rfl [P,O,Z,Y,Q,X,U] rfl g rfl rfl hy ?_;intro l d))
 obtain⟨u0,u1,u2,u3,u4,u5,u6⟩:=zc7 d.bk;have k:=e.h1;have h2:=e.h2;have h3:=e.h3;refine zFg (v:=.agg #[P,O,Z,Y,Q,X,U]) (by simp[results,results101,go_sem,u0,u1,u2,u3,u4,u5,u6]) rfl ?_;exact⟨_,rfl,(j.put d (by omega)).more (by omega),⟨d.zJ hcut.st.bk (by omega),hcut.st.rd.below (d.below _ _ zR (by omega))⟩,fC hcut.gw d (by omega)⟩
end
theorem dH.fE {b q:Nat} {t u:TypeId} {a:List Value} {L:List aC} {c:Option Addr} {e:Nat} {s:PS} {w w':World} {f:Array Value} (h:dH b t a L c e s w) (d:qC w q u f w') (g:b<q):dH b t a L c e s w':=
 ⟨d.zJ h.bk (by omega),h.rd.below (d.below _ _ zR (by omega))⟩
def sN (L:List aC) (f level:Nat) (s:PS):az×PS:=if fD L s (OM level)=true then(.un (II level) (aW L f level (dG L s)).1 (bC L s).pos,BH (aW L f level (dG L s)).2)else aW L f (level+1) s
section
variable (b:Nat) (t:TypeId) (rest:List Value) (L:List aC) (LA:Option Addr) (Lc:Nat)
theorem Jc (f:Nat) (IH:Ub b t rest L LA Lc f) (s:PS) (w:World) (h:dH b t rest L LA Lc s w) (he:dS L) (Y:iy L s) (hL:L.length<=4001) (hf:10*(L.length-s.i)+(8-3)<=f):
  Calls prog 100 #[.pointer (some ⟨b,0,none⟩),.int .i64 3] w (jO b t rest L LA Lc (sN L f 3 s) w):=by
 have a0:=h.bk.lt;have HS:=zH h;have a1:=Y.lt;have ab:=Y.opn
 have j:Hid (∀W:World,dH b t rest L LA Lc s W->Calls prog 37 #[.pointer (some ⟨b,0,none⟩),.string ⟨#[78,79,84]⟩] W λr w'=>r=.returned (.bool (fD L s [78,79,84]))/\Below W W w'):=zH λW h=>by
  have:=mP b t rest L LA Lc s W ⟨#[78,79,84]⟩ h Y.lt hL
  rwa [show(⟨#[78,79,84]⟩:ByteArray).toList=[78,79,84] by rw[zFm]]at this
 unfold sN;rw[show OM 3=[78,79,84]from rfl,show II 3=15 from rfl];obtain⟨bi,D⟩:=zN (fD L s [78,79,84])
 rw[D]at j⊢;cases bi
 case false=>
  as_aux_lemma=>
  rw[zF2 (by simp)];have J:Hid (∀W:World,dH b t rest L LA Lc s W->Calls prog 87 #[.pointer (some ⟨b,0,none⟩),.int .i64 4] W (jO b t rest L LA Lc (aW L f 4 s) W)):=zH λW h=>IH 4 s W (by omega) (by omega) h Y (by omega)
  generalize aW L f (3+1) s=x at *;clear IH D h
  go_enter func100,ntmps100
  have O:Bk (w.alloc (.cells #[(),"",(),(),.string ⟨#[]⟩,.string ⟨#[]⟩,()] 110)) w.heap.size 110 #[(),"",(),(),.string ⟨#[]⟩,.string ⟨#[]⟩,()]:=Bk.new w 110 _;have d:Below w w (w.alloc (.cells #[(),"",(),(),.string ⟨#[]⟩,.string ⟨#[]⟩,()] 110)):=zR.alloc zL _;have c:=HS.old d;go_wp2_with fail
  refine(j.out _ c).mono ?_;rintro r w1 ⟨rfl,a⟩;have k:=c.old a;have N:=O.old a;have l:=(below_grown d (some b)).trans (below_grown a (some b));have n:=N.lt;clear c O a d j HS;go_wp2_with fail
  refine(J.out _ k).mono ?_;rintro r w2 ⟨cs,rfl,M,E,e⟩;obtain⟨y,u,G,F,z,C,B,rfl,hy⟩:=M.seven;have Q:=N.grown e (aG (by omega));have A:=l.trans e;have g:b<w.heap.size:=a0;clear k N J e l;go_wp2_with (first|(refine ae cZ rfl _ _ rfl rfl [y,u,G,F,z,C,B] rfl Q rfl rfl hy ?_;intro w9 m))
  obtain⟨u0,u1,u2,u3,u4,u5,u6⟩:=zc7 m.bk;refine zFg (v:=.agg #[y,u,G,F,z,C,B]) (by simp[results,results100,go_sem,u0,u1,u2,u3,u4,u5,u6]) rfl ?_;exact⟨[y,u,G,F,z,C,B],rfl,(M.put m n).more (by omega),E.fE m g,fC A m zL⟩
 case true=>
  as_aux_lemma=>
  rw[zF3 rfl];have x:=bM D;obtain⟨R,K,I⟩:=jk he Y x;have A:Hid (∀W:World,dH b t rest L LA Lc s W->Calls prog 112 #[.pointer (some ⟨b,0,none⟩)] W λr w'=>r=.returned (.int .i64 ((bC L s).pos:Nat))/\Steps b t rest L LA Lc (dG L s) W w'):=zH λW h=>open_any b t rest L LA Lc s W h a1 hL (by omega)
  have J:Hid (∀W:World,dH b t rest L LA Lc (dG L s) W->Calls prog 87 #[.pointer (some ⟨b,0,none⟩),.int .i64 3] W (jO b t rest L LA Lc (aW L f 3 (dG L s)) W)):=zH λW h=>IH 3 _ W (by omega) (by omega) h R (by omega)
  have n:=fO he f 3 _ R;have U:=n.opn;have P:=n.ok.opn;have X:=n.ok.lt;generalize dG L s=so at *;generalize aW L f 3 so=H at *;obtain⟨e5,s5⟩:=H;simp only at J U P X⊢;generalize(bC L s).pos=pos at *;clear IH D h x n
  go_enter func100,ntmps100
  have O:Bk (w.alloc (.cells #[(),"",(),(),.string ⟨#[]⟩,.string ⟨#[]⟩,()] 110)) w.heap.size 110 #[(),"",(),(),.string ⟨#[]⟩,.string ⟨#[]⟩,()]:=Bk.new w 110 _;have d:Below w w (w.alloc (.cells #[(),"",(),(),.string ⟨#[]⟩,.string ⟨#[]⟩,()] 110)):=zR.alloc zL _;have c:=HS.old d;go_wp2_with fail
  refine(j.out _ c).mono ?_;rintro r w1 ⟨rfl,a⟩;have k:=c.old a;have N:=O.old a;have l:=(below_grown d (some b)).trans (below_grown a (some b));clear c O a d j HS;go_wp2_with fail
  refine(A.out _ k).mono ?_;rintro r w2 ⟨rfl,E,n⟩;have Q:=N.grown n (aG (by omega));have e:=l.trans n;have ag:=Q.lt;clear k N l n A;go_wp2_with fail
  refine(J.out _ E).mono ?_;rintro r n ⟨cs,rfl,M,x,A⟩;obtain⟨y,u,G,F,z,C,B,rfl,hy⟩:=M.seven;have k3:=Q.grown A (aG (by omega));have S:=e.trans A;have ad:=A.size;clear E Q e A J;have kq:Bk (n.alloc (.cells #[(),"",(),(),.string ⟨#[]⟩,.string ⟨#[]⟩,()] 110)) n.heap.size 110 #[(),"",(),(),.string ⟨#[]⟩,.string ⟨#[]⟩,()]:=Bk.new n 110 _;have g:Below n n (n.alloc (.cells #[(),"",(),(),.string ⟨#[]⟩,.string ⟨#[]⟩,()] 110)):=zR.alloc zL _;have d2:=(x.old g).c2;have f2:=(x.old g).fr 2;obtain⟨H,A⟩:=zN (s5.opn-1)
  have af:(s5.opn:Int)-1=(H:Int):=by omega
  have ak:(s5.opn:Int)<=4001:=by omega
  have a4:=zH A;have a9:b<n.heap.size:=by omega
  clear A U I K d2 f2;go_upto_region 8 with(first|(refine ae cZ rfl _ _ rfl rfl [y,u,G,F,z,C,B] rfl kq rfl rfl hy ?_;intro I pA))
  have K:Below n n I:=pA.below _ _ g zL;have A:=x.old K;have U:=zH (M.old K);have kA:=k3.old K;have Z:=S.trans (below_grown K (some b));have XW:=pA.bk;obtain⟨v0,v1,v2,v3,v4,v5,v6⟩:=zc7 XW;have aa:=XW.lt;have d2:=A.c2;have f2:=A.fr 2;clear kq g pA K x M k3 S;go_upto_region 9 with fail
  clear d2 f2 v0 v1 v2 v3 v4 v5 v6;have a5:=A.set2 H;have a2:=zH (U.set (q:=b) (o:=2) (v:=.int .i64 (H:Int)) (by omega));have kB:=kA.far (p:=⟨b,2,none⟩) (by show w.heap.size≠b;omega) (.int .i64 (H:Int));have a8:=XW.far (p:=⟨b,2,none⟩) (by show n.heap.size≠b;omega) (.int .i64 (H:Int));have a6:=cO (o:=2) (v:=.int .i64 (H:Int)) Z;have a3:(I.setCell ⟨b,2,none⟩ (.int .i64 (H:Int))).heap.size=I.heap.size:=by simp
  clear A U kA Z XW;generalize I.setCell ⟨b,2,none⟩ (.int .i64 (H:Int))=K at *;obtain⟨v0,v1,v2,v3,v4,v5,v6⟩:=zc7 a8;have kC:Bk (K.alloc (.cells #[y,u,G,F,z,C,B] 110)) K.heap.size 110 #[y,u,G,F,z,C,B]:=Bk.new K 110 _;have x:Below K K (K.alloc (.cells #[y,u,G,F,z,C,B] 110)):=zR.alloc zL _;rw[a3]at kC;have Z:=a5.old x;have S:=zH (a2.old x);have U:=kB.old x;have a7:=a6.trans (below_grown x (some b));go_wp2_with (first|(refine kV rfl _ rfl rfl ?_)|(refine ae cZ rfl _ _ rfl rfl [.int .i64 15,.slice (some ⟨I.heap.size,0,none⟩) 1 1,.int .i64 0,.int .i64 0,.string ⟨#[]⟩,.string ⟨#[]⟩,.int .i64 pos] rfl U rfl rfl rfl ?_;intro w9 m))
  obtain⟨u0,u1,u2,u3,u4,u5,u6⟩:=zc7 m.bk;refine zFg (v:=.agg #[.int .i64 15,.slice (some ⟨I.heap.size,0,none⟩) 1 1,(),(),.string ⟨#[]⟩,.string ⟨#[]⟩,pos]) (by simp[results,results100,go_sem,u0,u1,u2,u3,u4,u5,u6]) rfl ?_;have A:=Z.fE m (by omega);rw[<-a4.out]at A;exact⟨_,rfl,⟨I.heap.size,[y,u,G,F,z,C,B],rfl,by omega,m.zJ kC (by omega),(S.put m (by omega)).more (by omega)⟩,A,fC a7 m zL⟩
theorem Jd (f:Nat) (IH:Ub b t rest L LA Lc f) (s:PS) (w:World) (h:dH b t rest L LA Lc s w) (he:dS L) (Y:iy L s) (hL:L.length<=4001) (hf:10*(L.length-s.i)+(8-7)<=f):
  Calls prog 100 #[.pointer (some ⟨b,0,none⟩),.int .i64 7] w (jO b t rest L LA Lc (sN L f 7 s) w):=by
 have a0:=h.bk.lt;have HS:=zH h;have a1:=Y.lt;have ab:=Y.opn
 have j:Hid (∀W:World,dH b t rest L LA Lc s W->Calls prog 37 #[.pointer (some ⟨b,0,none⟩),.string ⟨#[45]⟩] W λr w'=>r=.returned (.bool (fD L s [45]))/\Below W W w'):=zH λW h=>by
  have:=mP b t rest L LA Lc s W ⟨#[45]⟩ h Y.lt hL
  rwa [show(⟨#[45]⟩:ByteArray).toList=[45] by rw[zFm]]at this
 unfold sN;rw[show OM 7=[45]from rfl,show II 7=6 from rfl];obtain⟨bi,D⟩:=zN (fD L s [45])
 rw[D]at j⊢;cases bi
 case false=>
  as_aux_lemma=>
  rw[zF2 (by simp)];have J:Hid (∀W:World,dH b t rest L LA Lc s W->Calls prog 87 #[.pointer (some ⟨b,0,none⟩),.int .i64 8] W (jO b t rest L LA Lc (aW L f 8 s) W)):=zH λW h=>IH 8 s W (by omega) (by omega) h Y (by omega)
  generalize aW L f (7+1) s=x at *;clear IH D h
  go_enter func100,ntmps100
  have O:Bk (w.alloc (.cells #[(),"",(),(),.string ⟨#[]⟩,.string ⟨#[]⟩,()] 110)) w.heap.size 110 #[(),"",(),(),.string ⟨#[]⟩,.string ⟨#[]⟩,()]:=Bk.new w 110 _;have d:Below w w (w.alloc (.cells #[(),"",(),(),.string ⟨#[]⟩,.string ⟨#[]⟩,()] 110)):=zR.alloc zL _;have c:=HS.old d;go_wp2_with fail
  refine(j.out _ c).mono ?_;rintro r w1 ⟨rfl,a⟩;have k:=c.old a;have N:=O.old a;have l:=(below_grown d (some b)).trans (below_grown a (some b));have n:=N.lt;clear c O a d j HS;go_wp2_with fail
  refine(J.out _ k).mono ?_;rintro r w2 ⟨cs,rfl,M,E,e⟩;obtain⟨y,u,G,F,z,C,B,rfl,hy⟩:=M.seven;have Q:=N.grown e (aG (by omega));have A:=l.trans e;have g:b<w.heap.size:=a0;clear k N J e l;go_wp2_with (first|(refine ae cZ rfl _ _ rfl rfl [y,u,G,F,z,C,B] rfl Q rfl rfl hy ?_;intro w9 m))
  obtain⟨u0,u1,u2,u3,u4,u5,u6⟩:=zc7 m.bk;refine zFg (v:=.agg #[y,u,G,F,z,C,B]) (by simp[results,results100,go_sem,u0,u1,u2,u3,u4,u5,u6]) rfl ?_;exact⟨[y,u,G,F,z,C,B],rfl,(M.put m n).more (by omega),E.fE m g,fC A m zL⟩
 case true=>
  as_aux_lemma=>
  rw[zF3 rfl];have x:=bM D;obtain⟨R,K,I⟩:=jk he Y x;have A:Hid (∀W:World,dH b t rest L LA Lc s W->Calls prog 112 #[.pointer (some ⟨b,0,none⟩)] W λr w'=>r=.returned (.int .i64 ((bC L s).pos:Nat))/\Steps b t rest L LA Lc (dG L s) W w'):=zH λW h=>open_any b t rest L LA Lc s W h a1 hL (by omega)
  have J:Hid (∀W:World,dH b t rest L LA Lc (dG L s) W->Calls prog 87 #[.pointer (some ⟨b,0,none⟩),.int .i64 7] W (jO b t rest L LA Lc (aW L f 7 (dG L s)) W)):=zH λW h=>IH 7 _ W (by omega) (by omega) h R (by omega)
  have n:=fO he f 7 _ R;have U:=n.opn;have P:=n.ok.opn;have X:=n.ok.lt;generalize dG L s=so at *;generalize aW L f 7 so=H at *;obtain⟨e5,s5⟩:=H;simp only at J U P X⊢;generalize(bC L s).pos=pos at *;clear IH D h x n
  go_enter func100,ntmps100
  have O:Bk (w.alloc (.cells #[(),"",(),(),.string ⟨#[]⟩,.string ⟨#[]⟩,()] 110)) w.heap.size 110 #[(),"",(),(),.string ⟨#[]⟩,.string ⟨#[]⟩,()]:=Bk.new w 110 _;have d:Below w w (w.alloc (.cells #[(),"",(),(),.string ⟨#[]⟩,.string ⟨#[]⟩,()] 110)):=zR.alloc zL _;have c:=HS.old d;go_wp2_with fail
  refine(j.out _ c).mono ?_;rintro r w1 ⟨rfl,a⟩;have k:=c.old a;have N:=O.old a;have l:=(below_grown d (some b)).trans (below_grown a (some b));clear c O a d j HS;go_wp2_with fail
  refine(A.out _ k).mono ?_;rintro r w2 ⟨rfl,E,n⟩;have Q:=N.grown n (aG (by omega));have e:=l.trans n;have ag:=Q.lt;clear k N l n A;go_wp2_with fail
  refine(J.out _ E).mono ?_;rintro r n ⟨cs,rfl,M,x,A⟩;obtain⟨y,u,G,F,z,C,B,rfl,hy⟩:=M.seven;have k3:=Q.grown A (aG (by omega));have S:=e.trans A;have ad:=A.size;clear E Q e A J;have kq:Bk (n.alloc (.cells #[(),"",(),(),.string ⟨#[]⟩,.string ⟨#[]⟩,()] 110)) n.heap.size 110 #[(),"",(),(),.string ⟨#[]⟩,.string ⟨#[]⟩,()]:=Bk.new n 110 _;have g:Below n n (n.alloc (.cells #[(),"",(),(),.string ⟨#[]⟩,.string ⟨#[]⟩,()] 110)):=zR.alloc zL _;have d2:=(x.old g).c2;have f2:=(x.old g).fr 2;obtain⟨H,A⟩:=zN (s5.opn-1)
  have af:(s5.opn:Int)-1=(H:Int):=by omega
  have ak:(s5.opn:Int)<=4001:=by omega
  have a4:=zH A;have a9:b<n.heap.size:=by omega
  clear A U I K d2 f2;go_upto_region 8 with(first|(refine ae cZ rfl _ _ rfl rfl [y,u,G,F,z,C,B] rfl kq rfl rfl hy ?_;intro I pA))
  have K:Below n n I:=pA.below _ _ g zL;have A:=x.old K;have U:=zH (M.old K);have kA:=k3.old K;have Z:=S.trans (below_grown K (some b));have XW:=pA.bk;obtain⟨v0,v1,v2,v3,v4,v5,v6⟩:=zc7 XW;have aa:=XW.lt;have d2:=A.c2;have f2:=A.fr 2;clear kq g pA K x M k3 S;go_upto_region 9 with fail
  clear d2 f2 v0 v1 v2 v3 v4 v5 v6;have a5:=A.set2 H;have a2:=zH (U.set (q:=b) (o:=2) (v:=.int .i64 (H:Int)) (by omega));have kB:=kA.far (p:=⟨b,2,none⟩) (by show w.heap.size≠b;omega) (.int .i64 (H:Int));have a8:=XW.far (p:=⟨b,2,none⟩) (by show n.heap.size≠b;omega) (.int .i64 (H:Int));have a6:=cO (o:=2) (v:=.int .i64 (H:Int)) Z;have a3:(I.setCell ⟨b,2,none⟩ (.int .i64 (H:Int))).heap.size=I.heap.size:=by simp
  clear A U kA Z XW;generalize I.setCell ⟨b,2,none⟩ (.int .i64 (H:Int))=K at *;obtain⟨v0,v1,v2,v3,v4,v5,v6⟩:=zc7 a8;have kC:Bk (K.alloc (.cells #[y,u,G,F,z,C,B] 110)) K.heap.size 110 #[y,u,G,F,z,C,B]:=Bk.new K 110 _;have x:Below K K (K.alloc (.cells #[y,u,G,F,z,C,B] 110)):=zR.alloc zL _;rw[a3]at kC;have Z:=a5.old x;have S:=zH (a2.old x);have U:=kB.old x;have a7:=a6.trans (below_grown x (some b));go_wp2_with (first|(refine kV rfl _ rfl rfl ?_)|(refine ae cZ rfl _ _ rfl rfl [.int .i64 6,.slice (some ⟨I.heap.size,0,none⟩) 1 1,.int .i64 0,.int .i64 0,.string ⟨#[]⟩,.string ⟨#[]⟩,.int .i64 pos] rfl U rfl rfl rfl ?_;intro w9 m))
  obtain⟨u0,u1,u2,u3,u4,u5,u6⟩:=zc7 m.bk;refine zFg (v:=.agg #[.int .i64 6,.slice (some ⟨I.heap.size,0,none⟩) 1 1,(),(),.string ⟨#[]⟩,.string ⟨#[]⟩,pos]) (by simp[results,results100,go_sem,u0,u1,u2,u3,u4,u5,u6]) rfl ?_;have A:=Z.fE m (by omega);rw[<-a4.out]at A;exact⟨_,rfl,⟨I.heap.size,[y,u,G,F,z,C,B],rfl,by omega,m.zJ kC (by omega),(S.put m (by omega)).more (by omega)⟩,A,fC a7 m zL⟩
end
end Go.Proofs.YtbjnhllkdilpfaaGreat
