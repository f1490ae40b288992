/- Part 11 of the proof. No conditions. -/
import Derived.Test.YtbjnhllkdilpfaaZc10
namespace Go.Proofs.Ytbjnhllkdilpfaa
open Go.RowKit
set_option maxRecDepth 100000
set_option maxHeartbeats 16000000
set_option linter.unusedVariables false
set_option linter.unusedSimpArgs false
section
variable (b:Nat) (t:TypeId) (rest:List Value) (L:List az) (LA:Option Addr) (Lc:Nat)
def jd (r:ax×PS) (w:World) (e:Ending) (w':World):Prop:=
 ∃cs,e=.returned (.agg cs.toArray)/\kZ (fun g=>w.heap.size<=g) w' r.1 cs/\dh b t rest L LA Lc r.2 w'/\w.grownBy w' (some b)
def QP (f:Nat):Prop:=∀(level:Nat) (s:PS) (w:World),1<=level->level<=8->dh b t rest L LA Lc s w->gG L s->10*(L.length-s.i)+(9-level)<=f->
 Calls Try.prog 80 #[.pointer (some ⟨b,0,none⟩),.int .i64 level] w (jd b t rest L LA Lc (aN L f level s) w)
end
theorem eG {w W W':World} {b g:Nat} {t:TypeId} {cs:Array Value} (h:w.grownBy W (some b)) (hp:lH W g t cs W') (hg:w.heap.size<=g):w.grownBy W' (some b):=
 ⟨hp.grown.os.trans h.os,hp.grown.tape.trans h.tape,hp.grown.output.trans h.output,by rw[hp.size];exact h.size,fun k hk hne=>(hp.other k (by omega)).trans (h.block k hk hne)⟩
structure uY (b:Nat) (t:TypeId) (rest:List Value) (L:List az) (LA:Option Addr) (Lc:Nat) (gr gt gx:Nat) (T:az) (w:World) (cs:List Value) (x:PS) (W:World):Prop where
 st:dh b t rest L LA Lc x W
 kr:Bk W gr 118 (gK 0 0 0 [] [] 0).toArray
 kt:Bk W gt 102 #[.int .i64 T.kind,.string (bytes T.text),.int .i64 T.n,.int .i64 T.scale,.int .i64 T.pos]
 kx:Bk W gx 118 cs.toArray
 gw:w.grownBy W (some b)
structure N7 (b gr gt gx:Nat) (w:World):Prop where
 h1:b<w.heap.size
 h2:w.heap.size<=gr
 h3:gr<gt
 h4:gt<gx
section
variable {b:Nat} {t:TypeId} {rest:List Value} {L:List az} {LA:Option Addr} {Lc gr gt gx:Nat} {T:az} {w W W':World} {cs:List Value} {x x':PS}
theorem uY.old (h:uY b t rest L LA Lc gr gt gx T w cs x W) (hb:Below W.heap.size W W'):uY b t rest L LA Lc gr gt gx T w cs x W':=
 ⟨h.st.old hb,h.kr.old hb,h.kt.old hb,h.kx.old hb,h.gw.trans (below_grown hb _)⟩
theorem aA {g b:Nat} (h:g≠b):some g≠some b:=fun e=>h (by injection e)
theorem uY.steps (h:uY b t rest L LA Lc gr gt gx T w cs x W) (hf:N7 b gr gt gx w) (hs:dh b t rest L LA Lc x' W') (hg:W.grownBy W' (some b)):uY b t rest L LA Lc gr gt gx T w cs x' W':=
 have:=hf.h1;have:=hf.h2;have:=hf.h3;have:=hf.h4
 ⟨hs,h.kr.grown hg (aA (by omega)),h.kt.grown hg (aA (by omega)),h.kx.grown hg (aA (by omega)),h.gw.trans hg⟩
theorem uY.put (h:uY b t rest L LA Lc gr gt gx T w cs x W) (hf:N7 b gr gt gx w) (i:Nat) (v:Value):uY b t rest L LA Lc gr gt gx T w (cs.set i v) x (W.setCell ⟨gx,i,none⟩ v):=
 have:=hf.h1;have:=hf.h2;have:=hf.h3;have:=hf.h4
 ⟨h.st.far (by omega) v,h.kr.far (p:=⟨gx,i,none⟩) (by show gr≠gx;omega) v,h.kt.far (p:=⟨gx,i,none⟩) (by show gt≠gx;omega) v,by simpa using h.kx.put i v,vT h.gw (by omega)⟩
theorem uY.jC (h:uY b t rest L LA Lc gr gt gx T w cs x W) (hf:N7 b gr gt gx w) {ds:List Value} (hp:lH W gx 118 ds.toArray W'):uY b t rest L LA Lc gr gt gx T w ds x W':=
 have:=hf.h1;have:=hf.h2;have:=hf.h3;have:=hf.h4
 ⟨⟨hp.BQ h.st.bk (by omega),h.st.rd.below (hp.below _ _ zR (by omega))⟩,hp.BQ h.kr (by omega),hp.BQ h.kt (by omega),hp.bk,eG h.gw hp (by omega)⟩
end
theorem uY.drew {b:Nat} {t:TypeId} {rest:List Value} {L:List az} {LA:Option Addr} {Lc gr gt gx:Nat} {T:az} {w W:World} {cs:List Value} {x:PS} (h:uY b t rest L LA Lc gr gt gx T w cs x W):uY b t rest L LA Lc gr gt gx T w cs x W.drew:=h.old ⟨rfl,rfl,rfl,Nat.le_refl _,fun _ _=>rfl⟩
theorem uY.fin {b:Nat} {t:TypeId} {rest:List Value} {L:List az} {LA:Option Addr} {Lc gr gt gx:Nat} {T:az} {w W W':World} {cs:List Value} {x:PS} {ds:Array Value} (h:uY b t rest L LA Lc gr gt gx T w cs x W) (hf:N7 b gr gt gx w) (hp:lH W gr 118 ds W'):dh b t rest L LA Lc x W'/\w.grownBy W' (some b):=
 have:=hf.h1;have:=hf.h2
 ⟨⟨hp.BQ h.st.bk (by omega),h.st.rd.below (hp.below _ _ zR (by omega))⟩,eG h.gw hp (by omega)⟩
structure LfO (b:Nat) (t:TypeId) (rest:List Value) (L:List az) (LA:Option Addr) (Lc gr gx:Nat) (w:World) (r:ax×PS) (W:World):Prop where
 ok:∃cs,Bk W gx 118 cs.toArray/\kZ (fun g=>gx+1<=g) W r.1 cs
 st:dh b t rest L LA Lc r.2 W
 kr:Bk W gr 118 (gK 0 0 0 [] [] 0).toArray
 gw:w.grownBy W (some b)
theorem uY.o {b:Nat} {t:TypeId} {rest:List Value} {L:List az} {LA:Option Addr} {Lc gr gt gx:Nat} {T:az} {w W:World} {cs:List Value} {x:PS} (h:uY b t rest L LA Lc gr gt gx T w cs x W) {r:ax×PS} (h1:kZ (fun g=>gx+1<=g) W r.1 cs) (h2:x=r.2):LfO b t rest L LA Lc gr gx w r W:=
 ⟨⟨cs,h.kx,h1⟩,h2▸h.st,h.kr,h.gw⟩
theorem uY.c {b : Nat} {t : TypeId} {rest : List Value} {L : List az} {LA : Option Addr} {Lc gr gt gx : Nat} {T : az} {w W : World} {c0 c1 c2 c3 c4 c5 c6 : Value} {x : PS} (h : uY b t rest L LA Lc gr gt gx T w [c0, c1, c2, c3, c4, c5, c6] x W) :
  W.cell? ⟨gx,0,none⟩=some c0/\W.cell? ⟨gx,1,none⟩=some c1/\W.cell? ⟨gx,2,none⟩=some c2/\W.cell? ⟨gx,3,none⟩=some c3/\W.cell? ⟨gx,4,none⟩=some c4/\W.cell? ⟨gx,5,none⟩=some c5/\∀i,W.frozen? ⟨gx,i,none⟩=false:=
 ⟨h.kx.cell 0,h.kx.cell 1,h.kx.cell 2,h.kx.cell 3,h.kx.cell 4,h.kx.cell 5,h.kx.frozen⟩
theorem uY.tk {b : Nat} {t : TypeId} {rest : List Value} {L : List az} {LA : Option Addr} {Lc gr gt gx : Nat} {T : az} {w W : World} {cs : List Value} {x : PS} (h : uY b t rest L LA Lc gr gt gx T w cs x W) :
  W.cell? ⟨gt,0,none⟩=some (.int .i64 T.kind)/\W.cell? ⟨gt,1,none⟩=some (.string (bytes T.text))/\W.cell? ⟨gt,2,none⟩=some (.int .i64 T.n)/\W.cell? ⟨gt,3,none⟩=some (.int .i64 T.scale):=
 ⟨h.kt.cell 0,h.kt.cell 1,h.kt.cell 2,h.kt.cell 3⟩
theorem uY.inc {b:Nat} {t:TypeId} {rest:List Value} {L:List az} {LA:Option Addr} {Lc gr gt gx:Nat} {T:az} {w W:World} {cs:List Value} {x:PS} (h:uY b t rest L LA Lc gr gt gx T w cs x W) (hf:N7 b gr gt gx w):uY b t rest L LA Lc gr gt gx T w cs ⟨x.i+1,x.opn,x.err,x.pos⟩ (W.setCell ⟨b,1,none⟩ (.int .i64 ((x.i:Int)+1))):=
 h.steps hf (h.st.set1 (x.i+1)) (bF (World.grownBy.refl _ _))
section
variable (b:Nat) (t:TypeId) (rest:List Value) (L:List az) (LA:Option Addr) (Lc:Nat)
theorem QQ (f : Nat) (IH : QP b t rest L LA Lc f) (s : PS) (w : World) (h : dh b t rest L LA Lc s w) (he : dK L) (hi : gG L s) (hL : L.length ≤ 4001) (hf : 10 * (L.length - s.i) ≤ f) :
  Calls Try.prog 93 #[.pointer (some ⟨b,0,none⟩)] w (jd b t rest L LA Lc (qJ L (aN L f 1) s) w):=by
 have HT:Hid (∀W:World,dh b t rest L LA Lc s W->Calls Try.prog 54 #[.pointer (some ⟨b,0,none⟩)] W fun e w'=>e=.returned (aY L s).val/\Below W.heap.size W w'):=zH fun W h=>rY b t rest L LA Lc s W h hi.lt hL
 have N8:Hid (∀(S:ByteArray) (x:Str),S.toList=x->∀W:World,dh b t rest L LA Lc s W->Calls Try.prog 39 #[.pointer (some ⟨b,0,none⟩),.string S] W fun r w'=>r=.returned (.bool (eX L s x))/\Below W.heap.size W w'):=zH fun S x hx W h=>by
  have:=lu b t rest L LA Lc s W S h hi.lt hL
  rwa [hx]at this
 obtain⟨RES,hres⟩:∃R,qJ L (aN L f 1) s=R:=⟨_,rfl⟩
 have HKP:Hid (∀x,eX L s x=true->(aY L s).kind≠0):=zH fun x hx=>bn hx
 have En:Hid ((aY L s).kind≠0->bf L s (aI s)):=zH fun hk=>bf.next he hi hk
 have QR:Hid ((aY L s).kind≠0->gG L (cZ L s)/\(cZ L s).i=s.i+1/\(cZ L s).opn=s.opn+1):=zH fun hk=>iO he hi hk
 rw[hres];unfold qJ at hres;unfold az.val at HT;generalize hTT:aY L s=T at *;have HR:=zH hres;have HS:=zH h;have HIH:=zH IH;have hbw:=h.bk.lt;have hil:=hi.lt;have hio:=hi.opn;have HI:=zH hi;clear hres h IH hi
 go_enter Try.func93,Try.ntmps93
 go_wp2_with fail
 have k0:Bk (w.alloc (.cells #[.int .i64 0,.slice none 0 0,.int .i64 0,.int .i64 0,.string ⟨#[]⟩,.string ⟨#[]⟩,.int .i64 0] 118)) w.heap.size 118 (gK 0 0 0 [] [] 0).toArray:=Bk.new w 118 _;have hb0:Below w.heap.size w (w.alloc (.cells #[.int .i64 0,.slice none 0 0,.int .i64 0,.int .i64 0,.string ⟨#[]⟩,.string ⟨#[]⟩,.int .i64 0] 118)):=zR.alloc zL _;have hs0:=HS.out.old hb0;refine(HT.out _ hs0).mono ?_;rintro r w2 ⟨rfl,hb2⟩;have hs2:=hs0.old hb2;have k2:=k0.old hb2
 have hz2:w.heap.size+1<=w2.heap.size:=by
  have:=hb2.size;simp at this;omega
 have kt:=(Bk.new w2 102 #[.int .i64 T.kind,.string (bytes T.text),.int .i64 T.n,.int .i64 T.scale,.int .i64 T.pos])
 have kt2:=kt.alloc (.cells #[.int .i64 0,.slice none 0 0,.int .i64 0,.int .i64 0,.string ⟨#[]⟩,.string ⟨#[]⟩,.int .i64 T.pos] 118);have kx:Bk ((w2.alloc (.cells #[.int .i64 T.kind,.string (bytes T.text),.int .i64 T.n,.int .i64 T.scale,.int .i64 T.pos] 102)).alloc (.cells #[.int .i64 0,.slice none 0 0,.int .i64 0,.int .i64 0,.string ⟨#[]⟩,.string ⟨#[]⟩,.int .i64 T.pos] 118)) (w2.heap.size+1) 118 (gK 0 0 0 [] [] T.pos).toArray:=Bk.newAt (by simp) _ _;have hb3:Below w2.heap.size w2 ((w2.alloc (.cells #[.int .i64 T.kind,.string (bytes T.text),.int .i64 T.n,.int .i64 T.scale,.int .i64 T.pos] 102)).alloc (.cells #[.int .i64 0,.slice none 0 0,.int .i64 0,.int .i64 0,.string ⟨#[]⟩,.string ⟨#[]⟩,.int .i64 T.pos] 118)):=(zR.alloc zL _).alloc (by simp) _;have t4:=kt.cell 4;have hgw:w.grownBy ((w2.alloc (.cells #[.int .i64 T.kind,.string (bytes T.text),.int .i64 T.n,.int .i64 T.scale,.int .i64 T.pos] 102)).alloc (.cells #[.int .i64 0,.slice none 0 0,.int .i64 0,.int .i64 0,.string ⟨#[]⟩,.string ⟨#[]⟩,.int .i64 T.pos] 118)) (some b):=((below_grown hb0 _).trans (below_grown hb2 _)).trans (below_grown hb3 _);have HV:Hid (uY b t rest L LA Lc w.heap.size w2.heap.size (w2.heap.size+1) T w (gK 0 0 0 [] [] T.pos) s ((w2.alloc (.cells #[.int .i64 T.kind,.string (bytes T.text),.int .i64 T.n,.int .i64 T.scale,.int .i64 T.pos] 102)).alloc (.cells #[.int .i64 0,.slice none 0 0,.int .i64 0,.int .i64 0,.string ⟨#[]⟩,.string ⟨#[]⟩,.int .i64 T.pos] 118))):=zH ⟨hs2.old hb3,k2.old hb3,kt2,kx,hgw⟩
 have nK:Hid (N7 b w.heap.size w2.heap.size (w2.heap.size+1) w):=zH ⟨hbw,Nat.le_refl _,by omega,by omega⟩
 go_upto_block 0 with fail
 generalize(w2.alloc (.cells #[.int .i64 T.kind,.string (bytes T.text),.int .i64 T.n,.int .i64 T.scale,.int .i64 T.pos] 102)).alloc (.cells #[.int .i64 0,.slice none 0 0,.int .i64 0,.int .i64 0,.string ⟨#[]⟩,.string ⟨#[]⟩,.int .i64 T.pos] 118)=W at *;clear t4 kt kt2 kx hb3 hgw hs2 k2 hb2 hs0 k0 hb0 HT;generalize hgt:w2.heap.size=gt at *;generalize hgr:w.heap.size=gr at *;obtain⟨q0,hq0⟩:∃z,eX L s [40]=z:=⟨_,rfl⟩
 obtain⟨qT,hqT⟩:∃z,eX L s Gz=z:=⟨_,rfl⟩
 obtain⟨qF,hqF⟩:∃z,eX L s Ep=z:=⟨_,rfl⟩
 obtain⟨qR,hqR⟩:∃z,eX L s Md=z:=⟨_,rfl⟩
 obtain⟨qN,hqN⟩:∃z,eX L s Qx=z:=⟨_,rfl⟩
 have K0:=N8.out ⟨#[40]⟩ [40] (by rw[ByteArray.toList_eq]);have K1:=N8.out ⟨#[84,82,85,69]⟩ Gz (by rw[ByteArray.toList_eq];rfl);have K2:=N8.out ⟨#[70,65,76,83,69]⟩ Ep (by rw[ByteArray.toList_eq];rfl);have K3:=N8.out ⟨#[82,69,65,76]⟩ Md (by rw[ByteArray.toList_eq];rfl);have K4:=N8.out ⟨#[73,83,78,65,78]⟩ Qx (by rw[ByteArray.toList_eq];rfl);rw[hq0]at K0;rw[hqT]at K1;rw[hqF]at K2;rw[hqR]at K3;rw[hqN]at K4;have H0:=zH K0;have H1:=zH K1;have H2:=zH K2;have H3:=zH K3;have H4:=zH K4
 have HK:Hid ((q0||(qT||qF)||(qR||qN))=true->T.kind≠0):=zH fun h=>by
  simp only[Bool.or_eq_true]at h;rcases h with(h|h|h)|h|h
  ·exact HKP.out [40] (by rw[hq0];exact h)
  ·exact HKP.out Gz (by rw[hqT];exact h)
  ·exact HKP.out Ep (by rw[hqF];exact h)
  ·exact HKP.out Md (by rw[hqR];exact h)
  ·exact HKP.out Qx (by rw[hqN];exact h)
 have HQ:=zH (And.intro hq0 (And.intro hqT (And.intro hqF (And.intro hqR hqN))));have Pj:Hid (∀W:World,dh b t rest L LA Lc s W->Calls Try.prog 98 #[.pointer (some ⟨b,0,none⟩)] W fun r w'=>r=.returned (.int .i64 ((aY L s).pos:Nat))/\Steps b t rest L LA Lc (cZ L s) W w'):=zH fun W h=>open_any b t rest L LA Lc s W h hil hL (by omega)
 have qm:Hid (∀(x:PS) (W:World),dh b t rest L LA Lc x W->gG L x->s.i+1<=x.i->Calls Try.prog 80 #[.pointer (some ⟨b,0,none⟩),.int .i64 1] W (jd b t rest L LA Lc (aN L f 1 x) W)):=zH fun x W h ho hx=>HIH.out 1 x W (by omega) (by omega) h ho (by have:=ho.lt;omega)
 have pR:Hid (∀(c:UInt8) (x:PS) (W:World),dh b t rest L LA Lc x W->gG L x->Calls Try.prog 37 #[.pointer (some ⟨b,0,none⟩),.string ⟨#[c]⟩] W fun r w'=>r=.returned (.tuple #[])/\Steps b t rest L LA Lc (aJ L [c] x) W w'):=zH fun c x W h hx=>by
  have:=lZ b t rest L LA Lc x W ⟨#[c]⟩ h hx.lt hL
  rwa [show(⟨#[c]⟩:ByteArray).toList=[c] by rw[ByteArray.toList_eq]]at this
 have Yp:=zH he;have uH:=zH hL;clear hq0 hqT hqF hqR hqN N8 HKP HIH En he K0 K1 K2 K3 K4
 go_cut[] (fun wx=>Hid (LfO b t rest L LA Lc gr (gt+1) w RES wx))
 case first=>
  as_aux_lemma=>
  obtain⟨x0,x1,x2,x3,x4,x5,fx⟩:=HV.out.c;obtain⟨t0,t1,t2,t3⟩:=HV.out.tk
  by_cases h3:T.kind=3
  ·as_aux_lemma=>
   have hI:((T.kind:Int)==3)=true:=by rw[h3];rfl
   have hR:=HR.out;rw[if_pos h3]at hR;subst hR;go_upto_region 5 with fail
   go_region
   have V:=((HV.out.put nK.out 0 (.int .i64 20)).put nK.out 2 (.int .i64 T.n)).drew;clear x0 x1 x2 x3 x4 x5 fx t0 t1 t2 t3;generalize((W.setCell ⟨gt+1,0,none⟩ (.int .i64 20)).setCell ⟨gt+1,2,none⟩ (.int .i64 T.n)).drew=W2 at *;have d1:=V.st.c1;have g1:=V.st.fr 1;have V2:=zH (V.inc nK.out);clear V;go_wp2
   go_meet
   exact zH (V2.out.o rfl rfl)
  have h3I:((T.kind:Int)==3)=false:=zB (by omega)
  by_cases h4:T.kind=4
  ·as_aux_lemma=>
   have hI:((T.kind:Int)==4)=true:=by rw[h4];rfl
   have hR:=HR.out;rw[if_neg h3,if_pos h4]at hR;subst hR;go_upto_region 8 with fail
   go_region
   have V:=(((HV.out.put nK.out 0 (.int .i64 21)).put nK.out 2 (.int .i64 T.n)).put nK.out 3 (.int .i64 T.scale)).drew;clear x0 x1 x2 x3 x4 x5 fx t0 t1 t2 t3;generalize(((W.setCell ⟨gt+1,0,none⟩ (.int .i64 21)).setCell ⟨gt+1,2,none⟩ (.int .i64 T.n)).setCell ⟨gt+1,3,none⟩ (.int .i64 T.scale)).drew=W2 at *;have d1:=V.st.c1;have g1:=V.st.fr 1;have V2:=zH (V.inc nK.out);clear V;go_wp2
   go_meet
   exact zH (V2.out.o rfl rfl)
  have Pm:((T.kind:Int)==4)=false:=zB (by omega)
  by_cases h5:T.kind=5
  ·as_aux_lemma=>
   have hI:((T.kind:Int)==5)=true:=by rw[h5];rfl
   have hR:=HR.out;rw[if_neg h3,if_neg h4,if_pos h5]at hR;subst hR;go_upto_region 11 with fail
   go_region
   have V:=((HV.out.put nK.out 0 (.int .i64 23)).put nK.out 4 (.string (bytes T.text))).drew;clear x0 x1 x2 x3 x4 x5 fx t0 t1 t2 t3;generalize((W.setCell ⟨gt+1,0,none⟩ (.int .i64 23)).setCell ⟨gt+1,4,none⟩ (.string (bytes T.text))).drew=W2 at *;have d1:=V.st.c1;have g1:=V.st.fr 1;have V2:=zH (V.inc nK.out);clear V;go_wp2
   go_meet
   exact zH (V2.out.o rfl rfl)
  have h5I:((T.kind:Int)==5)=false:=zB (by omega)
  by_cases h2:T.kind=2
  ·as_aux_lemma=>
   have hI:((T.kind:Int)==2)=true:=by rw[h2];rfl
   have hR:=HR.out;rw[if_neg h3,if_neg h4,if_neg h5,if_pos h2]at hR;have zC:Hid (∀W:World,dh b t rest L LA Lc s W->Calls Try.prog 99 #[.pointer (some ⟨b,0,none⟩)] W fun r w'=>r=.returned (.tuple #[.string (bytes (ig L s).1),.string (bytes (ig L s).2.1)])/\Steps b t rest L LA Lc (ig L s).2.2 W w'):=zH fun W h=>DC b t rest L LA Lc s W h Yp.out HI.out uH.out
   generalize ig L s=rf at *;obtain⟨n6,a6,x6⟩:=rf;subst hR;go_upto_region 15 with fail
   have V:=HV.out.put nK.out 0 (.int .i64 24);clear x0 x1 x2 x3 x4 x5 fx t0 t1 t2 t3;generalize W.setCell ⟨gt+1,0,none⟩ (.int .i64 24)=W2 at *;go_wp2_with fail
   refine(zC.out _ V.st).mono ?_;rintro r W3 ⟨rfl,hs⟩;have V2:=V.steps nK.out hs.st hs.grown;obtain⟨x0,x1,x2,x3,x4,x5,fx⟩:=V2.c;have V3:=zH ((V2.put nK.out 4 (.string (bytes n6))).put nK.out 5 (.string (bytes a6)));clear V V2 hs zC;go_wp2
   go_meet
   exact zH (V3.out.o rfl rfl)
  have h2I:((T.kind:Int)==2)=false:=zB (by omega)
  have hR:=HR.out;rw[if_neg h3,if_neg h4,if_neg h5,if_neg h2,HQ.out.1,HQ.out.2.1,HQ.out.2.2.1,HQ.out.2.2.2.1,HQ.out.2.2.2.2]at hR;have HR:=zH hR;clear hR HQ x0 x1 x2 x3 x4 x5 fx t1 t2 t3;go_wp2_with fail
  refine(H0.out _ HV.out.st).mono ?_;rintro r W1 ⟨rfl,hb⟩;have yF:=zH (HV.out.old hb);clear hb HV t0 H0;cases q0
  case true=>
   as_aux_lemma=>
   obtain⟨ho1,ho2,ho3⟩:=QR.out (HK.out rfl);have hgo:=fB Yp.out f 1 (cZ L s) ho1;have hg2:=hgo.trans (bf.need Yp.out [41] hgo.ok);have AU:=hg2.opn;have hok2:=hg2.ok.opn;have hlt2:=hg2.ok.lt;have hR:((aN L f 1 (cZ L s)).1,Aw (aJ L [41] (aN L f 1 (cZ L s)).2))=RES:=HR.out;have vP:=zH (fun W h=>qm.out (cZ L s) W h ho1 (by omega));have tK:=zH (fun W h=>pR.out 41 (aN L f 1 (cZ L s)).2 W h hgo.ok);clear qm pR HR HK H1 H2 H3 H4 QR hgo hg2;go_wp2_with fail
   refine(Pj.out _ yF.out.st).mono ?_;rintro r W2 ⟨rfl,hs⟩;have V:=yF.out.steps nK.out hs.st hs.grown;have hz:=V.kx.lt;clear hs Pj yF;generalize cZ L s=so at *;generalize aN L f 1 so=rr at *;obtain⟨e5,s5⟩:=rr;simp only at vP tK hR AU hok2 hlt2;go_wp2_with fail
   refine(vP.out _ V.st).mono ?_;rintro r W3 ⟨cs,rfl,hE,hs,hg⟩;have V:=V.steps nK.out hs hg;obtain⟨y0,y1,y2,y3,y4,y5,y6,rfl,hy⟩:=hE.seven;have hE:=hE.more (show gt+1+1<=_ by omega);have kx:=V.kx;clear hs hg vP;go_wp2_with (first|(refine ae bV rfl _ _ rfl rfl [y0,y1,y2,y3,y4,y5,y6] rfl kx rfl rfl hy ?_;intro W4 p4))
   have V:=V.jC nK.out p4;have hE:=hE.put p4 (by omega);clear kx p4;go_wp2_with fail
   refine(tK.out _ V.st).mono ?_;rintro r W5 ⟨rfl,hs⟩;have V:=V.steps nK.out hs.st hs.grown;have hE:=hE.grown hs.grown (by omega);clear hs tK;generalize aJ L [41] s5=s6 at *;have d2:=V.st.c2;have g2:=V.st.fr 2;obtain⟨on,hon⟩:∃n,s6.opn-1=n:=⟨_,rfl⟩
   have Yq:(s6.opn:Int)-1=(on:Int):=by omega
   have Yr:(s6.opn:Int)<=4001:=by omega
   have V2:=zH (V.steps nK.out (V.st.set2 on) (bF (World.grownBy.refl _ _)));have HE:=zH (hE.set (q:=b) (o:=2) (v:=.int .i64 (on:Int)) (by omega));subst hR;have Yt:=zH hon;clear hon V hE AU hok2 hlt2;go_wp2
   go_meet
   exact zH (V2.out.o HE.out (by rw[<-Yt.out];rfl))
  case false=>
  have hR:(if(qT||qF)=true then(.leaf 22 (if qT=true then 1 else 0) 0 [] [] T.pos,aI s)else if(qR||qN)=true then(.un (if qN=true then 17 else 16) (aN L f 1 (aJ L [40] (cZ L s))).1 T.pos,Aw (aJ L [41] (aN L f 1 (aJ L [40] (cZ L s))).2))else fA L T.pos s)=RES:=HR.out;have HR:=zH hR;clear hR;go_upto_region 21 with fail
  go_cut[88] (fun v wx=>v=.bool (qT||qF)/\Hid (uY b t rest L LA Lc gr gt (gt+1) T w (gK 0 0 0 [] [] T.pos) s wx))
  case first=>
   as_aux_lemma=>
   go_wp2_with fail
   refine(H1.out _ yF.out.st).mono ?_;rintro r W2 ⟨rfl,hb⟩;have HW:=zH (yF.out.old hb);clear hb;cases qT
   ·go_wp2_with fail
    refine(H2.out _ HW.out.st).mono ?_;rintro r W3 ⟨rfl,hb⟩;have HX:=zH (HW.out.old hb);clear hb;go_wp2
    go_meet
    exact⟨rfl,HX⟩
   ·go_wp2
    go_meet
    exact⟨rfl,HW⟩
  case rest=>
  obtain⟨rfl,iy⟩:=hcut;clear yF;cases hqq:(qT||qF)
  case true=>
   as_aux_lemma=>
   have hR:=HR.out;rw[if_pos hqq]at hR;have HRR:=zH hR;clear hqq hR;obtain⟨x0,x1,x2,x3,x4,x5,fx⟩:=iy.out.c;go_upto_region 23 with fail
   have V:=iy.out.put nK.out 0 (.int .i64 22);clear x0 x1 x2 x3 x4 x5 fx;generalize wc.setCell ⟨gt+1,0,none⟩ (.int .i64 22)=W5 at *;go_wp2_with fail
   refine(H1.out _ V.st).mono ?_;rintro r W6 ⟨rfl,hb⟩;have V:=V.old hb;clear hb;cases qT
   ·have d1:=V.st.c1;have g1:=V.st.fr 1;have V2:=zH (V.inc nK.out);clear V;go_wp2
    go_meet
    exact zH (by rw[<-HRR.out];exact V2.out.o rfl rfl)
   ·obtain⟨x0,x1,x2,x3,x4,x5,fx⟩:=V.c;go_upto_region 25 with fail
    have V:=V.put nK.out 2 (.int .i64 1);clear x0 x1 x2 x3 x4 x5 fx;generalize W6.setCell ⟨gt+1,2,none⟩ (.int .i64 1)=W7 at *;have d1:=V.st.c1;have g1:=V.st.fr 1;have V2:=zH (V.inc nK.out);clear V;go_wp2
    go_meet
    exact zH (by rw[<-HRR.out];exact V2.out.o rfl rfl)
  case false=>
  have hR:=HR.out;rw[if_neg (by rw[hqq];decide)]at hR;have HR:=zH hR;clear hR hqq;go_upto_region 26 with fail
  go_cut[106] (fun v wx=>v=.bool (qR||qN)/\Hid (uY b t rest L LA Lc gr gt (gt+1) T w (gK 0 0 0 [] [] T.pos) s wx))
  case first=>
   as_aux_lemma=>
   go_wp2_with fail
   refine(H3.out _ iy.out.st).mono ?_;rintro r W2 ⟨rfl,hb⟩;have HW:=zH (iy.out.old hb);clear hb;cases qR
   ·go_wp2_with fail
    refine(H4.out _ HW.out.st).mono ?_;rintro r W3 ⟨rfl,hb⟩;have HX:=zH (HW.out.old hb);clear hb;go_wp2
    go_meet
    exact⟨rfl,HX⟩
   ·go_wp2
    go_meet
    exact⟨rfl,HW⟩
  case rest=>
  obtain⟨rfl,oL⟩:=hcut;clear iy;cases hqq:(qR||qN)
  case true=>
   as_aux_lemma=>
   have hR:=HR.out;rw[if_pos hqq]at hR;obtain⟨ho1,ho2,ho3⟩:=QR.out (HK.out (by rw[hqq];simp));have gn:=bf.need Yp.out [40] ho1;have hle0:=gn.le;have hgo:=gn.trans (fB Yp.out f 1 _ gn.ok);have hg2:=hgo.trans (bf.need Yp.out [41] hgo.ok);have AU:=hg2.opn;have hok2:=hg2.ok.opn;have hlt2:=hg2.ok.lt;have vP:=zH (fun W h=>qm.out (aJ L [40] (cZ L s)) W h gn.ok (by omega));have HN0:=zH (fun W h=>pR.out 40 (cZ L s) W h ho1);have tK:=zH (fun W h=>pR.out 41 (aN L f 1 (aJ L [40] (cZ L s))).2 W h hgo.ok);have HRR:=zH hR;clear qm pR HR HK H1 H2 H3 QR hgo hg2 gn hqq hR hle0;obtain⟨x0,x1,x2,x3,x4,x5,fx⟩:=oL.out.c;go_upto_region 28 with fail
   have V:=oL.out.put nK.out 0 (.int .i64 16);clear x0 x1 x2 x3 x4 x5 fx;generalize wc.setCell ⟨gt+1,0,none⟩ (.int .i64 16)=W5 at *;go_wp2_with fail
   refine(H4.out _ V.st).mono ?_;rintro r W6 ⟨rfl,hb⟩;have V:=V.old hb;clear hb;go_upto_if 115 with fail
   go_cut[] (fun wx=>Hid (uY b t rest L LA Lc gr gt (gt+1) T w (gK (if qN=true then 17 else 16) 0 0 [] [] T.pos) s wx))
   case first=>
    as_aux_lemma=>
    cases qN
    ·have HW:=zH V;clear V;go_wp2
     go_meet
     exact HW
    ·obtain⟨x0,x1,x2,x3,x4,x5,fx⟩:=V.c;have HW:=zH (V.put nK.out 0 (.int .i64 17));clear V;go_wp2
     go_meet
     exact HW
   case rest=>
   have V:=hcut.out;clear hcut H4;obtain⟨op,hop⟩:∃z,(if qN=true then 17 else 16)=z:=⟨_,rfl⟩
   have hR:=HRR.out;rw[hop]at V hR;clear hop HRR;go_wp2_with fail
   refine(Pj.out _ V.st).mono ?_;rintro r W7 ⟨rfl,hs⟩;have V:=V.steps nK.out hs.st hs.grown;clear hs Pj;generalize cZ L s=so at *;go_wp2_with fail
   refine(HN0.out _ V.st).mono ?_;rintro r W8 ⟨rfl,hs⟩;have V:=V.steps nK.out hs.st hs.grown;have hz:=V.kx.lt;clear hs HN0;generalize aJ L [40] so=sn at *;generalize aN L f 1 sn=rr at *;obtain⟨e5,s5⟩:=rr;simp only at vP tK hR AU hok2 hlt2;go_wp2_with fail
   refine(vP.out _ V.st).mono ?_;rintro r W9 ⟨cs,rfl,hE,hs,hg⟩;have V:=V.steps nK.out hs hg;have hzz:=hg.size;obtain⟨y0,y1,y2,y3,y4,y5,y6,rfl,hy⟩:=hE.seven;have hE:=hE.more (show gt+1+1<=_ by omega);clear hs hg vP;obtain⟨gb,hgb⟩:∃z,W9.heap.size=z:=⟨_,rfl⟩
   have hbb:Below W9.heap.size W9 (W9.alloc (.cells #[y0,y1,y2,y3,y4,y5,y6] 118)):=zR.alloc zL _;have kb:Bk (W9.alloc (.cells #[y0,y1,y2,y3,y4,y5,y6] 118)) gb 118 #[y0,y1,y2,y3,y4,y5,y6]:=Bk.newAt hgb.symm _ _;have V:=V.old hbb;have hE:=hE.old hbb;obtain⟨x0,x1,x2,x3,x4,x5,fx⟩:=V.c;have V:=V.put nK.out 1 (.slice (some ⟨gb,0,none⟩) 1 1);have hE:=hE.set (q:=gt+1) (o:=1) (v:=.slice (some ⟨gb,0,none⟩) 1 1) (by omega);have kb:=kb.far (p:=⟨gt+1,1,none⟩) (by show gb≠gt+1;omega) (.slice (some ⟨gb,0,none⟩) 1 1);clear hbb;go_wp2_with (first|(refine jL rfl _ rfl rfl ?_))
   refine(tK.out _ V.st).mono ?_;rintro r Yd ⟨rfl,hs⟩;have V:=V.steps nK.out hs.st hs.grown;have hE:=hE.grown hs.grown (by omega);have kb:=kb.grown hs.grown (aA (by omega));clear hs tK x0 x1 x2 x3 x4 x5 fx;generalize aJ L [41] s5=s6 at *;have d2:=V.st.c2;have g2:=V.st.fr 2;obtain⟨on,hon⟩:∃n,s6.opn-1=n:=⟨_,rfl⟩
   have Yq:(s6.opn:Int)-1=(on:Int):=by omega
   have Yr:(s6.opn:Int)<=4001:=by omega
   have V2:=zH (V.steps nK.out (V.st.set2 on) (bF (World.grownBy.refl _ _)));have HE:=zH (hE.set (q:=b) (o:=2) (v:=.int .i64 (on:Int)) (by omega));have KB:=zH (kb.far (p:=⟨b,2,none⟩) (by show gb≠b;omega) (.int .i64 (on:Int)));subst hR;have Yt:=zH hon;have hgz:gt+1+1<=gb:=by omega
   clear hon V hE kb AU hok2 hlt2 hgb;go_wp2
   go_meet
   exact zH (V2.out.o ⟨gb,[y0,y1,y2,y3,y4,y5,y6],rfl,hgz,KB.out,HE.out⟩ (by rw[<-Yt.out];rfl))
  case false=>
  have hR:=HR.out;rw[if_neg (by rw[hqq];decide)]at hR;clear hqq HR qm pR Pj HK H1 H2 H3 H4 QR;go_wp2_with fail
  refine(Cm b t rest L LA Lc s _ (gt+1) T.pos oL.out.st Yp.out HI.out uH.out oL.out.kx (by have:=nK.out.h1;have:=nK.out.h2;have:=nK.out.h3;omega)).mono ?_;rintro r W8 ⟨rfl,-,op,n,a,hra,hkx,hst5,hfr,hsz5,hot⟩;have hgx:=oL.out.kx.lt
  have HO:Hid (LfO b t rest L LA Lc gr (gt+1) w RES W8):=zH (by
   have:=nK.out.h1;have:=nK.out.h2;have:=nK.out.h3;rw[<-hR]
   exact⟨⟨_,hkx,by rw[hra];rfl⟩,hst5,(hot gr (by omega) (by omega) (by omega)).trans oL.out.kr,hfr w oL.out.gw (by omega)⟩)
  clear hra hkx hst5 hfr hsz5 hot hR;go_wp2
  go_meet
  exact HO
 case rest=>
 clear HV HR Pj qm pR HQ HK H0 H1 H2 H3 H4 QR;obtain⟨cs,kx,hE⟩:=hcut.out.ok;obtain⟨y0,y1,y2,y3,y4,y5,y6,rfl,hy⟩:=hE.seven;obtain⟨x0,x1,x2,x3,x4,x5,x6⟩:=zc7 kx;simp only[List.getElem?_toArray,List.getElem?_cons_zero,List.getElem?_cons_succ]at x0 x1 x2 x3 x4 x5 x6;have kr:=hcut.out.kr;go_wp2_with (first|(refine ae bV rfl _ _ rfl rfl [y0,y1,y2,y3,y4,y5,y6] rfl kr rfl rfl hy ?_;intro w9 p9))
 obtain⟨u0,u1,u2,u3,u4,u5,u6⟩:=zc7 p9.bk;have h1:=nK.out.h1;have h2:=nK.out.h2;have h3:=nK.out.h3;refine bodyPost_ret (v:=.agg #[y0,y1,y2,y3,y4,y5,y6]) (by simp[results,Try.results93,go_sem,u0,u1,u2,u3,u4,u5,u6]) rfl ?_;exact⟨_,rfl,(hE.put p9 (by omega)).more (by omega),⟨p9.BQ hcut.out.st.bk (by omega),hcut.out.st.rd.below (p9.below _ _ zR (by omega))⟩,eG hcut.out.gw p9 (by omega)⟩
end
theorem dh.jC {b q:Nat} {t u:TypeId} {rest:List Value} {L:List az} {LA:Option Addr} {Lc:Nat} {s:PS} {w w':World} {ds:Array Value} (h:dh b t rest L LA Lc s w) (hp:lH w q u ds w') (hq:b<q):dh b t rest L LA Lc s w':=
 ⟨hp.BQ h.bk (by omega),h.rd.below (hp.below _ _ zR (by omega))⟩
def uj (L:List az) (f level:Nat) (s:PS):ax×PS:=if eX L s (Mc level)=true then(.un (Gy level) (aN L f level (cZ L s)).1 (aY L s).pos,Aw (aN L f level (cZ L s)).2)else aN L f (level+1) s
section
variable (b:Nat) (t:TypeId) (rest:List Value) (L:List az) (LA:Option Addr) (Lc:Nat)
theorem GX (f : Nat) (IH : QP b t rest L LA Lc f) (s : PS) (w : World) (h : dh b t rest L LA Lc s w) (he : dK L) (hi : gG L s) (hL : L.length ≤ 4001) (hf : 10 * (L.length - s.i) + (8 - 3) ≤ f) :
  Calls Try.prog 92 #[.pointer (some ⟨b,0,none⟩),.int .i64 3] w (jd b t rest L LA Lc (uj L f 3 s) w):=by
 have hbw:=h.bk.lt;have HS:=zH h;have hil:=hi.lt;have hio:=hi.opn
 have HIS:Hid (∀W:World,dh b t rest L LA Lc s W->Calls Try.prog 39 #[.pointer (some ⟨b,0,none⟩),.string ⟨#[78,79,84]⟩] W fun r w'=>r=.returned (.bool (eX L s [78,79,84]))/\Below W.heap.size W w'):=zH fun W h=>by
  have:=lu b t rest L LA Lc s W ⟨#[78,79,84]⟩ h hi.lt hL
  rwa [show(⟨#[78,79,84]⟩:ByteArray).toList=[78,79,84] by rw[ByteArray.toList_eq]]at this
 unfold uj;rw[show Mc 3=[78,79,84]from rfl,show Gy 3=15 from rfl];obtain⟨bi,hbi⟩:∃z,eX L s [78,79,84]=z:=⟨_,rfl⟩
 rw[hbi]at HIS⊢;cases bi
 case false=>
  as_aux_lemma=>
  rw[if_neg (by simp)];have qm:Hid (∀W:World,dh b t rest L LA Lc s W->Calls Try.prog 80 #[.pointer (some ⟨b,0,none⟩),.int .i64 4] W (jd b t rest L LA Lc (aN L f 4 s) W)):=zH fun W h=>IH 4 s W (by omega) (by omega) h hi (by omega)
  generalize aN L f (3+1) s=RES at *;clear IH hbi h
  go_enter Try.func92,Try.ntmps92
  have k0:Bk (w.alloc (.cells #[.int .i64 0,.slice none 0 0,.int .i64 0,.int .i64 0,.string ⟨#[]⟩,.string ⟨#[]⟩,.int .i64 0] 118)) w.heap.size 118 #[.int .i64 0,.slice none 0 0,.int .i64 0,.int .i64 0,.string ⟨#[]⟩,.string ⟨#[]⟩,.int .i64 0]:=Bk.new w 118 _;have hb0:Below w.heap.size w (w.alloc (.cells #[.int .i64 0,.slice none 0 0,.int .i64 0,.int .i64 0,.string ⟨#[]⟩,.string ⟨#[]⟩,.int .i64 0] 118)):=zR.alloc zL _;have hs0:=HS.out.old hb0;go_wp2_with fail
  refine(HIS.out _ hs0).mono ?_;rintro r w1 ⟨rfl,hb1⟩;have hs1:=hs0.old hb1;have k1:=k0.old hb1;have hg1:=(below_grown hb0 (some b)).trans (below_grown hb1 (some b));have hz1:=k1.lt;clear hs0 k0 hb1 hb0 HIS HS;go_wp2_with fail
  refine(qm.out _ hs1).mono ?_;rintro r w2 ⟨cs,rfl,hE,hs2,hg2⟩;obtain⟨y0,y1,y2,y3,y4,y5,y6,rfl,hy⟩:=hE.seven;have k2:=k1.grown hg2 (aA (by omega));have hg:=hg1.trans hg2;have hbq:b<w.heap.size:=hbw;clear hs1 k1 qm hg2 hg1;go_wp2_with (first|(refine ae bV rfl _ _ rfl rfl [y0,y1,y2,y3,y4,y5,y6] rfl k2 rfl rfl hy ?_;intro w9 p9))
  obtain⟨u0,u1,u2,u3,u4,u5,u6⟩:=zc7 p9.bk;refine bodyPost_ret (v:=.agg #[y0,y1,y2,y3,y4,y5,y6]) (by simp[results,Try.results92,go_sem,u0,u1,u2,u3,u4,u5,u6]) rfl ?_;exact⟨[y0,y1,y2,y3,y4,y5,y6],rfl,(hE.put p9 hz1).more (by omega),hs2.jC p9 hbq,eG hg p9 zL⟩
 case true=>
  as_aux_lemma=>
  rw[if_pos rfl];have hkd:=bn hbi;obtain⟨ho1,ho2,ho3⟩:=iO he hi hkd;have Pj:Hid (∀W:World,dh b t rest L LA Lc s W->Calls Try.prog 98 #[.pointer (some ⟨b,0,none⟩)] W fun r w'=>r=.returned (.int .i64 ((aY L s).pos:Nat))/\Steps b t rest L LA Lc (cZ L s) W w'):=zH fun W h=>open_any b t rest L LA Lc s W h hil hL (by omega)
  have qm:Hid (∀W:World,dh b t rest L LA Lc (cZ L s) W->Calls Try.prog 80 #[.pointer (some ⟨b,0,none⟩),.int .i64 3] W (jd b t rest L LA Lc (aN L f 3 (cZ L s)) W)):=zH fun W h=>IH 3 _ W (by omega) (by omega) h ho1 (by omega)
  have hgo:=fB he f 3 _ ho1;have AU:=hgo.opn;have hok2:=hgo.ok.opn;have hlt2:=hgo.ok.lt;generalize cZ L s=so at *;generalize aN L f 3 so=rr at *;obtain⟨e5,s5⟩:=rr;simp only at qm AU hok2 hlt2⊢;generalize(aY L s).pos=pos at *;clear IH hbi h hkd hgo
  go_enter Try.func92,Try.ntmps92
  have k0:Bk (w.alloc (.cells #[.int .i64 0,.slice none 0 0,.int .i64 0,.int .i64 0,.string ⟨#[]⟩,.string ⟨#[]⟩,.int .i64 0] 118)) w.heap.size 118 #[.int .i64 0,.slice none 0 0,.int .i64 0,.int .i64 0,.string ⟨#[]⟩,.string ⟨#[]⟩,.int .i64 0]:=Bk.new w 118 _;have hb0:Below w.heap.size w (w.alloc (.cells #[.int .i64 0,.slice none 0 0,.int .i64 0,.int .i64 0,.string ⟨#[]⟩,.string ⟨#[]⟩,.int .i64 0] 118)):=zR.alloc zL _;have hs0:=HS.out.old hb0;go_wp2_with fail
  refine(HIS.out _ hs0).mono ?_;rintro r w1 ⟨rfl,hb1⟩;have hs1:=hs0.old hb1;have k1:=k0.old hb1;have hg1:=(below_grown hb0 (some b)).trans (below_grown hb1 (some b));clear hs0 k0 hb1 hb0 HIS HS;go_wp2_with fail
  refine(Pj.out _ hs1).mono ?_;rintro r w2 ⟨rfl,hs2,JW⟩;have k2:=k1.grown JW (aA (by omega));have hg2:=hg1.trans JW;have hz2:=k2.lt;clear hs1 k1 hg1 JW Pj;go_wp2_with fail
  refine(qm.out _ hs2).mono ?_;rintro r w3 ⟨cs,rfl,hE,hs3,EC⟩;obtain⟨y0,y1,y2,y3,y4,y5,y6,rfl,hy⟩:=hE.seven;have k3:=k2.grown EC (aA (by omega));have hg3:=hg2.trans EC;have hz3:=EC.size;clear hs2 k2 hg2 EC qm;have kq:Bk (w3.alloc (.cells #[.int .i64 0,.slice none 0 0,.int .i64 0,.int .i64 0,.string ⟨#[]⟩,.string ⟨#[]⟩,.int .i64 0] 118)) w3.heap.size 118 #[.int .i64 0,.slice none 0 0,.int .i64 0,.int .i64 0,.string ⟨#[]⟩,.string ⟨#[]⟩,.int .i64 0]:=Bk.new w3 118 _;have hbq:Below w3.heap.size w3 (w3.alloc (.cells #[.int .i64 0,.slice none 0 0,.int .i64 0,.int .i64 0,.string ⟨#[]⟩,.string ⟨#[]⟩,.int .i64 0] 118)):=zR.alloc zL _;have d2:=(hs3.old hbq).c2;have f2:=(hs3.old hbq).fr 2;obtain⟨on,hon⟩:∃n,s5.opn-1=n:=⟨_,rfl⟩
  have Yq:(s5.opn:Int)-1=(on:Int):=by omega
  have Yr:(s5.opn:Int)<=4001:=by omega
  have Yt:=zH hon;have hbw3:b<w3.heap.size:=by omega
  clear hon AU ho3 ho2 d2 f2;go_upto_region 8 with(first|(refine ae bV rfl _ _ rfl rfl [y0,y1,y2,y3,y4,y5,y6] rfl kq rfl rfl hy ?_;intro wA pA))
  have jc:Below w3.heap.size w3 wA:=pA.below _ _ hbq zL;have hsA:=hs3.old jc;have HEA:=zH (hE.old jc);have kA:=k3.old jc;have hgA:=hg3.trans (below_grown jc (some b));have Vk:=pA.bk;obtain⟨v0,v1,v2,v3,v4,v5,v6⟩:=zc7 Vk;have hzA:=Vk.lt;have d2:=hsA.c2;have f2:=hsA.fr 2;clear kq hbq pA jc hs3 hE k3 hg3;go_upto_region 9 with fail
  clear d2 f2 v0 v1 v2 v3 v4 v5 v6;have hsB:=hsA.set2 on;have HEB:=zH (HEA.out.set (q:=b) (o:=2) (v:=.int .i64 (on:Int)) (by omega));have kB:=kA.far (p:=⟨b,2,none⟩) (by show w.heap.size≠b;omega) (.int .i64 (on:Int));have kBy:=Vk.far (p:=⟨b,2,none⟩) (by show w3.heap.size≠b;omega) (.int .i64 (on:Int));have hgB:=bF (o:=2) (v:=.int .i64 (on:Int)) hgA;have hzB:(wA.setCell ⟨b,2,none⟩ (.int .i64 (on:Int))).heap.size=wA.heap.size:=by simp
  clear hsA HEA kA hgA Vk;generalize wA.setCell ⟨b,2,none⟩ (.int .i64 (on:Int))=wB at *;obtain⟨v0,v1,v2,v3,v4,v5,v6⟩:=zc7 kBy;have kC:Bk (wB.alloc (.cells #[y0,y1,y2,y3,y4,y5,y6] 118)) wB.heap.size 118 #[y0,y1,y2,y3,y4,y5,y6]:=Bk.new wB 118 _;have hbC:Below wB.heap.size wB (wB.alloc (.cells #[y0,y1,y2,y3,y4,y5,y6] 118)):=zR.alloc zL _;rw[hzB]at kC;have hsC:=hsB.old hbC;have HEC:=zH (HEB.out.old hbC);have kCr:=kB.old hbC;have hgC:=hgB.trans (below_grown hbC (some b));go_wp2_with (first|(refine jL rfl _ rfl rfl ?_)|(refine ae bV rfl _ _ rfl rfl [.int .i64 15,.slice (some ⟨wA.heap.size,0,none⟩) 1 1,.int .i64 0,.int .i64 0,.string ⟨#[]⟩,.string ⟨#[]⟩,.int .i64 pos] rfl kCr rfl rfl rfl ?_;intro w9 p9))
  obtain⟨u0,u1,u2,u3,u4,u5,u6⟩:=zc7 p9.bk;refine bodyPost_ret (v:=.agg #[.int .i64 15,.slice (some ⟨wA.heap.size,0,none⟩) 1 1,.int .i64 0,.int .i64 0,.string ⟨#[]⟩,.string ⟨#[]⟩,.int .i64 pos]) (by simp[results,Try.results92,go_sem,u0,u1,u2,u3,u4,u5,u6]) rfl ?_;have hfin:=hsC.jC p9 (by omega);rw[<-Yt.out]at hfin;exact⟨_,rfl,⟨wA.heap.size,[y0,y1,y2,y3,y4,y5,y6],rfl,by omega,p9.BQ kC (by omega),(HEC.out.put p9 (by omega)).more (by omega)⟩,hfin,eG hgC p9 zL⟩
theorem GY (f : Nat) (IH : QP b t rest L LA Lc f) (s : PS) (w : World) (h : dh b t rest L LA Lc s w) (he : dK L) (hi : gG L s) (hL : L.length ≤ 4001) (hf : 10 * (L.length - s.i) + (8 - 7) ≤ f) :
  Calls Try.prog 92 #[.pointer (some ⟨b,0,none⟩),.int .i64 7] w (jd b t rest L LA Lc (uj L f 7 s) w):=by
 have hbw:=h.bk.lt;have HS:=zH h;have hil:=hi.lt;have hio:=hi.opn
 have HIS:Hid (∀W:World,dh b t rest L LA Lc s W->Calls Try.prog 39 #[.pointer (some ⟨b,0,none⟩),.string ⟨#[45]⟩] W fun r w'=>r=.returned (.bool (eX L s [45]))/\Below W.heap.size W w'):=zH fun W h=>by
  have:=lu b t rest L LA Lc s W ⟨#[45]⟩ h hi.lt hL
  rwa [show(⟨#[45]⟩:ByteArray).toList=[45] by rw[ByteArray.toList_eq]]at this
 unfold uj;rw[show Mc 7=[45]from rfl,show Gy 7=6 from rfl];obtain⟨bi,hbi⟩:∃z,eX L s [45]=z:=⟨_,rfl⟩
 rw[hbi]at HIS⊢;cases bi
 case false=>
  as_aux_lemma=>
  rw[if_neg (by simp)];have qm:Hid (∀W:World,dh b t rest L LA Lc s W->Calls Try.prog 80 #[.pointer (some ⟨b,0,none⟩),.int .i64 8] W (jd b t rest L LA Lc (aN L f 8 s) W)):=zH fun W h=>IH 8 s W (by omega) (by omega) h hi (by omega)
  generalize aN L f (7+1) s=RES at *;clear IH hbi h
  go_enter Try.func92,Try.ntmps92
  have k0:Bk (w.alloc (.cells #[.int .i64 0,.slice none 0 0,.int .i64 0,.int .i64 0,.string ⟨#[]⟩,.string ⟨#[]⟩,.int .i64 0] 118)) w.heap.size 118 #[.int .i64 0,.slice none 0 0,.int .i64 0,.int .i64 0,.string ⟨#[]⟩,.string ⟨#[]⟩,.int .i64 0]:=Bk.new w 118 _;have hb0:Below w.heap.size w (w.alloc (.cells #[.int .i64 0,.slice none 0 0,.int .i64 0,.int .i64 0,.string ⟨#[]⟩,.string ⟨#[]⟩,.int .i64 0] 118)):=zR.alloc zL _;have hs0:=HS.out.old hb0;go_wp2_with fail
  refine(HIS.out _ hs0).mono ?_;rintro r w1 ⟨rfl,hb1⟩;have hs1:=hs0.old hb1;have k1:=k0.old hb1;have hg1:=(below_grown hb0 (some b)).trans (below_grown hb1 (some b));have hz1:=k1.lt;clear hs0 k0 hb1 hb0 HIS HS;go_wp2_with fail
  refine(qm.out _ hs1).mono ?_;rintro r w2 ⟨cs,rfl,hE,hs2,hg2⟩;obtain⟨y0,y1,y2,y3,y4,y5,y6,rfl,hy⟩:=hE.seven;have k2:=k1.grown hg2 (aA (by omega));have hg:=hg1.trans hg2;have hbq:b<w.heap.size:=hbw;clear hs1 k1 qm hg2 hg1;go_wp2_with (first|(refine ae bV rfl _ _ rfl rfl [y0,y1,y2,y3,y4,y5,y6] rfl k2 rfl rfl hy ?_;intro w9 p9))
  obtain⟨u0,u1,u2,u3,u4,u5,u6⟩:=zc7 p9.bk;refine bodyPost_ret (v:=.agg #[y0,y1,y2,y3,y4,y5,y6]) (by simp[results,Try.results92,go_sem,u0,u1,u2,u3,u4,u5,u6]) rfl ?_;exact⟨[y0,y1,y2,y3,y4,y5,y6],rfl,(hE.put p9 hz1).more (by omega),hs2.jC p9 hbq,eG hg p9 zL⟩
 case true=>
  as_aux_lemma=>
  rw[if_pos rfl];have hkd:=bn hbi;obtain⟨ho1,ho2,ho3⟩:=iO he hi hkd;have Pj:Hid (∀W:World,dh b t rest L LA Lc s W->Calls Try.prog 98 #[.pointer (some ⟨b,0,none⟩)] W fun r w'=>r=.returned (.int .i64 ((aY L s).pos:Nat))/\Steps b t rest L LA Lc (cZ L s) W w'):=zH fun W h=>open_any b t rest L LA Lc s W h hil hL (by omega)
  have qm:Hid (∀W:World,dh b t rest L LA Lc (cZ L s) W->Calls Try.prog 80 #[.pointer (some ⟨b,0,none⟩),.int .i64 7] W (jd b t rest L LA Lc (aN L f 7 (cZ L s)) W)):=zH fun W h=>IH 7 _ W (by omega) (by omega) h ho1 (by omega)
  have hgo:=fB he f 7 _ ho1;have AU:=hgo.opn;have hok2:=hgo.ok.opn;have hlt2:=hgo.ok.lt;generalize cZ L s=so at *;generalize aN L f 7 so=rr at *;obtain⟨e5,s5⟩:=rr;simp only at qm AU hok2 hlt2⊢;generalize(aY L s).pos=pos at *;clear IH hbi h hkd hgo
  go_enter Try.func92,Try.ntmps92
  have k0:Bk (w.alloc (.cells #[.int .i64 0,.slice none 0 0,.int .i64 0,.int .i64 0,.string ⟨#[]⟩,.string ⟨#[]⟩,.int .i64 0] 118)) w.heap.size 118 #[.int .i64 0,.slice none 0 0,.int .i64 0,.int .i64 0,.string ⟨#[]⟩,.string ⟨#[]⟩,.int .i64 0]:=Bk.new w 118 _;have hb0:Below w.heap.size w (w.alloc (.cells #[.int .i64 0,.slice none 0 0,.int .i64 0,.int .i64 0,.string ⟨#[]⟩,.string ⟨#[]⟩,.int .i64 0] 118)):=zR.alloc zL _;have hs0:=HS.out.old hb0;go_wp2_with fail
  refine(HIS.out _ hs0).mono ?_;rintro r w1 ⟨rfl,hb1⟩;have hs1:=hs0.old hb1;have k1:=k0.old hb1;have hg1:=(below_grown hb0 (some b)).trans (below_grown hb1 (some b));clear hs0 k0 hb1 hb0 HIS HS;go_wp2_with fail
  refine(Pj.out _ hs1).mono ?_;rintro r w2 ⟨rfl,hs2,JW⟩;have k2:=k1.grown JW (aA (by omega));have hg2:=hg1.trans JW;have hz2:=k2.lt;clear hs1 k1 hg1 JW Pj;go_wp2_with fail
  refine(qm.out _ hs2).mono ?_;rintro r w3 ⟨cs,rfl,hE,hs3,EC⟩;obtain⟨y0,y1,y2,y3,y4,y5,y6,rfl,hy⟩:=hE.seven;have k3:=k2.grown EC (aA (by omega));have hg3:=hg2.trans EC;have hz3:=EC.size;clear hs2 k2 hg2 EC qm;have kq:Bk (w3.alloc (.cells #[.int .i64 0,.slice none 0 0,.int .i64 0,.int .i64 0,.string ⟨#[]⟩,.string ⟨#[]⟩,.int .i64 0] 118)) w3.heap.size 118 #[.int .i64 0,.slice none 0 0,.int .i64 0,.int .i64 0,.string ⟨#[]⟩,.string ⟨#[]⟩,.int .i64 0]:=Bk.new w3 118 _;have hbq:Below w3.heap.size w3 (w3.alloc (.cells #[.int .i64 0,.slice none 0 0,.int .i64 0,.int .i64 0,.string ⟨#[]⟩,.string ⟨#[]⟩,.int .i64 0] 118)):=zR.alloc zL _;have d2:=(hs3.old hbq).c2;have f2:=(hs3.old hbq).fr 2;obtain⟨on,hon⟩:∃n,s5.opn-1=n:=⟨_,rfl⟩
  have Yq:(s5.opn:Int)-1=(on:Int):=by omega
  have Yr:(s5.opn:Int)<=4001:=by omega
  have Yt:=zH hon;have hbw3:b<w3.heap.size:=by omega
  clear hon AU ho3 ho2 d2 f2;go_upto_region 8 with(first|(refine ae bV rfl _ _ rfl rfl [y0,y1,y2,y3,y4,y5,y6] rfl kq rfl rfl hy ?_;intro wA pA))
  have jc:Below w3.heap.size w3 wA:=pA.below _ _ hbq zL;have hsA:=hs3.old jc;have HEA:=zH (hE.old jc);have kA:=k3.old jc;have hgA:=hg3.trans (below_grown jc (some b));have Vk:=pA.bk;obtain⟨v0,v1,v2,v3,v4,v5,v6⟩:=zc7 Vk;have hzA:=Vk.lt;have d2:=hsA.c2;have f2:=hsA.fr 2;clear kq hbq pA jc hs3 hE k3 hg3;go_upto_region 9 with fail
  clear d2 f2 v0 v1 v2 v3 v4 v5 v6;have hsB:=hsA.set2 on;have HEB:=zH (HEA.out.set (q:=b) (o:=2) (v:=.int .i64 (on:Int)) (by omega));have kB:=kA.far (p:=⟨b,2,none⟩) (by show w.heap.size≠b;omega) (.int .i64 (on:Int));have kBy:=Vk.far (p:=⟨b,2,none⟩) (by show w3.heap.size≠b;omega) (.int .i64 (on:Int));have hgB:=bF (o:=2) (v:=.int .i64 (on:Int)) hgA;have hzB:(wA.setCell ⟨b,2,none⟩ (.int .i64 (on:Int))).heap.size=wA.heap.size:=by simp
  clear hsA HEA kA hgA Vk;generalize wA.setCell ⟨b,2,none⟩ (.int .i64 (on:Int))=wB at *;obtain⟨v0,v1,v2,v3,v4,v5,v6⟩:=zc7 kBy;have kC:Bk (wB.alloc (.cells #[y0,y1,y2,y3,y4,y5,y6] 118)) wB.heap.size 118 #[y0,y1,y2,y3,y4,y5,y6]:=Bk.new wB 118 _;have hbC:Below wB.heap.size wB (wB.alloc (.cells #[y0,y1,y2,y3,y4,y5,y6] 118)):=zR.alloc zL _;rw[hzB]at kC;have hsC:=hsB.old hbC;have HEC:=zH (HEB.out.old hbC);have kCr:=kB.old hbC;have hgC:=hgB.trans (below_grown hbC (some b));go_wp2_with (first|(refine jL rfl _ rfl rfl ?_)|(refine ae bV rfl _ _ rfl rfl [.int .i64 6,.slice (some ⟨wA.heap.size,0,none⟩) 1 1,.int .i64 0,.int .i64 0,.string ⟨#[]⟩,.string ⟨#[]⟩,.int .i64 pos] rfl kCr rfl rfl rfl ?_;intro w9 p9))
  obtain⟨u0,u1,u2,u3,u4,u5,u6⟩:=zc7 p9.bk;refine bodyPost_ret (v:=.agg #[.int .i64 6,.slice (some ⟨wA.heap.size,0,none⟩) 1 1,.int .i64 0,.int .i64 0,.string ⟨#[]⟩,.string ⟨#[]⟩,.int .i64 pos]) (by simp[results,Try.results92,go_sem,u0,u1,u2,u3,u4,u5,u6]) rfl ?_;have hfin:=hsC.jC p9 (by omega);rw[<-Yt.out]at hfin;exact⟨_,rfl,⟨wA.heap.size,[y0,y1,y2,y3,y4,y5,y6],rfl,by omega,p9.BQ kC (by omega),(HEC.out.put p9 (by omega)).more (by omega)⟩,hfin,eG hgC p9 zL⟩
end
end Go.Proofs.Ytbjnhllkdilpfaa
