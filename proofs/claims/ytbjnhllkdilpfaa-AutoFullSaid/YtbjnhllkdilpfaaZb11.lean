/- Part 11 of the proof. No conditions. -/
import Derived.Test.YtbjnhllkdilpfaaZb10
namespace Go.Proofs.Ytbjnhllkdilpfaa
open Go.RowKit
set_option linter.unusedSimpArgs false
set_option linter.unusedVariables false
set_option maxHeartbeats 16000000
set_option maxRecDepth 100000
theorem di.sG {b q:Nat} {t u:TypeId} {rest:List Value} {L:List aA} {LA:Option Addr} {Lc:Nat} {s:PS} {w w':World} {ds:Array Value} (h:di b t rest L LA Lc s w) (hp:lY w q u ds w') (hq:b<q):di b t rest L LA Lc s w':=
 ⟨hp.Eu h.bk (by omega),h.rd.below (hp.below _ _ zR (by omega))⟩
def rW (L:List aA) (f level:Nat) (s:PS):au×PS:=if eQ L s (Jf level)=true then(.un (En level) (aB L f level (aQ L s)).1 (bf L s).pos,pI (aB L f level (aQ L s)).2)else aB L f (level+1) s
section
variable (b:Nat) (t:TypeId) (rest:List Value) (L:List aA) (LA:Option Addr) (Lc:Nat)
theorem EL (f : Nat) (IH : Ns b t rest L LA Lc f) (s : PS) (w : World) (h : di b t rest L LA Lc s w) (he : dL L) (hi : gm L s) (hL : L.length ≤ 4001) (hf : 10 * (L.length - s.i) + (8 - 3) ≤ f) :
  Calls Try.prog 92 #[.pointer (some ⟨b,0,none⟩),.int .i64 3] w (gX b t rest L LA Lc (rW L f 3 s) w):=by
 have hbw:=h.bk.lt;have HS:=zH h;have hil:=hi.lt;have hio:=hi.opn
 have HIS:Hid (∀W:World,di b t rest L LA Lc s W->Calls Try.prog 39 #[.pointer (some ⟨b,0,none⟩),.string ⟨#[78,79,84]⟩] W fun r w'=>r=.returned (.bool (eQ L s [78,79,84]))/\Below W.heap.size W w'):=zH fun W h=>by
  have:=kL b t rest L LA Lc s W ⟨#[78,79,84]⟩ h hi.lt hL
  rwa [show(⟨#[78,79,84]⟩:ByteArray).toList=[78,79,84] by rw[ByteArray.toList_eq]]at this
 unfold rW;rw[show Jf 3=[78,79,84]from rfl,show En 3=15 from rfl];obtain⟨bi,hbi⟩:∃z,eQ L s [78,79,84]=z:=⟨_,rfl⟩
 rw[hbi]at HIS⊢;cases bi
 case false=>
  as_aux_lemma=>
  rw[if_neg (by simp)];have lZ:Hid (∀W:World,di b t rest L LA Lc s W->Calls Try.prog 80 #[.pointer (some ⟨b,0,none⟩),.int .i64 4] W (gX b t rest L LA Lc (aB L f 4 s) W)):=zH fun W h=>IH 4 s W (by omega) (by omega) h hi (by omega)
  generalize aB L f (3+1) s=RES at *;clear IH hbi h
  go_enter Try.func92,Try.ntmps92
  have k0:Bk (w.alloc (.cells #[.int .i64 0,.slice none 0 0,.int .i64 0,.int .i64 0,.string ⟨#[]⟩,.string ⟨#[]⟩,.int .i64 0] 118)) w.heap.size 118 #[.int .i64 0,.slice none 0 0,.int .i64 0,.int .i64 0,.string ⟨#[]⟩,.string ⟨#[]⟩,.int .i64 0]:=Bk.new w 118 _;have hb0:Below w.heap.size w (w.alloc (.cells #[.int .i64 0,.slice none 0 0,.int .i64 0,.int .i64 0,.string ⟨#[]⟩,.string ⟨#[]⟩,.int .i64 0] 118)):=zR.alloc zL _;have hs0:=HS.out.old hb0;go_wp2_with fail
  refine(HIS.out _ hs0).mono ?_;rintro r w1 ⟨rfl,hb1⟩;have hs1:=hs0.old hb1;have k1:=k0.old hb1;have hg1:=(below_grown hb0 (some b)).trans (below_grown hb1 (some b));have hz1:=k1.lt;clear hs0 k0 hb1 hb0 HIS HS;go_wp2_with fail
  refine(lZ.out _ hs1).mono ?_;rintro r w2 ⟨cs,rfl,hE,hs2,hg2⟩;obtain⟨y0,y1,y2,y3,y4,y5,y6,rfl,hy⟩:=hE.seven;have k2:=k1.grown hg2 (aC (by omega));have hg:=hg1.trans hg2;have hbq:b<w.heap.size:=hbw;clear hs1 k1 lZ hg2 hg1;go_wp2_with (first|(refine ae aV rfl _ _ rfl rfl [y0,y1,y2,y3,y4,y5,y6] rfl k2 rfl rfl hy ?_;intro w9 p9))
  obtain⟨u0,u1,u2,u3,u4,u5,u6⟩:=zc7 p9.bk;refine bodyPost_ret (v:=.agg #[y0,y1,y2,y3,y4,y5,y6]) (by simp[results,Try.results92,go_sem,u0,u1,u2,u3,u4,u5,u6]) rfl ?_;exact⟨[y0,y1,y2,y3,y4,y5,y6],rfl,(hE.put p9 hz1).more (by omega),hs2.sG p9 hbq,eu hg p9 zL⟩
 case true=>
  as_aux_lemma=>
  rw[if_pos rfl];have hkd:=bG hbi;obtain⟨ho1,ho2,ho3⟩:=iH he hi hkd;have EH:Hid (∀W:World,di b t rest L LA Lc s W->Calls Try.prog 98 #[.pointer (some ⟨b,0,none⟩)] W fun r w'=>r=.returned (.int .i64 ((bf L s).pos:Nat))/\Steps b t rest L LA Lc (aQ L s) W w'):=zH fun W h=>open_any b t rest L LA Lc s W h hil hL (by omega)
  have lZ:Hid (∀W:World,di b t rest L LA Lc (aQ L s) W->Calls Try.prog 80 #[.pointer (some ⟨b,0,none⟩),.int .i64 3] W (gX b t rest L LA Lc (aB L f 3 (aQ L s)) W)):=zH fun W h=>IH 3 _ W (by omega) (by omega) h ho1 (by omega)
  have hgo:=dV he f 3 _ ho1;have pO:=hgo.opn;have hok2:=hgo.ok.opn;have hlt2:=hgo.ok.lt;generalize aQ L s=so at *;generalize aB L f 3 so=rr at *;obtain⟨e5,s5⟩:=rr;simp only at lZ pO hok2 hlt2⊢;generalize(bf L s).pos=pos at *;clear IH hbi h hkd hgo
  go_enter Try.func92,Try.ntmps92
  have k0:Bk (w.alloc (.cells #[.int .i64 0,.slice none 0 0,.int .i64 0,.int .i64 0,.string ⟨#[]⟩,.string ⟨#[]⟩,.int .i64 0] 118)) w.heap.size 118 #[.int .i64 0,.slice none 0 0,.int .i64 0,.int .i64 0,.string ⟨#[]⟩,.string ⟨#[]⟩,.int .i64 0]:=Bk.new w 118 _;have hb0:Below w.heap.size w (w.alloc (.cells #[.int .i64 0,.slice none 0 0,.int .i64 0,.int .i64 0,.string ⟨#[]⟩,.string ⟨#[]⟩,.int .i64 0] 118)):=zR.alloc zL _;have hs0:=HS.out.old hb0;go_wp2_with fail
  refine(HIS.out _ hs0).mono ?_;rintro r w1 ⟨rfl,hb1⟩;have hs1:=hs0.old hb1;have k1:=k0.old hb1;have hg1:=(below_grown hb0 (some b)).trans (below_grown hb1 (some b));clear hs0 k0 hb1 hb0 HIS HS;go_wp2_with fail
  refine(EH.out _ hs1).mono ?_;rintro r w2 ⟨rfl,hs2,Hw⟩;have k2:=k1.grown Hw (aC (by omega));have hg2:=hg1.trans Hw;have hz2:=k2.lt;clear hs1 k1 hg1 Hw EH;go_wp2_with fail
  refine(lZ.out _ hs2).mono ?_;rintro r w3 ⟨cs,rfl,hE,hs3,Dp⟩;obtain⟨y0,y1,y2,y3,y4,y5,y6,rfl,hy⟩:=hE.seven;have k3:=k2.grown Dp (aC (by omega));have hg3:=hg2.trans Dp;have hz3:=Dp.size;clear hs2 k2 hg2 Dp lZ;have kq:Bk (w3.alloc (.cells #[.int .i64 0,.slice none 0 0,.int .i64 0,.int .i64 0,.string ⟨#[]⟩,.string ⟨#[]⟩,.int .i64 0] 118)) w3.heap.size 118 #[.int .i64 0,.slice none 0 0,.int .i64 0,.int .i64 0,.string ⟨#[]⟩,.string ⟨#[]⟩,.int .i64 0]:=Bk.new w3 118 _;have hbq:Below w3.heap.size w3 (w3.alloc (.cells #[.int .i64 0,.slice none 0 0,.int .i64 0,.int .i64 0,.string ⟨#[]⟩,.string ⟨#[]⟩,.int .i64 0] 118)):=zR.alloc zL _;have d2:=(hs3.old hbq).c2;have f2:=(hs3.old hbq).fr 2;obtain⟨on,hon⟩:∃n,s5.opn-1=n:=⟨_,rfl⟩
  have Nw:(s5.opn:Int)-1=(on:Int):=by omega
  have Ny:(s5.opn:Int)<=4001:=by omega
  have Nz:=zH hon;have hbw3:b<w3.heap.size:=by omega
  clear hon pO ho3 ho2 d2 f2;go_upto_region 8 with(first|(refine ae aV rfl _ _ rfl rfl [y0,y1,y2,y3,y4,y5,y6] rfl kq rfl rfl hy ?_;intro wA pA))
  have fV:Below w3.heap.size w3 wA:=pA.below _ _ hbq zL;have hsA:=hs3.old fV;have YS:=zH (hE.old fV);have kA:=k3.old fV;have hgA:=hg3.trans (below_grown fV (some b));have QW:=pA.bk;obtain⟨v0,v1,v2,v3,v4,v5,v6⟩:=zc7 QW;have hzA:=QW.lt;have d2:=hsA.c2;have f2:=hsA.fr 2;clear kq hbq pA fV hs3 hE k3 hg3;go_upto_region 9 with fail
  clear d2 f2 v0 v1 v2 v3 v4 v5 v6;have hsB:=hsA.set2 on;have HEB:=zH (YS.out.set (q:=b) (o:=2) (v:=.int .i64 (on:Int)) (by omega));have kB:=kA.far (p:=⟨b,2,none⟩) (by show w.heap.size≠b;omega) (.int .i64 (on:Int));have kBy:=QW.far (p:=⟨b,2,none⟩) (by show w3.heap.size≠b;omega) (.int .i64 (on:Int));have hgB:=aY (o:=2) (v:=.int .i64 (on:Int)) hgA;have hzB:(wA.setCell ⟨b,2,none⟩ (.int .i64 (on:Int))).heap.size=wA.heap.size:=by simp
  clear hsA YS kA hgA QW;generalize wA.setCell ⟨b,2,none⟩ (.int .i64 (on:Int))=wB at *;obtain⟨v0,v1,v2,v3,v4,v5,v6⟩:=zc7 kBy;have kC:Bk (wB.alloc (.cells #[y0,y1,y2,y3,y4,y5,y6] 118)) wB.heap.size 118 #[y0,y1,y2,y3,y4,y5,y6]:=Bk.new wB 118 _;have hbC:Below wB.heap.size wB (wB.alloc (.cells #[y0,y1,y2,y3,y4,y5,y6] 118)):=zR.alloc zL _;rw[hzB]at kC;have hsC:=hsB.old hbC;have HEC:=zH (HEB.out.old hbC);have kCr:=kB.old hbC;have XT:=hgB.trans (below_grown hbC (some b));go_wp2_with (first|(refine fO rfl _ rfl rfl ?_)|(refine ae aV rfl _ _ rfl rfl [.int .i64 15,.slice (some ⟨wA.heap.size,0,none⟩) 1 1,.int .i64 0,.int .i64 0,.string ⟨#[]⟩,.string ⟨#[]⟩,.int .i64 pos] rfl kCr rfl rfl rfl ?_;intro w9 p9))
  obtain⟨u0,u1,u2,u3,u4,u5,u6⟩:=zc7 p9.bk;refine bodyPost_ret (v:=.agg #[.int .i64 15,.slice (some ⟨wA.heap.size,0,none⟩) 1 1,.int .i64 0,.int .i64 0,.string ⟨#[]⟩,.string ⟨#[]⟩,.int .i64 pos]) (by simp[results,Try.results92,go_sem,u0,u1,u2,u3,u4,u5,u6]) rfl ?_;have hfin:=hsC.sG p9 (by omega);rw[<-Nz.out]at hfin;exact⟨_,rfl,⟨wA.heap.size,[y0,y1,y2,y3,y4,y5,y6],rfl,by omega,p9.Eu kC (by omega),(HEC.out.put p9 (by omega)).more (by omega)⟩,hfin,eu XT p9 zL⟩
theorem EM (f : Nat) (IH : Ns b t rest L LA Lc f) (s : PS) (w : World) (h : di b t rest L LA Lc s w) (he : dL L) (hi : gm L s) (hL : L.length ≤ 4001) (hf : 10 * (L.length - s.i) + (8 - 7) ≤ f) :
  Calls Try.prog 92 #[.pointer (some ⟨b,0,none⟩),.int .i64 7] w (gX b t rest L LA Lc (rW L f 7 s) w):=by
 have hbw:=h.bk.lt;have HS:=zH h;have hil:=hi.lt;have hio:=hi.opn
 have HIS:Hid (∀W:World,di b t rest L LA Lc s W->Calls Try.prog 39 #[.pointer (some ⟨b,0,none⟩),.string ⟨#[45]⟩] W fun r w'=>r=.returned (.bool (eQ L s [45]))/\Below W.heap.size W w'):=zH fun W h=>by
  have:=kL b t rest L LA Lc s W ⟨#[45]⟩ h hi.lt hL
  rwa [show(⟨#[45]⟩:ByteArray).toList=[45] by rw[ByteArray.toList_eq]]at this
 unfold rW;rw[show Jf 7=[45]from rfl,show En 7=6 from rfl];obtain⟨bi,hbi⟩:∃z,eQ L s [45]=z:=⟨_,rfl⟩
 rw[hbi]at HIS⊢;cases bi
 case false=>
  as_aux_lemma=>
  rw[if_neg (by simp)];have lZ:Hid (∀W:World,di b t rest L LA Lc s W->Calls Try.prog 80 #[.pointer (some ⟨b,0,none⟩),.int .i64 8] W (gX b t rest L LA Lc (aB L f 8 s) W)):=zH fun W h=>IH 8 s W (by omega) (by omega) h hi (by omega)
  generalize aB L f (7+1) s=RES at *;clear IH hbi h
  go_enter Try.func92,Try.ntmps92
  have k0:Bk (w.alloc (.cells #[.int .i64 0,.slice none 0 0,.int .i64 0,.int .i64 0,.string ⟨#[]⟩,.string ⟨#[]⟩,.int .i64 0] 118)) w.heap.size 118 #[.int .i64 0,.slice none 0 0,.int .i64 0,.int .i64 0,.string ⟨#[]⟩,.string ⟨#[]⟩,.int .i64 0]:=Bk.new w 118 _;have hb0:Below w.heap.size w (w.alloc (.cells #[.int .i64 0,.slice none 0 0,.int .i64 0,.int .i64 0,.string ⟨#[]⟩,.string ⟨#[]⟩,.int .i64 0] 118)):=zR.alloc zL _;have hs0:=HS.out.old hb0;go_wp2_with fail
  refine(HIS.out _ hs0).mono ?_;rintro r w1 ⟨rfl,hb1⟩;have hs1:=hs0.old hb1;have k1:=k0.old hb1;have hg1:=(below_grown hb0 (some b)).trans (below_grown hb1 (some b));have hz1:=k1.lt;clear hs0 k0 hb1 hb0 HIS HS;go_wp2_with fail
  refine(lZ.out _ hs1).mono ?_;rintro r w2 ⟨cs,rfl,hE,hs2,hg2⟩;obtain⟨y0,y1,y2,y3,y4,y5,y6,rfl,hy⟩:=hE.seven;have k2:=k1.grown hg2 (aC (by omega));have hg:=hg1.trans hg2;have hbq:b<w.heap.size:=hbw;clear hs1 k1 lZ hg2 hg1;go_wp2_with (first|(refine ae aV rfl _ _ rfl rfl [y0,y1,y2,y3,y4,y5,y6] rfl k2 rfl rfl hy ?_;intro w9 p9))
  obtain⟨u0,u1,u2,u3,u4,u5,u6⟩:=zc7 p9.bk;refine bodyPost_ret (v:=.agg #[y0,y1,y2,y3,y4,y5,y6]) (by simp[results,Try.results92,go_sem,u0,u1,u2,u3,u4,u5,u6]) rfl ?_;exact⟨[y0,y1,y2,y3,y4,y5,y6],rfl,(hE.put p9 hz1).more (by omega),hs2.sG p9 hbq,eu hg p9 zL⟩
 case true=>
  as_aux_lemma=>
  rw[if_pos rfl];have hkd:=bG hbi;obtain⟨ho1,ho2,ho3⟩:=iH he hi hkd;have EH:Hid (∀W:World,di b t rest L LA Lc s W->Calls Try.prog 98 #[.pointer (some ⟨b,0,none⟩)] W fun r w'=>r=.returned (.int .i64 ((bf L s).pos:Nat))/\Steps b t rest L LA Lc (aQ L s) W w'):=zH fun W h=>open_any b t rest L LA Lc s W h hil hL (by omega)
  have lZ:Hid (∀W:World,di b t rest L LA Lc (aQ L s) W->Calls Try.prog 80 #[.pointer (some ⟨b,0,none⟩),.int .i64 7] W (gX b t rest L LA Lc (aB L f 7 (aQ L s)) W)):=zH fun W h=>IH 7 _ W (by omega) (by omega) h ho1 (by omega)
  have hgo:=dV he f 7 _ ho1;have pO:=hgo.opn;have hok2:=hgo.ok.opn;have hlt2:=hgo.ok.lt;generalize aQ L s=so at *;generalize aB L f 7 so=rr at *;obtain⟨e5,s5⟩:=rr;simp only at lZ pO hok2 hlt2⊢;generalize(bf L s).pos=pos at *;clear IH hbi h hkd hgo
  go_enter Try.func92,Try.ntmps92
  have k0:Bk (w.alloc (.cells #[.int .i64 0,.slice none 0 0,.int .i64 0,.int .i64 0,.string ⟨#[]⟩,.string ⟨#[]⟩,.int .i64 0] 118)) w.heap.size 118 #[.int .i64 0,.slice none 0 0,.int .i64 0,.int .i64 0,.string ⟨#[]⟩,.string ⟨#[]⟩,.int .i64 0]:=Bk.new w 118 _;have hb0:Below w.heap.size w (w.alloc (.cells #[.int .i64 0,.slice none 0 0,.int .i64 0,.int .i64 0,.string ⟨#[]⟩,.string ⟨#[]⟩,.int .i64 0] 118)):=zR.alloc zL _;have hs0:=HS.out.old hb0;go_wp2_with fail
  refine(HIS.out _ hs0).mono ?_;rintro r w1 ⟨rfl,hb1⟩;have hs1:=hs0.old hb1;have k1:=k0.old hb1;have hg1:=(below_grown hb0 (some b)).trans (below_grown hb1 (some b));clear hs0 k0 hb1 hb0 HIS HS;go_wp2_with fail
  refine(EH.out _ hs1).mono ?_;rintro r w2 ⟨rfl,hs2,Hw⟩;have k2:=k1.grown Hw (aC (by omega));have hg2:=hg1.trans Hw;have hz2:=k2.lt;clear hs1 k1 hg1 Hw EH;go_wp2_with fail
  refine(lZ.out _ hs2).mono ?_;rintro r w3 ⟨cs,rfl,hE,hs3,Dp⟩;obtain⟨y0,y1,y2,y3,y4,y5,y6,rfl,hy⟩:=hE.seven;have k3:=k2.grown Dp (aC (by omega));have hg3:=hg2.trans Dp;have hz3:=Dp.size;clear hs2 k2 hg2 Dp lZ;have kq:Bk (w3.alloc (.cells #[.int .i64 0,.slice none 0 0,.int .i64 0,.int .i64 0,.string ⟨#[]⟩,.string ⟨#[]⟩,.int .i64 0] 118)) w3.heap.size 118 #[.int .i64 0,.slice none 0 0,.int .i64 0,.int .i64 0,.string ⟨#[]⟩,.string ⟨#[]⟩,.int .i64 0]:=Bk.new w3 118 _;have hbq:Below w3.heap.size w3 (w3.alloc (.cells #[.int .i64 0,.slice none 0 0,.int .i64 0,.int .i64 0,.string ⟨#[]⟩,.string ⟨#[]⟩,.int .i64 0] 118)):=zR.alloc zL _;have d2:=(hs3.old hbq).c2;have f2:=(hs3.old hbq).fr 2;obtain⟨on,hon⟩:∃n,s5.opn-1=n:=⟨_,rfl⟩
  have Nw:(s5.opn:Int)-1=(on:Int):=by omega
  have Ny:(s5.opn:Int)<=4001:=by omega
  have Nz:=zH hon;have hbw3:b<w3.heap.size:=by omega
  clear hon pO ho3 ho2 d2 f2;go_upto_region 8 with(first|(refine ae aV rfl _ _ rfl rfl [y0,y1,y2,y3,y4,y5,y6] rfl kq rfl rfl hy ?_;intro wA pA))
  have fV:Below w3.heap.size w3 wA:=pA.below _ _ hbq zL;have hsA:=hs3.old fV;have YS:=zH (hE.old fV);have kA:=k3.old fV;have hgA:=hg3.trans (below_grown fV (some b));have QW:=pA.bk;obtain⟨v0,v1,v2,v3,v4,v5,v6⟩:=zc7 QW;have hzA:=QW.lt;have d2:=hsA.c2;have f2:=hsA.fr 2;clear kq hbq pA fV hs3 hE k3 hg3;go_upto_region 9 with fail
  clear d2 f2 v0 v1 v2 v3 v4 v5 v6;have hsB:=hsA.set2 on;have HEB:=zH (YS.out.set (q:=b) (o:=2) (v:=.int .i64 (on:Int)) (by omega));have kB:=kA.far (p:=⟨b,2,none⟩) (by show w.heap.size≠b;omega) (.int .i64 (on:Int));have kBy:=QW.far (p:=⟨b,2,none⟩) (by show w3.heap.size≠b;omega) (.int .i64 (on:Int));have hgB:=aY (o:=2) (v:=.int .i64 (on:Int)) hgA;have hzB:(wA.setCell ⟨b,2,none⟩ (.int .i64 (on:Int))).heap.size=wA.heap.size:=by simp
  clear hsA YS kA hgA QW;generalize wA.setCell ⟨b,2,none⟩ (.int .i64 (on:Int))=wB at *;obtain⟨v0,v1,v2,v3,v4,v5,v6⟩:=zc7 kBy;have kC:Bk (wB.alloc (.cells #[y0,y1,y2,y3,y4,y5,y6] 118)) wB.heap.size 118 #[y0,y1,y2,y3,y4,y5,y6]:=Bk.new wB 118 _;have hbC:Below wB.heap.size wB (wB.alloc (.cells #[y0,y1,y2,y3,y4,y5,y6] 118)):=zR.alloc zL _;rw[hzB]at kC;have hsC:=hsB.old hbC;have HEC:=zH (HEB.out.old hbC);have kCr:=kB.old hbC;have XT:=hgB.trans (below_grown hbC (some b));go_wp2_with (first|(refine fO rfl _ rfl rfl ?_)|(refine ae aV rfl _ _ rfl rfl [.int .i64 6,.slice (some ⟨wA.heap.size,0,none⟩) 1 1,.int .i64 0,.int .i64 0,.string ⟨#[]⟩,.string ⟨#[]⟩,.int .i64 pos] rfl kCr rfl rfl rfl ?_;intro w9 p9))
  obtain⟨u0,u1,u2,u3,u4,u5,u6⟩:=zc7 p9.bk;refine bodyPost_ret (v:=.agg #[.int .i64 6,.slice (some ⟨wA.heap.size,0,none⟩) 1 1,.int .i64 0,.int .i64 0,.string ⟨#[]⟩,.string ⟨#[]⟩,.int .i64 pos]) (by simp[results,Try.results92,go_sem,u0,u1,u2,u3,u4,u5,u6]) rfl ?_;have hfin:=hsC.sG p9 (by omega);rw[<-Nz.out]at hfin;exact⟨_,rfl,⟨wA.heap.size,[y0,y1,y2,y3,y4,y5,y6],rfl,by omega,p9.Eu kC (by omega),(HEC.out.put p9 (by omega)).more (by omega)⟩,hfin,eu XT p9 zL⟩
end
end Go.Proofs.Ytbjnhllkdilpfaa
