/- Part 28 of the proof. No conditions. -/
import Derived.Test.YtbjnhllkdilpfaaZc27
namespace Go.Proofs.Ytbjnhllkdilpfaa
open Go.RowKit
set_option maxRecDepth 100000
set_option maxHeartbeats 16000000
set_option linter.unusedVariables false
set_option linter.unusedSimpArgs false
def um (s:ai) (key:Str) (kd:Int) (p:Nat):List bP->MS->MS
 |[],m=>m
 |x::l,m=>um s key kd p l (if bM s x.kind key<0 then dC 10 p m else if fZ s x.kind (bM s x.kind key)≠kd then dC 11 p m else m)
def KG (s:ai) (key:Str) (kd:Int) (t:Nat):Int:=if 0<=bM s t key/\fZ s t (bM s t key)≠kd then -1 else bM s t key
def Y5 (s:ai) (key:Str):List bP->Int
 |[]=>0
 |x::_=>fZ s x.kind (bM s x.kind key)
def Y6 (s:ai) (key:Str) (p:Nat) (m:MS):List bP->MS
 |[]=>m
 |x::_=>if bM s x.kind key<0 then dC 10 p m else m
def keysT (s:ai) (key:Str) (p:Nat) (m:MS):List Int×MS:=
 if key=[]\/m.err≠0 then([],m)
 else((List.range s.types.length).map (KG s key (Y5 s key m.items)),um s key (Y5 s key m.items) p m.items (Y6 s key p m m.items))
structure MV (b B bx:Nat) (s:ai) (iv:Value) (items:List bP) (cells:Array Value) (w w0:World) (m:MS) (W:World):Prop where
 st:jg b B s iv m W
 gw:w.grownBy W (some b)
 kx:Bk W bx 80 cells
 it:m.items=items
 sz:w0.heap.size<=W.heap.size
section
variable {b B bx:Nat} {s:ai} {iv:Value} {items:List bP} {cells:Array Value} {w w0:World} {m m':MS} {W W':World}
theorem MV.old (h:MV b B bx s iv items cells w w0 m W) (hb:Below W.heap.size W W'):MV b B bx s iv items cells w w0 m W':=
 ⟨h.st.old hb,h.gw.trans (below_grown hb _),h.kx.old hb,h.it,Nat.le_trans h.sz hb.size⟩
theorem MV.step (h:MV b B bx s iv items cells w w0 m W) (hs:gW b B s iv m' W W') (hbx:bx≠b) (hi:m'.items=m.items):MV b B bx s iv items cells w w0 m' W':=
 ⟨hs.st,h.gw.trans hs.grown,h.kx.grown hs.grown (aA hbx),hi.trans h.it,Nat.le_trans h.sz hs.grown.size⟩
end
theorem Si (b B : Nat) (s : ai) (iv : Value) (m0 : MS) (c0 c1 c2 c3 : Value) (KEY : ByteArray) (ka : Nat) (w : World) (h : jg b B s iv m0 w) (hbB : b < B) (hn : m0.items.length ≤ 1000) (hpos : 0 < m0.items.length) :
  Calls Try.prog 47 #[.pointer (some ⟨b,0,none⟩),.agg #[c0,c1,c2,c3,.string KEY,.int .i64 ka]] w fun r w'=>
   ∃(A:Option Addr) (n c:Nat),r=.returned (.slice A n c)/\n=(keysT s KEY.toList ka m0).1.length/\w'.ownsRow w.heap.size 3 1 (.slice A n c) n (aU (keysT s KEY.toList ka m0).1)/\gW b B s iv (keysT s KEY.toList ka m0).2 w w':=by
 obtain⟨iT,hT,hT0,hT1,hT2⟩:=info_parts EJ;obtain⟨⟨KS,MF⟩,hres⟩:∃z,keysT s KEY.toList ka m0=z:=⟨_,rfl⟩
 rw[hres];simp only[];have aG:=zH hres;have HM:=zH h;have hbl:=h.bk.lt;have HTL:Hid (s.types.length<=3518437208780):=zH h.CG.len;have HAT:Hid (∀(m:MS) (W:World),jg b B s iv m W->∀t:Int,Calls Try.prog 69 #[.agg #[.slice s.ta s.types.length s.tc,.slice s.sa s.syms.length s.sc],.int .i64 t,.string KEY] W fun e w'=>e=.returned (.int .i64 (bM s t KEY.toList))/\Below W.heap.size W w'):=zH fun m W h t=>uN s t KEY W (h.CG.jf zR |>.more (Nat.le_of_lt h.bk.lt))
 have MN:Hid (∀(m:MS) (W:World),jg b B s iv m W->∀t a:Int,Calls Try.prog 68 #[.agg #[.slice s.ta s.types.length s.tc,.slice s.sa s.syms.length s.sc],.int .i64 t,.int .i64 a] W fun e w'=>e=.returned (.int .i64 (fZ s t a))/\Below W.heap.size W w'):=zH fun m W h t a=>Hy s t a W (h.CG.jf zR |>.more (Nat.le_of_lt h.bk.lt))
 have jR:Hid (∀(e:Nat) (m:MS) (W:World),jg b B s iv m W->Calls Try.prog 67 #[.pointer (some ⟨b,0,none⟩),.int .i64 e,.int .i64 ka] W fun r w'=>r=.returned (.tuple #[])/\gW b B s iv (dC e ka m) W w'):=zH fun e m W h=>jr b B s iv m W e ka h hbB
 have HN:=zH hn;have HP:=zH hpos;clear hres h hn hpos
 go_enter Try.func47,Try.ntmps47
 have kb:=Bk.new w 80 #[c0,c1,c2,c3,.string KEY,.int .i64 ka];have hb0:Below w.heap.size w (w.alloc (.cells #[c0,c1,c2,c3,.string KEY,.int .i64 ka] 80)):=zR.alloc zL _;go_upto_region 1 with fail
 obtain⟨w0,hw0⟩:∃z,w.alloc (.cells #[c0,c1,c2,c3,.string KEY,.int .i64 ka] 80)=z:=⟨_,rfl⟩
 rw[hw0]at kb hb0⊢;clear hw0;obtain⟨bx,hbx⟩:∃z,w.heap.size=z:=⟨_,rfl⟩
 have jw:=zH hbx;rw[hbx]at kb⊢;have hbb:b<bx:=by omega
 have hbxl:=kb.lt;have hbne:bx≠b:=by omega
 have VA:b<w0.heap.size:=by omega
 have HV:Hid (MV b B bx s iv m0.items #[c0,c1,c2,c3,.string KEY,.int .i64 ka] w w0 m0 w0):=zH ⟨HM.out.old hb0,below_grown hb0 _,kb,rfl,Nat.le_refl _⟩;have HIV:Hid (∀j,iv.ownBlock=some j->j<w0.heap.size):=zH fun j hj=>Nat.lt_of_lt_of_le (HM.out.own.lt j hj).2 hb0.size
 clear kb hb0 hbx;have x4:w0.cell? ⟨bx,4,none⟩=some (.string KEY):=HV.out.kx.cell 4;have e3:w0.cell? ⟨b,3,none⟩=some (.int .i64 m0.err):=HV.out.st.c3;obtain⟨ke,hke⟩:∃z,KEY.toList.isEmpty=z:=⟨_,rfl⟩
 obtain⟨er,her⟩:∃z,((m0.err:Int) !=0)=z:=⟨_,rfl⟩
 have HKE:=zH hke;have HER:=zH her
 have hstop:(KEY.toList=[]\/m0.err≠0)<->(ke||er)=true:=by
  rw[<-hke,<-her,Bool.or_eq_true,List.isEmpty_iff,bne_iff_ne]
  constructor
  ·rintro(h|h)
   ·exact .inl h
   ·exact .inr (by omega)
  ·rintro(h|h)
   ·exact .inl h
   ·exact .inr (by omega)
 have HST:=zH hstop;clear hke her hstop
 go_cut[21] (fun v wx=>v=.bool (ke||er)/\w0=wx)
 case first=>
  as_aux_lemma=>
  have hk:=HKE.out;have he:=HER.out;cases ke
  ·have hk2:¬KEY.toList=[]:=by intro h;rw[h]at hk;cases hk
   cases er
   all_goals
    go_wp2_with fail
    go_meet
    exact⟨rfl,rfl⟩
  ·have hk2:KEY.toList=[]:=by simpa using hk
   go_wp2_with fail
   go_meet
   exact⟨rfl,rfl⟩
 case rest=>
 obtain⟨rfl,hwc⟩:=hcut;subst hwc;clear x4 e3;obtain⟨st,hst⟩:∃z,(ke||er)=z:=⟨_,rfl⟩
 have Y7:Hid ((KEY.toList=[]\/m0.err≠0)<->st=true):=zH (by rw[<-hst];exact HST.out);rw[hst];clear hst HST HKE HER;cases st
 case true=>
  as_aux_lemma=>
  have hr:=aG.out;unfold keysT at hr;rw[if_pos (Y7.out.2 rfl)]at hr;injection hr with h1 h2
  subst h1;subst h2;clear aG;go_wp2
  go_ret
  exact⟨none,0,0,rfl,rfl,World.ownsRow_nil _ _ _ _,HV.out.st,HV.out.gw⟩
 case false=>
 have hr:=aG.out;unfold keysT at hr;rw[if_neg (fun h=>by have:=Y7.out.1 h;cases this)]at hr;injection hr with h1 h2
 have O9:=zH h1;have HMF:=zH h2;clear h1 h2 aG Y7;obtain⟨L,hL⟩:∃z,m0.items.length=z:=⟨_,rfl⟩
 have hL0:0<L:=by rw[<-hL];exact HP.out
 have hL1:L<=1000:=by rw[<-hL];exact HN.out
 have HL:=zH hL;obtain⟨AI,ci,hiv,-⟩:=bg HV.out.st.own;rw[hL]at hiv;subst hiv
 have hown0:w0.ownsRow B 141 6 (.slice AI L ci) L (m0.items.flatMap bP.cells):=by
  have:=HV.out.st.own;rw[hL]at this;exact this
 obtain⟨gi,rfl⟩:∃gi,AI=some ⟨gi,0,none⟩:=by
  rcases hown0.2 with⟨_,h0⟩|⟨g,cap,cur,hv,_⟩
  ·omega
  ·injection hv with hv
   exact⟨g,hv⟩
 obtain⟨⟨xn,xb,xp,xo,xf,k0⟩,hx0⟩:∃z,m0.items[0]'(by rw[HL.out];exact hL0)=z:=⟨_,rfl⟩
 have hit0:∃l,m0.items=⟨xn,xb,xp,xo,xf,k0⟩::l:=by
  have:=HL.out;cases hm:m0.items with
  |nil=>rw[hm]at this;simp at this;omega
  |cons y l=>exact⟨l,by simp only[hm,List.getElem_cons_zero]at hx0;rw[hx0]⟩
 obtain⟨a0,ha0⟩:∃z,bM s k0 KEY.toList=z:=⟨_,rfl⟩
 obtain⟨kd,hkd⟩:∃z,fZ s k0 a0=z:=⟨_,rfl⟩
 have hkk:Y5 s KEY.toList m0.items=kd:=by
  obtain⟨l,hl⟩:=hit0;rw[hl]
  show fZ s k0 (bM s k0 KEY.toList)=kd
  rw[ha0,hkd]
 have hkf:Y6 s KEY.toList ka m0 m0.items=if a0<0 then dC 10 ka m0 else m0:=by
  obtain⟨l,hl⟩:=hit0;rw[hl]
  show(if bM s k0 KEY.toList<0 then dC 10 ka m0 else m0)=_
  rw[ha0]
 have HMF2:Hid (um s KEY.toList kd ka m0.items (if a0<0 then dC 10 ka m0 else m0)=MF):=zH (by rw[<-HMF.out,hkk,hkf]);have Y8:Hid ((List.range s.types.length).map (KG s KEY.toList kd)=KS):=zH (by rw[<-O9.out,hkk])
 have VO:Hid (∀W:World,jg b B s (.slice (some ⟨gi,0,none⟩) L ci) m0 W->Calls Try.prog 69 #[.agg #[.slice s.ta s.types.length s.tc,.slice s.sa s.syms.length s.sc],.int .i64 k0,.string KEY] W fun e w'=>e=.returned (.int .i64 a0)/\Below W.heap.size W w'):=zH fun W hW=>by
  have:=HAT.out m0 W hW k0
  rwa [ha0]at this
 have Vx:Hid (∀W:World,jg b B s (.slice (some ⟨gi,0,none⟩) L ci) m0 W->Calls Try.prog 68 #[.agg #[.slice s.ta s.types.length s.tc,.slice s.sa s.syms.length s.sc],.int .i64 k0,.int .i64 a0] W fun e w'=>e=.returned (.int .i64 kd)/\Below W.heap.size W w'):=zH fun W hW=>by
  have:=MN.out m0 W hW k0 a0
  rwa [hkd]at this
 have hrdI:=dG hown0;obtain⟨gq,oq,hA,hgq,hcq⟩:=hrdI.elem (n:=6) mW (by omega) (k:=0) (by rw[HL.out];exact hL0);injection hA with hA
 injection hA with hA1 hA2
 subst hA1;subst hA2;rw[hx0]at hcq;have i5:w0.cell? ⟨gi,5,none⟩=some (.int .i64 k0):=by simpa using hcq 5 _ rfl
 have s0:w0.cell? ⟨b,0,none⟩=some (.slice s.ta s.types.length s.tc):=HV.out.st.bk.cell 0;have s1:w0.cell? ⟨b,1,none⟩=some (.slice s.sa s.syms.length s.sc):=HV.out.st.bk.cell 1;have i2:w0.cell? ⟨b,2,none⟩=some (.slice (some ⟨gi,0,none⟩) L ci):=by have:=HV.out.st.bk.cell 2;rw[this];simp
 have x4:w0.cell? ⟨bx,4,none⟩=some (.string KEY):=HV.out.kx.cell 4;clear hx0 hit0 ha0 hkd hkk hkf HMF O9 hown0 hrdI hgq hcq hL;obtain⟨neg,hneg⟩:∃z,decide (a0<0)=z:=⟨_,rfl⟩
 go_upto_region 3 with fail
 refine wx (fun k => false) [.is (.pointer (some ⟨b, 0, none⟩)),
   .is (.pointer (some ⟨b,0,none⟩)),
   .is (.pointer (some ⟨b,0,none⟩)),
   .is (.agg #[.slice s.ta s.types.length s.tc,.slice s.sa s.syms.length s.sc]),
   .is (.pointer (some ⟨b,0,none⟩)),
   .is (.pointer (some ⟨b,0,none⟩)),
   .is (.pointer (some ⟨b,2,none⟩)),
   .is (.slice (some ⟨gi,0,none⟩) L ci),
   .is (.pointer (some ⟨gi,0,none⟩)),
   .is (.pointer (some ⟨gi,5,none⟩)),
   .is (.int .i64 k0),
   .is (.pointer (some ⟨b,0,none⟩)),
   .is (.pointer (some ⟨b,0,none⟩)),
   .is (.pointer (some ⟨b,0,none⟩)),
   .is (.agg #[.slice s.ta s.types.length s.tc,.slice s.sa s.syms.length s.sc]),
   .is (.pointer (some ⟨b,0,none⟩)),
   .is (.pointer (some ⟨b,0,none⟩)),
   .is (.pointer (some ⟨b,2,none⟩)),
   .is (.slice (some ⟨gi,0,none⟩) L ci),
   .is (.pointer (some ⟨gi,0,none⟩)),
   .is (.pointer (some ⟨gi,5,none⟩)),
   .is (.int .i64 k0),
   .is (.pointer (some ⟨bx,4,none⟩)),
   .is (.string KEY),
   .is (.int .i64 a0),
   .is (.int .i64 kd),
   .is (.int .i64 kd)] [3,8,14,19,24,25] (by kernel_rfl) (by kernel_rfl) (by kernel_rfl)
   (fun C=>.c (px C rfl (fun _ _=>rfl)) <|
   .c (px C rfl (fun _ _=>rfl)) <|
   .c (px C rfl (fun _ _=>rfl)) <|
   .c (pz [2] [] (by kernel_rfl) fun qK qa wr hB qO qF hK=>?_) <|
   .c (px C rfl (fun _ _=>rfl)) <|
   .c (px C rfl (fun _ _=>rfl)) <|
   .c (px C rfl (fun _ _=>rfl)) <|
   .c (px C rfl (fun _ h=>bW (LV (bc h i2)))) <|
   .c (pz [7] [] (by kernel_rfl) fun qK qa wr hB qO qF hK=>?_) <|
   .c (px C rfl (fun _ _=>rfl)) <|
   .c (px C rfl (fun _ h=>bW (lJ (bc h i5)))) <|
   .c (px C rfl (fun _ _=>rfl)) <|
   .c (px C rfl (fun _ _=>rfl)) <|
   .c (px C rfl (fun _ _=>rfl)) <|
   .c (pz [13] [] (by kernel_rfl) fun qK qa wr hB qO qF hK=>?_) <|
   .c (px C rfl (fun _ _=>rfl)) <|
   .c (px C rfl (fun _ _=>rfl)) <|
   .c (px C rfl (fun _ _=>rfl)) <|
   .c (px C rfl (fun _ h=>bW (LV (bc h i2)))) <|
   .c (pz [18] [] (by kernel_rfl) fun qK qa wr hB qO qF hK=>?_) <|
   .c (px C rfl (fun _ _=>rfl)) <|
   .c (px C rfl (fun _ h=>bW (lJ (bc h i5)))) <|
   .c (px C rfl (fun _ _=>rfl)) <|
   .c (px C rfl (fun _ h=>bW (Gf (bc h x4)))) <|
   .c (pz [14,21,23] [] (by kernel_rfl) fun qK qa wr hB qO qF hK=>?_) <|
   .c (pz [3,10,24] [] (by kernel_rfl) fun qK qa wr hB qO qF hK=>?_) <|
   .c (px C rfl (fun _ _=>rfl)) <| .nil) ?_
 ·have e24:=ay qF.1 rfl rfl;clear qO qF;have hs0:=zE hB s0;have hs1:=zE hB s1;go_simp;exact hK _ _ zR rfl
 ·have e29:=ay qF.1 rfl rfl;clear qO qF;go_simp;exact hK _ _ zR rfl
 ·have e35:=ay qF.1 rfl rfl;clear qO qF;have hs0:=zE hB s0;have hs1:=zE hB s1;go_simp;exact hK _ _ zR rfl
 ·have e40:=ay qF.1 rfl rfl;clear qO qF;go_simp;exact hK _ _ zR rfl
 ·have e36:=ay qF.1 rfl rfl;have e43:=ay qF.2.1 rfl rfl;have e45:=ay qF.2.2.1 rfl rfl;clear qO qF;go_simp
  go_at_call 69
  refine(VO.out wr (HV.out.st.old hB)).mono ?_;rintro r w9 ⟨rfl,dO⟩;exact hK _ _ dO rfl
 ·have e25:=ay qF.1 rfl rfl;have e32:=ay qF.2.1 rfl rfl;have e46:=ay qF.2.2.1 rfl rfl;clear qO qF;go_simp
  go_at_call 68
  refine(Vx.out wr (HV.out.st.old hB)).mono ?_;rintro r w9 ⟨rfl,dO⟩;exact hK _ _ dO rfl
 intro qx wr hB hR hS;clear hR hS;simp only[bJ,List.take_succ_cons,List.take_zero,List.drop_succ_cons,List.drop_zero,List.toList_toArray,List.length_cons,List.length_nil,Act.put,List.setIfInBounds_toArray,List.set_cons_zero,List.set_cons_succ];refine zn ?_;have oL:=zH (HV.out.old hB);have t0:=zE hB s0;have t1:=zE hB s1;have t2:=zE hB i2;have t5:=zE hB i5;have t4:=zE hB x4;clear hB s0 s1 i2 i5 x4 HV Vx;obtain⟨w1,rfl⟩:∃z:World,z=wr:=⟨_,rfl⟩
 have s0:=t0;have s1:=t1;have i2:=t2;have i5:=t5;have x4:=t4;have HV:=oL;clear t0 t1 t2 t5 t4 oL;go_upto_region 4 with fail
 refine wx (fun k => false) [.is (.pointer (some ⟨b, 0, none⟩)),
   .is (.pointer (some ⟨b,0,none⟩)),
   .is (.pointer (some ⟨b,0,none⟩)),
   .is (.agg #[.slice s.ta s.types.length s.tc,.slice s.sa s.syms.length s.sc]),
   .is (.pointer (some ⟨b,0,none⟩)),
   .is (.pointer (some ⟨b,0,none⟩)),
   .is (.pointer (some ⟨b,2,none⟩)),
   .is (.slice (some ⟨gi,0,none⟩) L ci),
   .is (.pointer (some ⟨gi,0,none⟩)),
   .is (.pointer (some ⟨gi,5,none⟩)),
   .is (.int .i64 k0),
   .is (.pointer (some ⟨bx,4,none⟩)),
   .is (.string KEY),
   .is (.int .i64 a0),
   .is (.bool neg)] [3,8,13,14] (by kernel_rfl) (by kernel_rfl) (by kernel_rfl)
   (fun C=>.c (px C rfl (fun _ _=>rfl)) <|
   .c (px C rfl (fun _ _=>rfl)) <|
   .c (px C rfl (fun _ _=>rfl)) <|
   .c (pz [2] [] (by kernel_rfl) fun qK qa wr hB qO qF hK=>?_) <|
   .c (px C rfl (fun _ _=>rfl)) <|
   .c (px C rfl (fun _ _=>rfl)) <|
   .c (px C rfl (fun _ _=>rfl)) <|
   .c (px C rfl (fun _ h=>bW (LV (bc h i2)))) <|
   .c (pz [7] [] (by kernel_rfl) fun qK qa wr hB qO qF hK=>?_) <|
   .c (px C rfl (fun _ _=>rfl)) <|
   .c (px C rfl (fun _ h=>bW (lJ (bc h i5)))) <|
   .c (px C rfl (fun _ _=>rfl)) <|
   .c (px C rfl (fun _ h=>bW (Gf (bc h x4)))) <|
   .c (pz [3,10,12] [] (by kernel_rfl) fun qK qa wr hB qO qF hK=>?_) <|
   .c (pz [13] [] (by kernel_rfl) fun qK qa wr hB qO qF hK=>?_) <| .nil) ?_
 ·have e50:=ay qF.1 rfl rfl;clear qO qF;have hs0:=zE hB s0;have hs1:=zE hB s1;go_simp;exact hK _ _ zR rfl
 ·have e55:=ay qF.1 rfl rfl;clear qO qF;go_simp;exact hK _ _ zR rfl
 ·have e51:=ay qF.1 rfl rfl;have e58:=ay qF.2.1 rfl rfl;have e60:=ay qF.2.2.1 rfl rfl;clear qO qF;go_simp
  go_at_call 69
  refine(VO.out wr (HV.out.st.old hB)).mono ?_;rintro r w9 ⟨rfl,dO⟩;exact hK _ _ dO rfl
 ·have e61:=ay qF.1 rfl rfl;clear qO qF;go_simp;refine hK _ _ zR ?_
  show(_:Value)=_
  first|rfl|rw[hneg]|(simp[hneg];done)
 intro qx wr hB hR hS;clear hR hS;simp only[bJ,List.take_succ_cons,List.take_zero,List.drop_succ_cons,List.drop_zero,List.toList_toArray,List.length_cons,List.length_nil,Act.put,List.setIfInBounds_toArray,List.set_cons_zero,List.set_cons_succ];refine zn ?_;have jE:=zH (HV.out.old hB);have t5:=(jE.out.kx.cell 5)
 clear hB s0 s1 i2 i5 x4 HV VO;obtain⟨w2,rfl⟩:∃z:World,z=wr:=⟨_,rfl⟩
 obtain⟨m1,hm1⟩:∃z,(if neg=true then dC 10 ka m0 else m0)=z:=⟨_,rfl⟩
 have hm1b:(if a0<0 then dC 10 ka m0 else m0)=m1:=by
  rw[<-hm1,<-hneg]
  by_cases h:a0<0<;>simp[h]
 have HMF3:Hid (um s KEY.toList kd ka (m0.items.drop 0) m1=MF):=zH (by rw[List.drop_zero,<-hm1b];exact HMF2.out);have GI:=zH hm1;clear hneg hm1 hm1b HMF2;go_upto_if 62 with fail
 go_cut[] (fun wx=>Hid (MV b B bx s (.slice (some ⟨gi,0,none⟩) L ci) m0.items #[c0,c1,c2,c3,.string KEY,.int .i64 ka] w w0 m1 wx))
 case first=>
  as_aux_lemma=>
  have hm:=GI.out;cases neg
  ·rw[if_neg (by decide)]at hm;subst hm;clear GI;go_wp2_with fail
   go_meet
   exact jE
  ·rw[if_pos rfl]at hm;have HF:=zH (jR.out 10 m0 w2 jE.out.st);rw[hm]at HF;have hit:m1.items=m0.items:=by rw[<-hm];exact bU _ _ _
   clear GI hm;go_wp2_with fail
   refine HF.out.mono ?_;rintro r w5 ⟨rfl,hs5⟩;have UL:=zH (jE.out.step hs5 hbne hit);clear HF hs5 t5;go_wp2_with fail
   go_meet
   exact UL
 case rest=>
 rename World=>EO
 have HV5:=hcut;clear jE hcut t5 GI;obtain⟨w3,rfl⟩:∃z:World,z=EO:=⟨_,rfl⟩
 have i2:w3.cell? ⟨b,2,none⟩=some (.slice (some ⟨gi,0,none⟩) L ci):=by have:=HV5.out.st.bk.cell 2;rw[this];simp
 go_upto_region 6 with fail
 go_wp2_with fail
 clear i2
 go_loopw[72] (fun i wr=>∃(k:Nat) (m:MS),k<=L/\i=.int .i64 k/\Hid (um s KEY.toList kd ka (m0.items.drop k) m=MF)/\Hid (MV b B bx s (.slice (some ⟨gi,0,none⟩) L ci) m0.items #[c0,c1,c2,c3,.string KEY,.int .i64 ka] w w0 m wr)) (fun i _=>L-(intOf i).toNat)
 case atStart=>exact⟨0,m1,Nat.zero_le _,rfl,HMF3,HV5⟩
 case round=>
  clear HMF3 HV5;obtain⟨k,m,hk,rfl,HR,HV⟩:=hrel;obtain⟨wo,rfl⟩:∃wo:World,wo=wr:=⟨_,rfl⟩
  by_cases hlt:k<L
  ·
   have hkl:k<m0.items.length:=by rw[HL.out];exact hlt
   have hown:=HV.out.st.own;rw[HV.out.it]at hown;rw[HL.out]at hown;obtain⟨g,o,hA,hg,hc⟩:=(dG hown).elem (n:=6) mW (by omega) hkl;injection hA with hA
   injection hA with hA1 hA2
   subst hA1;subst hA2;have hr:=HR.out;rw[List.drop_eq_getElem_cons hkl]at hr;obtain⟨⟨nm,xb,xp,xo,xf,xk⟩,hx⟩:∃z,m0.items[k]=z:=⟨_,rfl⟩
   rw[hx]at hc hr;obtain⟨M,hM⟩:∃M,bytes nm=M:=⟨_,rfl⟩
   have r0:wo.cell? ⟨gi,k*6,none⟩=some (.string M):=by have:=hc 0 _ rfl;simpa[hM]using this
   have r1:wo.cell? ⟨gi,k*6+1,none⟩=some (.int .i64 xb):=by have:=hc 1 _ rfl;simpa using this
   have r2:wo.cell? ⟨gi,k*6+2,none⟩=some (.int .i64 xp):=by have:=hc 2 _ rfl;simpa using this
   have r3:wo.cell? ⟨gi,k*6+3,none⟩=some (.int .i64 xo):=by have:=hc 3 _ rfl;simpa using this
   have r4:wo.cell? ⟨gi,k*6+4,none⟩=some (.int .i64 xf):=by have:=hc 4 _ rfl;simpa using this
   have r5:wo.cell? ⟨gi,k*6+5,none⟩=some (.int .i64 xk):=by have:=hc 5 _ rfl;simpa using this
   obtain⟨a0,ha0⟩:∃z,bM s xk KEY.toList=z:=⟨_,rfl⟩
   obtain⟨kk,hkk⟩:∃z,fZ s xk a0=z:=⟨_,rfl⟩
   have hr2:um s KEY.toList kd ka (m0.items.drop (k+1)) (if bM s xk KEY.toList<0 then dC 10 ka m else if fZ s xk (bM s xk KEY.toList)≠kd then dC 11 ka m else m)=MF:=hr;rw[ha0,hkk]at hr2;have HR2:=zH hr2
   have VO:Hid (∀W:World,jg b B s (.slice (some ⟨gi,0,none⟩) L ci) m W->Calls Try.prog 69 #[.agg #[.slice s.ta s.types.length s.tc,.slice s.sa s.syms.length s.sc],.int .i64 xk,.string KEY] W fun e w'=>e=.returned (.int .i64 a0)/\Below W.heap.size W w'):=zH fun W hW=>by
    have:=HAT.out m W hW xk
    rwa [ha0]at this
   have xh:Hid (∀W:World,jg b B s (.slice (some ⟨gi,0,none⟩) L ci) m W->Calls Try.prog 68 #[.agg #[.slice s.ta s.types.length s.tc,.slice s.sa s.syms.length s.sc],.int .i64 xk,.int .i64 a0] W fun e w'=>e=.returned (.int .i64 kk)/\Below W.heap.size W w'):=zH fun W hW=>by
    have:=MN.out m W hW xk a0
    rwa [hkk]at this
   clear hown hg hc hr hr2 hx ha0 hkk hM HR HAT MN;go_upto_region 9 with(first|(refine ae gm rfl _ _ rfl rfl [.string M,.int .i64 xb,.int .i64 xp,.int .i64 xo,.int .i64 xf,.int .i64 xk] rfl (Bk.new wo _ _) rfl rfl rfl ?_;intro w4 p4))
   have hb4:Below wo.heap.size wo w4:=p4.below _ _ (zR.alloc zL _) zL;have kt:=p4.bk;obtain⟨gt,hgt⟩:∃z,wo.heap.size=z:=⟨_,rfl⟩
   rw[hgt]at kt⊢;have VM:gt≠b:=by have:=HV.out.sz;omega
   have jE:=zH (And.intro (HV.out.old hb4) kt);have s0:w4.cell? ⟨b,0,none⟩=some (.slice s.ta s.types.length s.tc):=jE.out.1.st.bk.cell 0;have s1:w4.cell? ⟨b,1,none⟩=some (.slice s.sa s.syms.length s.sc):=jE.out.1.st.bk.cell 1;have x4:w4.cell? ⟨bx,4,none⟩=some (.string KEY):=jE.out.1.kx.cell 4;have y5:w4.cell? ⟨gt,5,none⟩=some (.int .i64 xk):=kt.cell 5;clear r0 r1 r2 r3 r4 r5 hb4 p4 kt hgt HV;have HV:Hid (MV b B bx s (.slice (some ⟨gi,0,none⟩) L ci) m0.items #[c0,c1,c2,c3,.string KEY,.int .i64 ka] w w0 m w4):=zH jE.out.1
   refine wx (fun k => false) [.is (.pointer (some ⟨b, 0, none⟩)),
     .is (.pointer (some ⟨b,0,none⟩)),
     .is (.pointer (some ⟨b,0,none⟩)),
     .is (.agg #[.slice s.ta s.types.length s.tc,.slice s.sa s.syms.length s.sc]),
     .is (.pointer (some ⟨gt,5,none⟩)),
     .is (.int .i64 xk),
     .is (.pointer (some ⟨bx,4,none⟩)),
     .is (.string KEY),
     .is (.int .i64 a0),
     .is (.int .i64 a0)] [3,8] (by kernel_rfl) (by kernel_rfl) (by kernel_rfl)
     (fun C=>.c (px C rfl (fun _ _=>rfl)) <|
     .c (px C rfl (fun _ _=>rfl)) <|
     .c (px C rfl (fun _ _=>rfl)) <|
     .c (pz [2] [] (by kernel_rfl) fun qK qa wr hB qO qF hK=>?_) <|
     .c (px C rfl (fun _ _=>rfl)) <|
     .c (px C rfl (fun _ h=>bW (lJ (bc h y5)))) <|
     .c (px C rfl (fun _ _=>rfl)) <|
     .c (px C rfl (fun _ h=>bW (Gf (bc h x4)))) <|
     .c (pz [3,5,7] [] (by kernel_rfl) fun qK qa wr hB qO qF hK=>?_) <|
     .c (px C rfl (fun _ _=>rfl)) <| .nil) ?_
   ·have e78:=ay qF.1 rfl rfl;clear qO qF;have hs0:=zE hB s0;have hs1:=zE hB s1;go_simp;exact hK _ _ zR rfl
   ·have e79:=ay qF.1 rfl rfl;have e81:=ay qF.2.1 rfl rfl;have e83:=ay qF.2.2.1 rfl rfl;clear qO qF;go_simp
    go_at_call 69
    refine(VO.out wr (HV.out.st.old hB)).mono ?_;rintro r w9 ⟨rfl,dO⟩;exact hK _ _ dO rfl
   intro qx wr hB hR hS;clear hR hS;simp only[bJ,List.take_succ_cons,List.take_zero,List.drop_succ_cons,List.drop_zero,List.toList_toArray,List.length_cons,List.length_nil,Act.put,List.setIfInBounds_toArray,List.set_cons_zero,List.set_cons_succ];refine zn ?_;have HV5:=zH (And.intro (HV.out.old hB) (jE.out.2.old hB));clear hB s0 s1 x4 y5 HV jE VO;obtain⟨w5,rfl⟩:∃z:World,z=wr:=⟨_,rfl⟩
   have x5:w5.cell? ⟨bx,5,none⟩=some (.int .i64 ka):=HV5.out.1.kx.cell 5
   by_cases hneg:a0<0
   ·as_aux_lemma=>
    have hr:=HR2.out;rw[if_pos hneg]at hr;have HR3:=zH hr;have HF:=zH (jR.out 10 m w5 HV5.out.1.st);have hit:(dC 10 ka m).items=m.items:=bU _ _ _;clear hr HR2 xh;go_wp2_with fail
    refine HF.out.mono ?_;rintro r w6 ⟨rfl,hs6⟩;have HS6:=zH (HV5.out.1.step hs6 hbne hit);clear HF hs6 x5 hit;go_wp2
    go_roundw
    case rel=>exact⟨k+1,dC 10 ka m,by omega,by go_num,HR3,HS6⟩
    case measure=>simp[intOf];omega
   ·
    have hr:=HR2.out;rw[if_neg hneg]at hr;obtain⟨ne,hne⟩:∃z,(kk !=kd)=z:=⟨_,rfl⟩
    have hr2:um s KEY.toList kd ka (m0.items.drop (k+1)) (if ne=true then dC 11 ka m else m)=MF:=by
     rw[<-hr,<-hne]
     congr 1
     by_cases h:kk=kd<;>simp[h]
    have HR3:=zH hr2;have HF:=zH (jR.out 11 m);have hit:(dC 11 ka m).items=m.items:=bU _ _ _;have HIT:=zH hit;have s0:w5.cell? ⟨b,0,none⟩=some (.slice s.ta s.types.length s.tc):=HV5.out.1.st.bk.cell 0;have s1:w5.cell? ⟨b,1,none⟩=some (.slice s.sa s.syms.length s.sc):=HV5.out.1.st.bk.cell 1;have y5:w5.cell? ⟨gt,5,none⟩=some (.int .i64 xk):=HV5.out.2.cell 5;have HV:Hid (MV b B bx s (.slice (some ⟨gi,0,none⟩) L ci) m0.items #[c0,c1,c2,c3,.string KEY,.int .i64 ka] w w0 m w5):=zH HV5.out.1;clear hr hr2 HR2 hit;go_upto_region 12 with fail
    refine wx (fun k => false) [.is (.pointer (some ⟨b, 0, none⟩)),
      .is (.pointer (some ⟨b,0,none⟩)),
      .is (.pointer (some ⟨b,0,none⟩)),
      .is (.agg #[.slice s.ta s.types.length s.tc,.slice s.sa s.syms.length s.sc]),
      .is (.pointer (some ⟨gt,5,none⟩)),
      .is (.int .i64 xk),
      .is (.int .i64 a0),
      .is (.int .i64 kk),
      .is (.int .i64 kd),
      .is (.bool ne)] [3,7,9] (by kernel_rfl) (by kernel_rfl) (by kernel_rfl)
      (fun C=>.c (px C rfl (fun _ _=>rfl)) <|
      .c (px C rfl (fun _ _=>rfl)) <|
      .c (px C rfl (fun _ _=>rfl)) <|
      .c (pz [2] [] (by kernel_rfl) fun qK qa wr hB qO qF hK=>?_) <|
      .c (px C rfl (fun _ _=>rfl)) <|
      .c (px C rfl (fun _ h=>bW (lJ (bc h y5)))) <|
      .c (px C rfl (fun _ _=>rfl)) <|
      .c (pz [3,5,6] [] (by kernel_rfl) fun qK qa wr hB qO qF hK=>?_) <|
      .c (px C rfl (fun _ _=>rfl)) <|
      .c (pz [7,8] [] (by kernel_rfl) fun qK qa wr hB qO qF hK=>?_) <| .nil) ?_
    ·have e93:=ay qF.1 rfl rfl;clear qO qF;have hs0:=zE hB s0;have hs1:=zE hB s1;go_simp;exact hK _ _ zR rfl
    ·have e94:=ay qF.1 rfl rfl;have e96:=ay qF.2.1 rfl rfl;have e97:=ay qF.2.2.1 rfl rfl;clear qO qF;go_simp
     go_at_call 68
     refine(xh.out wr (HV.out.st.old hB)).mono ?_;rintro r w9 ⟨rfl,dO⟩;exact hK _ _ dO rfl
    ·have e98:=ay qF.1 rfl rfl;have e99:=ay qF.2.1 rfl rfl;clear qO qF;go_simp;refine hK _ _ zR ?_
     show(_:Value)=_
     first|rfl|rw[hne]|(simp[hne];done)
    intro qx wr hB hR hS;clear hR hS;simp only[bJ,List.take_succ_cons,List.take_zero,List.drop_succ_cons,List.drop_zero,List.toList_toArray,List.length_cons,List.length_nil,Act.put,List.setIfInBounds_toArray,List.set_cons_zero,List.set_cons_succ];refine zn ?_;have fM:=zH (HV.out.old hB);have x5':=fM.out.kx.cell 5;clear hB s0 s1 y5 x5 HV HV5 xh hne;obtain⟨w6,rfl⟩:∃z:World,z=wr:=⟨_,rfl⟩
    cases ne
    case false=>
     have hr:=HR3.out;rw[if_neg (by decide)]at hr;have HR4:=zH hr;clear hr HR3 HF;go_wp2
     go_roundw
     case rel=>exact⟨k+1,m,by omega,by go_num,HR4,fM⟩
     case measure=>simp[intOf];omega
    case true=>
     have hr:=HR3.out;rw[if_pos rfl]at hr;have HR4:=zH hr;clear hr HR3;go_wp2_with fail
     refine(HF.out _ fM.out.st).mono ?_;rintro r w7 ⟨rfl,hs7⟩;have UM:=zH (fM.out.step hs7 hbne HIT.out);clear HF hs7 x5';go_wp2
     go_roundw
     case rel=>exact⟨k+1,dC 11 ka m,by omega,by go_num,HR4,UM⟩
     case measure=>simp[intOf];omega
  ·obtain rfl:k=L:=by omega
   have hr:=HR.out;rw[List.drop_eq_nil_of_le (by rw[HL.out];exact Nat.le_refl _)]at hr;have hr:m=MF:=hr;subst hr;obtain⟨N,hN⟩:∃z,s.types.length=z:=⟨_,rfl⟩
   have Gs:=zH hN
   have hNm:N<=3518437208780:=by
    have:=HTL.out;omega
   have s0:wo.cell? ⟨b,0,none⟩=some (.slice s.ta N s.tc):=by rw[<-hN];exact HV.out.st.bk.cell 0
   clear HR hlt hk hN;go_wp2_with fail
   clear s0
   go_loopw[9,112] (fun l i wr=>∃(j:Nat) (A:Option Addr) (c:Nat),j<=N/\l=.slice A j c/\i=.int .i64 j/\Hid (MV b B bx s (.slice (some ⟨gi,0,none⟩) k ci) m0.items #[c0,c1,c2,c3,.string KEY,.int .i64 ka] w w0 m wr)/\Hid (wr.ownsRow w0.heap.size 3 1 (.slice A j c) j (aU ((List.range j).map (KG s KEY.toList kd))))) (fun _ i _=>N-(intOf i).toNat)
   case atStart=>exact⟨0,none,0,Nat.zero_le _,rfl,rfl,HV,zH (World.ownsRow_nil _ _ _ _)⟩
   case round=>
    clear HV;obtain⟨j,A,c,hj,rfl,rfl,HV,HO⟩:=hrel;obtain⟨wo,rfl⟩:∃wo:World,wo=wr:=⟨_,rfl⟩
    by_cases hlt:j<N
    ·
     obtain⟨a0,ha0⟩:∃z,bM s (j:Int) KEY.toList=z:=⟨_,rfl⟩
     obtain⟨kk,hkk⟩:∃z,fZ s (j:Int) a0=z:=⟨_,rfl⟩
     obtain⟨cv,hcv⟩:∃z,KG s KEY.toList kd j=z:=⟨_,rfl⟩
     obtain⟨bad,hbad⟩:∃z,(decide (0<=a0)&&(kk !=kd))=z:=⟨_,rfl⟩
     have hcv2:(if bad=true then(-1:Int)else a0)=cv:=by
      rw[<-hcv,<-hbad];unfold KG;rw[ha0,hkk]
      by_cases h1:0<=a0<;>by_cases h2:kk=kd<;>simp[h1,h2]
     have HCV:=zH hcv2;have HCJ:=zH hcv;have HBAD:=zH hbad
     have VO:Hid (∀W:World,jg b B s (.slice (some ⟨gi,0,none⟩) k ci) m W->Calls Try.prog 69 #[.agg #[.slice s.ta s.types.length s.tc,.slice s.sa s.syms.length s.sc],.int .i64 j,.string KEY] W fun e w'=>e=.returned (.int .i64 a0)/\Below W.heap.size W w'):=zH fun W hW=>by
      have:=HAT.out m W hW j
      rwa [ha0]at this
     have xh:Hid (∀W:World,jg b B s (.slice (some ⟨gi,0,none⟩) k ci) m W->Calls Try.prog 68 #[.agg #[.slice s.ta s.types.length s.tc,.slice s.sa s.syms.length s.sc],.int .i64 j,.int .i64 a0] W fun e w'=>e=.returned (.int .i64 kk)/\Below W.heap.size W w'):=zH fun W hW=>by
      have:=MN.out m W hW j a0
      rwa [hkk]at this
     have s0:wo.cell? ⟨b,0,none⟩=some (.slice s.ta s.types.length s.tc):=HV.out.st.bk.cell 0;have s1:wo.cell? ⟨b,1,none⟩=some (.slice s.sa s.syms.length s.sc):=HV.out.st.bk.cell 1;have x4:wo.cell? ⟨bx,4,none⟩=some (.string KEY):=HV.out.kx.cell 4;clear ha0 hkk hcv hcv2 hbad HAT MN;go_upto_region 19 with fail
     refine wx (fun k => false) [.is (.pointer (some ⟨b, 0, none⟩)),
       .is (.pointer (some ⟨b,0,none⟩)),
       .is (.pointer (some ⟨b,0,none⟩)),
       .is (.agg #[.slice s.ta s.types.length s.tc,.slice s.sa s.syms.length s.sc]),
       .is (.int .i64 j),
       .is (.pointer (some ⟨bx,4,none⟩)),
       .is (.string KEY),
       .is (.int .i64 a0),
       .is (.int .i64 a0)] [3,7] (by kernel_rfl) (by kernel_rfl) (by kernel_rfl)
       (fun C=>.c (px C rfl (fun _ _=>rfl)) <|
       .c (px C rfl (fun _ _=>rfl)) <|
       .c (px C rfl (fun _ _=>rfl)) <|
       .c (pz [2] [] (by kernel_rfl) fun qK qa wr hB qO qF hK=>?_) <|
       .c (px C rfl (fun _ _=>rfl)) <|
       .c (px C rfl (fun _ _=>rfl)) <|
       .c (px C rfl (fun _ h=>bW (Gf (bc h x4)))) <|
       .c (pz [3,4,6] [] (by kernel_rfl) fun qK qa wr hB qO qF hK=>?_) <|
       .c (px C rfl (fun _ _=>rfl)) <| .nil) ?_
     ·have e117:=ay qF.1 rfl rfl;clear qO qF;have hs0:=zE hB s0;have hs1:=zE hB s1;go_simp;exact hK _ _ zR rfl
     ·have e118:=ay qF.1 rfl rfl;have e119:=ay qF.2.1 rfl rfl;have e121:=ay qF.2.2.1 rfl rfl;clear qO qF;go_simp
      go_at_call 69
      refine(VO.out wr (HV.out.st.old hB)).mono ?_;rintro r w9 ⟨rfl,dO⟩;exact hK _ _ dO rfl
     intro qx wr hB hR hS;clear hR hS;simp only[bJ,List.take_succ_cons,List.take_zero,List.drop_succ_cons,List.drop_zero,List.toList_toArray,List.length_cons,List.length_nil,Act.put,List.setIfInBounds_toArray,List.set_cons_zero,List.set_cons_succ];refine zn ?_;have HV5:=zH (HV.out.old hB);have HO5:=zH (aQ HO.out hB);have t0:=zE hB s0;have t1:=zE hB s1;clear hB s0 s1 x4 HV HO VO;obtain⟨w5,rfl⟩:∃z:World,z=wr:=⟨_,rfl⟩
     go_upto_region 20 with fail
     go_cut[135] (fun v wx=>v=.bool bad/\Hid (MV b B bx s (.slice (some ⟨gi,0,none⟩) k ci) m0.items #[c0,c1,c2,c3,.string KEY,.int .i64 ka] w w0 m wx/\wx.ownsRow w0.heap.size 3 1 (.slice A j c) j (aU ((List.range j).map (KG s KEY.toList kd)))))
     case first=>
      as_aux_lemma=>
      have hb:=HBAD.out
      by_cases h0:0<=a0
      ·have hd:decide (0<=a0)=true:=by simpa using h0
       rw[hd,Bool.true_and]at hb;have HB1:=zH hb;clear hb hd;go_wp2_with fail
       refine(xh.out _ HV5.out.st).mono ?_;rintro r w6 ⟨rfl,hb6⟩;have fM:=zH (And.intro (HV5.out.old hb6) (aQ HO5.out hb6));have hb:=HB1.out;clear hb6 xh HB1 t0 t1 HBAD;go_wp2_with fail
       go_meet
       exact⟨by first|rfl|rw[hb],fM⟩
      ·have hd:decide (0<=a0)=false:=by simpa using h0
       rw[hd,Bool.false_and]at hb;subst hb;clear HBAD hd;go_wp2_with fail
       go_meet
       exact⟨rfl,zH ⟨HV5.out,HO5.out⟩⟩
     case rest=>
     rename World=>EO
     obtain⟨rfl,fM⟩:=hcut;clear HV5 HO5 t0 t1 xh HBAD;obtain⟨w6,rfl⟩:∃z:World,z=EO:=⟨_,rfl⟩
     go_upto_if 135 with fail
     go_cut[11] (fun v wx=>v=.int .i64 cv/\w6=wx)
     case first=>
      as_aux_lemma=>
      have hc:=HCV.out;cases bad
      ·rw[if_neg (by decide)]at hc;subst hc;go_wp2_with fail
       go_meet
       exact⟨rfl,rfl⟩
      ·rw[if_pos rfl]at hc;subst hc;go_wp2_with fail
       go_meet
       exact⟨rfl,rfl⟩
     case rest=>
     obtain⟨rfl,hwc⟩:=hcut;subst hwc;have jc:Below w6.heap.size w6 (w6.alloc (.cells #[.int .i64 cv] 3)):=zR.alloc zL _;have dD:=aQ fM.out.2 jc;have oU:w0.heap.size<=(w6.alloc (.cells #[.int .i64 cv] 3)).heap.size:=by have:=fM.out.1.sz;simp;omega
     have ML:=zH (fM.out.1.old jc);clear fM HCV;go_wp2_with (first|at_builtin;(refine aH (by rfl) _ _ 22 (by rfl) w0.heap.size 3 iT _ 1 8 Try.underlying22 hT hT0 hT1 hT2 rfl (by decide) (.slice A j c) j _ (by rfl) dD (w6.heap.size+1) (some ⟨w6.heap.size,0,none⟩) 1 1 [.int .i64 cv] (by rfl) (Rd.lit rfl _ _) (by rfl) ?c2 ?c3 ?c4 oU ?_))
     case c2=>intro u hu;simp at hu;subst hu;rfl
     case c3=>unfold maxLen;omega
     case c4=>omega
     intro A6 c6 w7 hown6 jK _
     have hneb:some bx≠(Value.slice A j c).ownBlock:=by
      intro he;have:=(dD.lt bx he.symm).1;omega
     have rZ:Hid (MV b B bx s (.slice (some ⟨gi,0,none⟩) k ci) m0.items #[c0,c1,c2,c3,.string KEY,.int .i64 ka] w w0 m w7):=zH
      ⟨ML.out.st.RD dD VA HIV.out jK,by
       have hwl:w.heap.size<=w0.heap.size:=by have:=jw.out;omega
       exact DL ML.out.gw dD hwl jK,ML.out.kx.grown jK hneb,ML.out.it,by have:=jK.size;have:=ML.out.sz;omega⟩
     have HO8:Hid (w7.ownsRow w0.heap.size 3 1 (.slice A6 (j+1) c6) (j+1) (aU ((List.range (j+1)).map (KG s KEY.toList kd)))):=zH (by
      rw[List.range_succ,List.map_append];unfold aU at hown6⊢;rw[List.map_append];simp only[List.map_cons,List.map_nil,HCJ.out]
      exact hown6)
     clear hown6 jK dD oU hneb jc ML HCJ;go_wp2
     go_roundw
     case rel=>exact⟨j+1,A6,c6,by omega,rfl,by go_num,rZ,HO8⟩
     case measure=>simp[intOf];omega
    ·as_aux_lemma=>
     obtain rfl:j=N:=by omega
     have HO9:Hid (wo.ownsRow w.heap.size 3 1 (.slice A j c) j (aU KS)):=zH (by
      rw[<-Y8.out,Gs.out]
      exact di HO.out (by have:=jw.out;omega))
     have Xv:Hid (j=KS.length):=zH (by rw[<-Y8.out,Gs.out];simp);have HF:Hid (gW b B s (.slice (some ⟨gi,0,none⟩) k ci) m w wo):=zH ⟨HV.out.st,HV.out.gw⟩;clear HO Y8 HV hlt hj;go_wp2
     go_ret
     exact⟨A,j,c,rfl,Xv.out,HO9.out,HF.out⟩
end Go.Proofs.Ytbjnhllkdilpfaa
