/- Part 23 of the proof. No conditions. -/
import Derived.Test.YtbjnhllkdilpfaaZb22
namespace Go.Proofs.Ytbjnhllkdilpfaa
open Go.RowKit
set_option linter.unusedSimpArgs false
set_option linter.unusedVariables false
set_option maxHeartbeats 16000000
set_option maxRecDepth 100000
theorem qJ {P : Nat → Prop} (b B : Nat) (s : ah) (iv : Value) (m : MS) (plain : Bool) (hn : m.items.length ≤ 1000) : ∀ (e : au) (cs : List Value) (w : World), ja b B s iv m w → kN P w e cs → aG e ≤ 100000 →
  Calls Try.prog 71 #[.pointer (some ⟨b,0,none⟩),.agg cs.toArray,.bool plain] w (xh (dA m.items plain e) w)
 |.leaf op n sc nm a p,cs,w,hm,h,hs=>by
  obtain rfl:cs=iC op n sc nm a p:=h;have:=sQ b B s iv m op p (.int .i64 n) (.int .i64 sc) (.string (bytes a)) (bytes nm) plain none 0 0 [] rfl (by omega) w hm hn (by simp) (fun j hj=>absurd hj (by simp));rw[aJ,List.flatten_nil,List.append_nil]at this;exact this
 |.un op x p,cs,w,hm,h,hs=>by
  obtain⟨g,xs,rfl,hP,hk,hx⟩:=h;obtain⟨y0,y1,y2,y3,y4,y5,y6,rfl,hy⟩:=hx.seven;have hs:1+aG x<=100000:=hs;have hle:=kF m.items plain x
  have:=sQ b B s iv m op p (.int .i64 0) (.int .i64 0) (.string ⟨#[]⟩) ⟨#[]⟩ plain (some ⟨g,0,none⟩) 1 1 [dA m.items plain x] rfl (by omega) w hm hn (by simp;omega) (fun j hj=>by
   match j,hj with
   |0,_=>exact⟨g,y0,y1,y2,y3,y4,y5,y6,rfl,hk.lt,fun q u hu=>by rw[hk.cell];simpa using hu,fun W hW=>qJ b B s iv m plain hn x _ W (hm.old hW) (hx.old hW) (by omega)⟩)
  rw[show(⟨#[]⟩:ByteArray).toList=[] by rw[ByteArray.toList_eq]]at this;have e:dA m.items plain (.un op x p)=eH m.items op [] plain++[dA m.items plain x].flatten:=by simp[dA]
  rw[e];exact this
 |.bin op x y p,cs,w,hm,h,hs=>by
  obtain⟨g,xs,ys,rfl,hP,hk,hx,hy⟩:=h;obtain⟨x0,x1,x2,x3,x4,x5,x6,rfl,_⟩:=hx.seven;obtain⟨y0,y1,y2,y3,y4,y5,y6,rfl,_⟩:=hy.seven;have hs:1+aG x+aG y<=100000:=hs;have hlx:=kF m.items plain x;have hly:=kF m.items plain y
  have:=sQ b B s iv m op p (.int .i64 0) (.int .i64 0) (.string ⟨#[]⟩) ⟨#[]⟩ plain (some ⟨g,0,none⟩) 2 2 [dA m.items plain x,dA m.items plain y] rfl (by omega) w hm hn (by simp;omega) (fun j hj=>by
   match j,hj with
   | 0, _ => exact ⟨g, x0, x1, x2, x3, x4, x5, x6, rfl, hk.lt, fun q u hu => by
     rw[hk.cell];have hq:q<7:=(List.getElem?_eq_some_iff.1 hu).1;rw[List.getElem?_toArray]
     rw[List.getElem?_append_left (by simp;omega),Nat.zero_mul,Nat.zero_add,hu],fun W hW=>qJ b B s iv m plain hn x _ W (hm.old hW) (hx.old hW) (by omega)⟩
   | 1, _ => exact ⟨g, y0, y1, y2, y3, y4, y5, y6, rfl, hk.lt, fun q u hu => by
     rw[hk.cell];rw[List.getElem?_toArray];rw[List.getElem?_append_right (by simp)]
     simpa using hu,fun W hW=>qJ b B s iv m plain hn y _ W (hm.old hW) (hy.old hW) (by omega)⟩)
  rw[show(⟨#[]⟩:ByteArray).toList=[] by rw[ByteArray.toList_eq]]at this;have e:dA m.items plain (.bin op x y p)=eH m.items op [] plain++[dA m.items plain x,dA m.items plain y].flatten:=by simp[dA]
  rw[e];exact this
def Fz (s:ah) (op:Nat) (nm a:Str) (items:List cO):Bool×Int:=
 if op≠25/\a≠iq then((dW nm items).2&&decide (0<=bQ s (dW nm items).1.kind a),fF s (dW nm items).1.kind (bQ s (dW nm items).1.kind a))else((dW nm items).2,1)
def badM (op:Nat) (form:Nat) (k:Int):Bool:=((decide (24<op)&&form !=2)||(((decide (28<=op)&&decide (op<=30))&&k !=1)&&k !=4))||(op==31&&k !=4)
def mY (s:ah) (op:Nat) (nm a:Str) (p:Nat) (m:MS):Int×MS:=
 if(Fz s op nm a m.items).1=false then(0,dI 10 p m)
 else if badM op (dW nm m.items).1.form (Fz s op nm a m.items).2=true then((Fz s op nm a m.items).2,dI 11 p m)
 else((Fz s op nm a m.items).2,m)
theorem ah.ok.more {s:ah} {w:World} {b b':Nat} (h:s.ok w b) (hb:b<=b'):s.ok w b':=
 ⟨h.rd.more hb,h.len,fun t ht=>⟨(h.each t ht).rd.more hb,(h.each t ht).len,(h.each t ht).N8,(h.each t ht).N9⟩,h.syms.more hb,h.slen,h.ssize⟩
def Ri (b gx gy:Nat) (s:ah) (xk:Int) (S2:ByteArray):List Spec:=[.is (.pointer (some ⟨b,0,none⟩)),
 .is (.pointer (some ⟨b,0,none⟩)),
 .is (.pointer (some ⟨b,0,none⟩)),
 .is (.agg #[.slice s.ta s.types.length s.tc,.slice s.sa s.syms.length s.sc]),
 .is (.pointer (some ⟨gy,5,none⟩)),
 .is (.int .i64 xk),
 .is (.pointer (some ⟨gx,5,none⟩)),
 .is (.string S2),
 .is (.int .i64 (bQ s xk S2.toList)),
 .is (.int .i64 (bQ s xk S2.toList))]
def Rj (b gy:Nat) (s:ah) (xk aa:Int):List Spec:=[.is (.pointer (some ⟨b,0,none⟩)),
 .is (.pointer (some ⟨b,0,none⟩)),
 .is (.pointer (some ⟨b,0,none⟩)),
 .is (.agg #[.slice s.ta s.types.length s.tc,.slice s.sa s.syms.length s.sc]),
 .is (.pointer (some ⟨gy,5,none⟩)),
 .is (.int .i64 xk),
 .is (.int .i64 aa),
 .is (.int .i64 (fF s xk aa)),
 .is (.int .i64 (fF s xk aa))]
theorem Ik (b B : Nat) (s : ah) (iv : Value) (m : MS) (op p : Nat) (c1 c2 c3 : Value) (S1 S2 : ByteArray) (w : World) (h : ja b B s iv m w) (hbB : b < B) (hn : m.items.length ≤ 1000) :
  Calls Try.prog 86 #[.pointer (some ⟨b,0,none⟩),.agg #[.int .i64 op,c1,c2,c3,.string S1,.string S2,.int .i64 p]] w fun r w'=>r=.returned (.int .i64 (mY s op S1.toList S2.toList p m).1)/\gJ b B s iv (mY s op S1.toList S2.toList p m).2 w w':=by
 have xK:Hid (∀W:World,Below w.heap.size w W->Calls Try.prog 66 #[.pointer (some ⟨b,0,none⟩),.string S1] W fun r w'=>r=.returned (.tuple #[.agg (dW S1.toList m.items).1.cells.toArray,.bool (dW S1.toList m.items).2])/\Below W.heap.size W w'):=zH fun W hW=>uy b B s iv m W S1 (h.old hW) hn
 have jG:Hid (∀(e:Nat) (W:World),Below w.heap.size w W->Calls Try.prog 67 #[.pointer (some ⟨b,0,none⟩),.int .i64 e,.int .i64 p] W fun r w'=>r=.returned (.tuple #[])/\gJ b B s iv (dI e p m) W w'):=zH fun e W hW=>jk b B s iv m W e p (h.old hW) hbB
 have HAT:Hid (∀(t:Int) (W:World),Below w.heap.size w W->Calls Try.prog 69 #[.agg #[.slice s.ta s.types.length s.tc,.slice s.sa s.syms.length s.sc],.int .i64 t,.string S2] W fun e w'=>e=.returned (.int .i64 (bQ s t S2.toList))/\Below W.heap.size W w'):=zH fun t W hW=>sO s t S2 W ((h.old hW).Bf.more (Nat.le_of_lt (h.old hW).bk.lt))
 have Jv:Hid (∀(t a:Int) (W:World),Below w.heap.size w W->Calls Try.prog 68 #[.agg #[.slice s.ta s.types.length s.tc,.slice s.sa s.syms.length s.sc],.int .i64 t,.int .i64 a] W fun e w'=>e=.returned (.int .i64 (fF s t a))/\Below W.heap.size W w'):=zH fun t a W hW=>Fp s t a W ((h.old hW).Bf.more (Nat.le_of_lt (h.old hW).bk.lt))
 obtain⟨RES,hres⟩:∃R,mY s op S1.toList S2.toList p m=R:=⟨_,rfl⟩
 rw[hres];unfold mY Fz at hres;obtain⟨⟨⟨nm,xb,xp,xo,xf,xk⟩,fb⟩,hx⟩:∃z,dW S1.toList m.items=z:=⟨_,rfl⟩
 rw[hx]at hres xK;simp only[cO.cells]at hres xK;have aK:=zH hres;have HM:=zH h;have hbl:=h.bk.lt;obtain⟨M,hM⟩:∃M,bytes nm=M:=⟨_,rfl⟩
 rw[hM]at xK;clear hres h hx hM
 go_enter Try.func86,Try.ntmps86
 have kb:=Bk.new w 118 #[.int .i64 op,c1,c2,c3,.string S1,.string S2,.int .i64 p];have hb0:Below w.heap.size w (w.alloc (.cells #[.int .i64 op,c1,c2,c3,.string S1,.string S2,.int .i64 p] 118)):=zR.alloc zL _;go_upto_region 1 with fail
 generalize w.alloc (.cells #[.int .i64 op,c1,c2,c3,.string S1,.string S2,.int .i64 p] 118)=w0 at *;have hgx:=kb.lt;obtain⟨gx,VN⟩:∃z,w.heap.size=z:=⟨_,rfl⟩
 rw[VN]at kb hgx hbl⊢;have q4:=kb.cell 4;have HKB:=zH kb;have HB0:=zH hb0;have Bh:=zH VN;clear kb hb0 VN;go_wp2_with fail
 refine(xK.out w0 HB0.out).mono ?_;rintro r w2 ⟨rfl,hb2⟩;have hz2:=hb2.size;have HB2:=zH hb2;clear hb2 xK q4;go_upto_region 2 with(first|(refine ae fQ rfl _ _ rfl rfl [.string M,.int .i64 xb,.int .i64 xp,.int .i64 xo,.int .i64 xf,.int .i64 xk] rfl (Bk.new w2 _ _) rfl rfl rfl ?_;intro wA pA;go_frame))
 have Eg:=zH (pA.below _ _ (HB2.out.alloc HB2.out.size _) (by have:=HB2.out.size;omega));have Uc:=zH pA.bk;have L9:w2.heap.size<wA.heap.size:=pA.bk.lt;generalize w2.heap.size=gy at *;clear pA HB2;obtain⟨lk,hlk⟩:∃z,(decide (op≠25)&& !(S2.toList==iq))=z:=⟨_,rfl⟩
 have hres:=aK.out;have hcond:(op≠25/\S2.toList≠iq)<->lk=true:=by rw[<-hlk];simp
 obtain⟨⟨Rk,kk⟩,hpr⟩:∃z,(if op≠25/\S2.toList≠iq then(fb&&decide (0<=bQ s xk S2.toList),fF s xk (bQ s xk S2.toList))else(fb,1):Bool×Int)=z:=⟨_,rfl⟩
 rw[hpr]at hres;simp only at hres
 have KG:(Rk,kk)=if lk=true then(fb&&decide (0<=bQ s xk S2.toList),fF s xk (bQ s xk S2.toList))else(fb,1):=by
  rw[<-hpr]
  by_cases hc:lk=true
  ·rw[if_pos hc,if_pos (hcond.2 hc)]
  ·rw[if_neg hc,if_neg (fun h=>hc (hcond.1 h))]
 have AA:=zH KG;have X0:=zH hlk;clear aK;have aK:=zH hres;clear hres hcond hpr KG hlk;go_upto_region 3 with fail
 have kq:=HKB.out.below Eg.out hgx;have q0:=kq.cell 0;have q5:=kq.cell 5;clear kq
 go_cut[23] (fun v wx=>v=.bool lk/\wA=wx)
 case first=>
  as_aux_lemma=>
  have hl:=X0.out
  by_cases h25:op=25
  ·have e25:((op:Int) !=25)=false:=by rw[bne_eq_false_iff_eq];omega
   have hst:lk=false:=by rw[<-hl];simp[h25]
   subst hst;clear h25 hl;go_wp2_with fail
   go_meet
   exact⟨rfl,rfl⟩
  ·have e25:((op:Int) !=25)=true:=by rw[bne_iff_ne];omega
   obtain⟨tm,Eh⟩:∃z,(S2.toList==[84,73,77,69])=z:=⟨_,rfl⟩
   have htn:(S2.toList !=[84,73,77,69])= !tm:=by rw[bne,Eh]
   have hst:lk= !tm:=by
    rw[<-hl,show(S2.toList==iq)=tm from Eh];simp[h25]
   subst hst;clear h25 hl;cases tm
   all_goals
    go_wp2_with fail
    go_meet
    exact⟨rfl,rfl⟩
 case rest=>
 obtain⟨rfl,hwc⟩:=hcut;subst hwc;clear q0 q5;go_upto_if 23 with fail
 go_cut[6,7] (fun v6 v7 wx=>v6=.bool Rk/\v7=.int .i64 kk/\Hid (Below wA.heap.size wA wx))
 case first=>
  as_aux_lemma=>
  cases lk
  case false=>
   have hp:=AA.out;rw[if_neg (by decide)]at hp;injection hp with h1 h2
   subst h1;subst h2;go_wp2_with fail
   go_meet
   exact⟨rfl,rfl,zH zR⟩
  case true=>
   have hp:=AA.out;rw[if_pos rfl]at hp;injection hp with h1 h2
   obtain⟨aa,haa⟩:∃z,bQ s xk S2.toList=z:=⟨_,rfl⟩
   rw[haa]at h1 h2;have HAA:=zH haa;have H1:=zH h1;have H2:=zH h2;clear h1 h2 haa AA X0 aK;go_upto_region 4 with fail
   have wY:Hid (Below w.heap.size w wA):=zH (HB0.out.trans (Eg.out.mono HB0.out.size));have hmw:=HM.out.old wY.out;have s0:wA.cell? ⟨b,0,none⟩=some (.slice s.ta s.types.length s.tc):=hmw.bk.cell 0;have s1:wA.cell? ⟨b,1,none⟩=some (.slice s.sa s.syms.length s.sc):=hmw.bk.cell 1;have y5:wA.cell? ⟨gy,5,none⟩=some (.int .i64 xk):=Uc.out.cell 5;have x5:wA.cell? ⟨gx,5,none⟩=some (.string S2):=(HKB.out.below Eg.out hgx).cell 5;clear hmw;obtain⟨W,hW⟩:∃W,wA=W:=⟨_,rfl⟩
   rw[hW]at wY s0 s1 y5 x5 Uc Eg L9⊢;have HWA:=zH hW;clear hW;refine dU (by kernel_rfl) (fun qk=>(Ri b gx gy s xk S2).getD qk .any) (by kernel_rfl) ?_ ?_
   ·refine aj.cons rfl [] [0] rfl rfl (by kernel_rfl) (by kernel_rfl) (fun qK qa wr hB qO qF hK=>?_) ?_
    ·have e0:qa.tmps[0]? =some (.pointer (some ⟨b,0,none⟩)):=qO.1.trans rfl;clear qO qF;go_simp;exact hK _ _ zR rfl
    refine aj.cons rfl [0] [] rfl rfl (by kernel_rfl) (by kernel_rfl) (fun qK qa wr hB qO qF hK=>?_) ?_
    ·have e24:=aH qF.1 rfl rfl;clear qO qF;go_simp;exact hK _ _ zR rfl
    refine aj.cons rfl [1] [] rfl rfl (by kernel_rfl) (by kernel_rfl) (fun qK qa wr hB qO qF hK=>?_) ?_
    ·have e25:=aH qF.1 rfl rfl;clear qO qF;go_simp;exact hK _ _ zR rfl
    refine aj.cons rfl [2] [] rfl rfl (by kernel_rfl) (by kernel_rfl) (fun qK qa wr hB qO qF hK=>?_) ?_
    ·have e26:=aH qF.1 rfl rfl;clear qO qF;have hs0:=zE hB s0;have hs1:=zE hB s1;go_simp;exact hK _ _ zR rfl
    refine aj.cons rfl [] [5] rfl rfl (by kernel_rfl) (by kernel_rfl) (fun qK qa wr hB qO qF hK=>?_) ?_
    ·have e5:qa.tmps[5]? =some (.pointer (some ⟨gy,0,none⟩)):=qO.1.trans rfl;clear qO qF;go_simp;exact hK _ _ zR rfl
    refine aj.cons rfl [4] [] rfl rfl (by kernel_rfl) (by kernel_rfl) (fun qK qa wr hB qO qF hK=>?_) ?_
    ·have e28:=aH qF.1 rfl rfl;clear qO qF;have hy5:=zE hB y5;go_simp;exact hK _ _ zR rfl
    refine aj.cons rfl [] [3] rfl rfl (by kernel_rfl) (by kernel_rfl) (fun qK qa wr hB qO qF hK=>?_) ?_
    ·have e3:qa.tmps[3]? =some (.pointer (some ⟨gx,0,none⟩)):=qO.1.trans rfl;clear qO qF;go_simp;exact hK _ _ zR rfl
    refine aj.cons rfl [6] [] rfl rfl (by kernel_rfl) (by kernel_rfl) (fun qK qa wr hB qO qF hK=>?_) ?_
    ·have e30:=aH qF.1 rfl rfl;clear qO qF;have hx5:=zE hB x5;go_simp;exact hK _ _ zR rfl
    refine aj.cons rfl [3,5,7] [] rfl rfl (by kernel_rfl) (by kernel_rfl) (fun qK qa wr hB qO qF hK=>?_) ?_
    ·have e27:=aH qF.1 rfl rfl;have e29:=aH qF.2.1 rfl rfl;have e31:=aH qF.2.2.1 rfl rfl;clear qO qF;go_simp
     go_at_call 69
     refine(HAT.out xk wr (wY.out.trans (hB.mono wY.out.size))).mono ?_;rintro r w9 ⟨rfl,dZ⟩;exact hK _ _ dZ rfl
    refine aj.cons rfl [8] [] rfl rfl (by kernel_rfl) (by kernel_rfl) (fun qK qa wr hB qO qF hK=>?_) ?_
    ·have e32:=aH qF.1 rfl rfl;clear qO qF;go_simp;exact hK _ _ zR rfl
    exact aj.nil
   intro vals wr hl hB hR
   match vals,hl with
   |[z24,z25,z26,z27,z28,z29,z30,z31,z32,z8],_=>
   have r9:z8=.int .i64 (bQ s xk S2.toList):=hR 9 _ rfl;subst r9;clear hR;simp only[List.cons_append,List.nil_append,aN,Act.put,List.setIfInBounds_toArray,List.set_cons_zero,List.set_cons_succ];rw[HAA.out];have HB4:=zH hB;have Zr:=zH (wY.out.trans (hB.mono wY.out.size));have y5:=(aU hB gy 5 L9).trans y5;have hs0:=(aU hB b 0 (by have:=wY.out.size;have:=Bh.out;have:=HM.out.bk.lt;omega)).trans s0;have hs1:=(aU hB b 1 (by have:=wY.out.size;have:=Bh.out;have:=HM.out.bk.lt;omega)).trans s1;clear hB s0 s1 x5 wY;have wY:=Zr;clear Zr;go_upto_region 5 with fail
   go_cut[6] (fun v wx=>v=.bool Rk/\wr=wx)
   case first=>
    as_aux_lemma=>
    have h1:=H1.out;cases fb
    case false=>
     have hst:Rk=false:=by rw[h1];rfl
     subst hst;clear h1;go_wp2_with fail
     go_meet
     exact⟨rfl,rfl⟩
    case true=>
     replace h1:Rk=decide (0<=aa):=by rw[h1];rfl
     by_cases h0:0<=aa
     ·have hst:Rk=true:=h1.trans (decide_eq_true h0);have hd:decide ((0:Int)<=aa)=true:=decide_eq_true h0;subst hst;clear h1 h0;go_wp2_with fail
      go_meet
      exact⟨rfl,rfl⟩
     ·have hst:Rk=false:=h1.trans (decide_eq_false h0);have hd:decide ((0:Int)<=aa)=false:=decide_eq_false h0;subst hst;clear h1 h0;go_wp2_with fail
      go_meet
      exact⟨rfl,rfl⟩
   case rest=>
   obtain⟨rfl,hwc⟩:=hcut;subst hwc;go_upto_region 6 with fail
   obtain⟨W2,hW⟩:∃W2,wr=W2:=⟨_,rfl⟩
   have s0:=hs0;have s1:=hs1;rw[hW]at wY HB4 s0 s1 y5⊢;clear hW hs0 hs1 L9;obtain⟨W,hW⟩:∃W,W2=W:=⟨_,rfl⟩
   rw[hW]at wY HB4 s0 s1 y5⊢;clear hW;refine dU (by kernel_rfl) (fun qk=>(Rj b gy s xk aa).getD qk .any) (by kernel_rfl) ?_ ?_
   ·refine aj.cons rfl [] [0] rfl rfl (by kernel_rfl) (by kernel_rfl) (fun qK qa wr hB qO qF hK=>?_) ?_
    ·have e0:qa.tmps[0]? =some (.pointer (some ⟨b,0,none⟩)):=qO.1.trans rfl;clear qO qF;go_simp;exact hK _ _ zR rfl
    refine aj.cons rfl [0] [] rfl rfl (by kernel_rfl) (by kernel_rfl) (fun qK qa wr hB qO qF hK=>?_) ?_
    ·have e38:=aH qF.1 rfl rfl;clear qO qF;go_simp;exact hK _ _ zR rfl
    refine aj.cons rfl [1] [] rfl rfl (by kernel_rfl) (by kernel_rfl) (fun qK qa wr hB qO qF hK=>?_) ?_
    ·have e39:=aH qF.1 rfl rfl;clear qO qF;go_simp;exact hK _ _ zR rfl
    refine aj.cons rfl [2] [] rfl rfl (by kernel_rfl) (by kernel_rfl) (fun qK qa wr hB qO qF hK=>?_) ?_
    ·have e40:=aH qF.1 rfl rfl;clear qO qF;have hs0:=zE hB s0;have hs1:=zE hB s1;go_simp;exact hK _ _ zR rfl
    refine aj.cons rfl [] [5] rfl rfl (by kernel_rfl) (by kernel_rfl) (fun qK qa wr hB qO qF hK=>?_) ?_
    ·have e5:qa.tmps[5]? =some (.pointer (some ⟨gy,0,none⟩)):=qO.1.trans rfl;clear qO qF;go_simp;exact hK _ _ zR rfl
    refine aj.cons rfl [4] [] rfl rfl (by kernel_rfl) (by kernel_rfl) (fun qK qa wr hB qO qF hK=>?_) ?_
    ·have e42:=aH qF.1 rfl rfl;clear qO qF;have hy5:=zE hB y5;go_simp;exact hK _ _ zR rfl
    refine aj.cons rfl [] [8] rfl rfl (by kernel_rfl) (by kernel_rfl) (fun qK qa wr hB qO qF hK=>?_) ?_
    ·have e8:qa.tmps[8]? =some (.int .i64 aa):=qO.1.trans rfl;clear qO qF;go_simp;exact hK _ _ zR rfl
    refine aj.cons rfl [3,5,6] [] rfl rfl (by kernel_rfl) (by kernel_rfl) (fun qK qa wr hB qO qF hK=>?_) ?_
    ·have e41:=aH qF.1 rfl rfl;have e43:=aH qF.2.1 rfl rfl;have e44:=aH qF.2.2.1 rfl rfl;clear qO qF;go_simp
     go_at_call 68
     refine(Jv.out xk aa wr (wY.out.trans (hB.mono wY.out.size))).mono ?_;rintro r w9 ⟨rfl,dZ⟩;exact hK _ _ dZ rfl
    refine aj.cons rfl [7] [] rfl rfl (by kernel_rfl) (by kernel_rfl) (fun qK qa wr hB qO qF hK=>?_) ?_
    ·have e45:=aH qF.1 rfl rfl;clear qO qF;go_simp;exact hK _ _ zR rfl
    exact aj.nil
   intro vals wr hl hB hR
   match vals,hl with
   |[z38,z39,z40,z41,z42,z43,z44,z45,z7],_=>
   have r8:z7=.int .i64 (fF s xk aa):=hR 8 _ rfl;subst r8;clear hR;simp only[List.cons_append,List.nil_append,aN,Act.put,List.setIfInBounds_toArray,List.set_cons_zero,List.set_cons_succ];have HBF:=zH (HB4.out.trans (hB.mono HB4.out.size));clear hB s0 s1 y5 wY HB4;go_wp2_with fail
   go_meet
   exact⟨rfl,by rw[H2.out],zH (by rw[HWA.out];exact HBF.out)⟩
 case rest=>
 obtain⟨rfl,rfl,HB⟩:=hcut;have KH:Hid (Below w.heap.size w wc):=zH ((HB0.out.trans (Eg.out.mono HB0.out.size)).trans (HB.out.mono (Nat.le_trans HB0.out.size Eg.out.size)));have q6:=((HKB.out.below Eg.out hgx).below HB.out (by have:=Eg.out.size;omega)).cell 6;cases Rk
 case false=>
  as_aux_lemma=>
  have hR:=aK.out;rw[if_pos rfl]at hR;subst hR;have HF:=zH (jG.out 10 wc KH.out);clear aK AA X0;go_wp2_with fail
  refine HF.out.mono ?_;rintro r w5 ⟨rfl,hs5⟩;have HG:=zH (And.intro hs5.st ((below_grown KH.out (some b)).trans hs5.grown));clear hs5 HF q6;go_wp2_with fail
  go_ret
  exact⟨rfl,HG.out.1,HG.out.2⟩
 case true=>
  have hR:=aK.out;rw[if_neg (by decide)]at hR;obtain⟨bad,hbad⟩:∃z,badM op xf kk=z:=⟨_,rfl⟩
  rw[hbad]at hR;have HR:=zH hR;have vJ:=zH hbad;have q0:=((HKB.out.below Eg.out hgx).below HB.out (by have:=Eg.out.size;omega)).cell 0;have y4:=(Uc.out.old HB.out).cell 4;clear aK hR hbad AA X0;go_upto_region 10 with fail
  go_cut[86] (fun v wx=>v=.bool bad/\wc=wx)
  case first=>
   as_aux_lemma=>
   have hb:=vJ.out;unfold badM at hb;obtain⟨f2,hf2⟩:∃z,((xf:Int) !=2)=z:=⟨_,rfl⟩
   obtain⟨k1,hk1⟩:∃z,(kk !=1)=z:=⟨_,rfl⟩
   obtain⟨k4,hk4⟩:∃z,(kk !=4)=z:=⟨_,rfl⟩
   have Zt:(xf !=2)=f2:=by rw[<-hf2,Bool.eq_iff_iff,bne_iff_ne,bne_iff_ne];omega
   rw[Zt,hk1,hk4]at hb;clear Zt;have hcl:op<=24\/(25<=op/\op<=27)\/(28<=op/\op<=30)\/op=31\/32<=op:=by omega
   rcases hcl with hc|hc|hc|hc|hc
   ·have l1:¬(24:Int)<(op:Int):=by omega
    have l2:¬(28:Int)<=(op:Int):=by omega
    have e31:((op:Int)==31)=false:=by rw[beq_eq_false_iff_ne];omega
    have hst:bad=false:=by
     rw[<-hb];have a1:decide (24<op)=false:=by simp;omega
     have a2:decide (28<=op)=false:=by simp;omega
     have a3:(op==31)=false:=by rw[beq_eq_false_iff_ne];omega
     rw[a1,a2,a3];rfl
    subst hst;clear hc hb;go_wp2_with fail
    go_meet
    exact⟨rfl,rfl⟩
   ·have l1:(24:Int)<(op:Int):=by omega
    have l2:¬(28:Int)<=(op:Int):=by omega
    have e31:((op:Int)==31)=false:=by rw[beq_eq_false_iff_ne];omega
    have hst:bad=f2:=by
     rw[<-hb];have a1:decide (24<op)=true:=by simp;omega
     have a2:decide (28<=op)=false:=by simp;omega
     have a3:(op==31)=false:=by rw[beq_eq_false_iff_ne];omega
     rw[a1,a2,a3];cases f2<;>rfl
    subst hst;clear hc hb;cases bad
    all_goals
     go_wp2_with fail
     go_meet
     exact⟨rfl,rfl⟩
   ·have l1:(24:Int)<(op:Int):=by omega
    have l2:(28:Int)<=(op:Int):=by omega
    have l3:(op:Int)<=(30:Int):=by omega
    have e31:((op:Int)==31)=false:=by rw[beq_eq_false_iff_ne];omega
    have hst:bad=(f2||(k1&&k4)):=by
     rw[<-hb];have a1:decide (24<op)=true:=by simp;omega
     have a2:decide (28<=op)=true:=by simp;omega
     have a4:decide (op<=30)=true:=by simp;omega
     have a3:(op==31)=false:=by rw[beq_eq_false_iff_ne];omega
     rw[a1,a2,a3,a4];cases f2<;>cases k1<;>cases k4<;>rfl
    subst hst;clear hc hb;cases f2<;>cases k1<;>cases k4
    all_goals
     go_wp2_with fail
     go_meet
     exact⟨rfl,rfl⟩
   ·have l1:(24:Int)<(op:Int):=by omega
    have l2:(28:Int)<=(op:Int):=by omega
    have l3:¬(op:Int)<=(30:Int):=by omega
    have e31:((op:Int)==31)=true:=by rw[beq_iff_eq];omega
    have hst:bad=(f2||k4):=by
     rw[<-hb];have a1:decide (24<op)=true:=by simp;omega
     have a2:decide (28<=op)=true:=by simp;omega
     have a4:decide (op<=30)=false:=by simp;omega
     have a3:(op==31)=true:=by rw[beq_iff_eq];omega
     rw[a1,a2,a3,a4];cases f2<;>cases k1<;>cases k4<;>rfl
    subst hst;clear hc hb;cases f2<;>cases k4
    all_goals
     go_wp2_with fail
     go_meet
     exact⟨rfl,rfl⟩
   ·have l1:(24:Int)<(op:Int):=by omega
    have l2:(28:Int)<=(op:Int):=by omega
    have l3:¬(op:Int)<=(30:Int):=by omega
    have e31:((op:Int)==31)=false:=by rw[beq_eq_false_iff_ne];omega
    have hst:bad=f2:=by
     rw[<-hb];have a1:decide (24<op)=true:=by simp;omega
     have a2:decide (28<=op)=true:=by simp;omega
     have a4:decide (op<=30)=false:=by simp;omega
     have a3:(op==31)=false:=by rw[beq_eq_false_iff_ne];omega
     rw[a1,a2,a3,a4];cases f2<;>cases k1<;>cases k4<;>rfl
    subst hst;clear hc hb;cases bad
    all_goals
     go_wp2_with fail
     go_meet
     exact⟨rfl,rfl⟩
  case rest=>
  obtain⟨rfl,hwc⟩:=hcut;subst hwc;clear q0 y4;cases bad
  case true=>
   as_aux_lemma=>
   have hR:=HR.out;rw[if_pos rfl]at hR;subst hR;have HF:=zH (jG.out 11 wc KH.out);clear HR;go_wp2_with fail
   refine HF.out.mono ?_;rintro r w5 ⟨rfl,hs5⟩;have HG:=zH (And.intro hs5.st ((below_grown KH.out (some b)).trans hs5.grown));clear hs5 HF q6;go_wp2_with fail
   go_ret
   exact⟨rfl,HG.out.1,HG.out.2⟩
  case false=>
   as_aux_lemma=>
   have hR:=HR.out;rw[if_neg (by decide)]at hR;subst hR;clear HR q6;go_wp2_with fail
   go_ret
   exact⟨rfl,HM.out.old KH.out,below_grown KH.out _⟩
end Go.Proofs.Ytbjnhllkdilpfaa
