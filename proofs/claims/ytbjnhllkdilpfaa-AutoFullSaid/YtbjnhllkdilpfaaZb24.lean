/- Part 24 of the proof. No conditions. -/
import Derived.Test.YtbjnhllkdilpfaaZb23
namespace Go.Proofs.Ytbjnhllkdilpfaa
open Go.RowKit
set_option linter.unusedSimpArgs false
set_option linter.unusedVariables false
set_option maxHeartbeats 16000000
set_option maxRecDepth 100000
def lM (s:ah) (op:Nat) (nm a:Str) (p:Nat) (ks:List Int) (m:MS):Int×MS:=
 if m.err≠0 then(0,m)
 else if op=20 then(1,m)
 else if op=21 then(4,m)
 else if op=22 then(2,m)
 else if op=23 then(3,if eU nm 0 (s.syms.map (·.toList))<0 then dI 10 p m else m)
 else if 24<=op then mY s op nm a p m
 else(FB op ks,if FB op ks=0 then dI 11 p m else m)
def dX (s:ah):au->MS->Int×MS
 |.leaf op _ _ nm a p,m=>lM s op nm a p [] m
 |.un op x p,m=>lM s op [] [] p [(dX s x m).1] (dX s x m).2
 |.bin op x y p,m=>lM s op [] [] p [(dX s x m).1,(dX s y (dX s x m).2).1] (dX s y (dX s x m).2).2
theorem dh (e p:Nat) (m:MS):(dI e p m).items=m.items:=by unfold dI;split<;>rfl
theorem Dx (s:ah) (op:Nat) (nm a:Str) (p:Nat) (m:MS):(mY s op nm a p m).2.items=m.items:=by
 unfold mY
 (repeat' split)<;>first|rfl|exact dh _ _ _
theorem qf (s:ah) (op:Nat) (nm a:Str) (p:Nat) (ks:List Int) (m:MS):(lM s op nm a p ks m).2.items=m.items:=by
 unfold lM
 (repeat' split)<;>first|rfl|exact dh _ _ _|exact Dx _ _ _ _ _ _|(simp only[];split<;>first|rfl|exact dh _ _ _)
theorem gu (s:ah):∀(e:au) (m:MS),(dX s e m).2.items=m.items
 |.leaf ..,m=>qf _ _ _ _ _ _ _
 |.un op x p,m=>(qf _ _ _ _ _ _ _).trans (gu s x m)
 |.bin op x y p,m=>(qf _ _ _ _ _ _ _).trans ((gu s y _).trans (gu s x m))
def uz:List (MS->Int×MS)->List Int->MS->List Int×MS
 |[],ks,m=>(ks,m)
 |f::fs,ks,m=>uz fs (ks++[(f m).1]) (f m).2
structure Zw (b B:Nat) (s:ah) (iv:Value) (items:List cO) (w:World) (A:Option Addr) (j:Nat) (f:MS->Int×MS):Prop where
 ex:∃(g:Nat) (d0 d1 d2 d3 d4 d5 d6:Value),A=some ⟨g,0,none⟩/\g<w.heap.size/\g≠b/\(∀(q:Nat) (u:Value),[d0,d1,d2,d3,d4,d5,d6][q]? =some u->w.cell? ⟨g,j*7+q,none⟩=some u)/\
  ∀(m:MS) (W:World),w.grownBy W (some b)->ja b B s iv m W->m.items=items->Calls Try.prog 70 #[.pointer (some ⟨b,0,none⟩),.agg #[d0,d1,d2,d3,d4,d5,d6]] W fun r W'=>r=.returned (.int .i64 (f m).1)/\gJ b B s iv (f m).2 W W'
 items:∀m,(f m).2.items=m.items
structure KdI (b B bx:Nat) (s:ah) (iv:Value) (items:List cO) (cells:Array Value) (w w0:World) (A:Option Addr) (n c:Nat) (ks:List Int) (m:MS) (W:World):Prop where
 st:ja b B s iv m W
 gw:w.grownBy W (some b)
 kx:Bk W bx 118 cells
 own:W.ownsRow w0.heap.size 3 1 (.slice A n c) n (aI ks)
 it:m.items=items
 sz:w0.heap.size<=W.heap.size
theorem ja.Om {b B:Nat} {s:ah} {iv:Value} {m:MS} {W W':World} {v:Value} {e:TypeId} {base size n:Nat} {xs:List Value} (h:ja b B s iv m W) (hr:W.ownsRow base e size v n xs) (hb:b<base) (hBb:∀k,iv.ownBlock=some k->k<base) (hg:W.grownBy W' v.ownBlock):ja b B s iv m W':=by
 have hne:some b≠v.ownBlock:=by
  intro he;have:=(hr.lt b he.symm).1;omega
 refine⟨h.bk.grown hg hne,h.Bf.iZ (iY zR hr (Nat.le_of_lt hb) hg (Nat.le_of_lt h.bk.lt)),h.own.kept hg ?_⟩;rcases hv:iv.ownBlock with _|k
 ·exact .inl rfl
 ·right
  intro he;have h1:=hBb k hv;have h2:=(hr.lt k he.symm).1;omega
theorem Cc {b B:Nat} {w wo w':World} {e:TypeId} {size n:Nat} {v:Value} {xs:List Value} (hg:w.grownBy wo (some b)) (h:wo.ownsRow B e size v n xs) (hB:w.heap.size<=B) (h2:wo.grownBy w' v.ownBlock):w.grownBy w' (some b):=EX hg (dF h hB) h2
theorem qL:(Try.prog.info? 3).map (fun i=>(i.zero,i.size,i.bytes))=some (some (.int .i64 0),1,8):=by kernel_rfl
def Rn (b bx:Nat) (s:ah) (S1:ByteArray) (sa:Int) (neg:Bool):List Spec:=[.is (.pointer (some ⟨b,0,none⟩)),
 .is (.pointer (some ⟨b,0,none⟩)),
 .is (.pointer (some ⟨b,0,none⟩)),
 .is (.pointer (some ⟨b,1,none⟩)),
 .is (.slice s.sa s.syms.length s.sc),
 .is (.pointer (some ⟨bx,4,none⟩)),
 .is (.string S1),
 .is (.int .i64 sa),
 .is (.bool neg)]
theorem vY (b B : Nat) (s : ah) (iv : Value) (m0 : MS) (op p : Nat) (c2 c3 : Value) (S1 S2 : ByteArray) (A0 : Option Addr) (k cc : Nat) (fs : List (MS → Int × MS)) (hk : fs.length = k) (hk2 : k ≤ 2) (w : World) (h : ja b B s iv m0 w) (hbB : b < B) (hn : m0.items.length ≤ 1000)
  (hcall:∀j (hj:j<fs.length),Zw b B s iv m0.items w A0 j fs[j]):
  Calls Try.prog 70 #[.pointer (some ⟨b,0,none⟩),.agg #[.int .i64 op,.slice A0 k cc,c2,c3,.string S1,.string S2,.int .i64 p]] w fun r w'=>
   r=.returned (.int .i64 (lM s op S1.toList S2.toList p (uz fs [] m0).1 (uz fs [] m0).2).1)/\gJ b B s iv (lM s op S1.toList S2.toList p (uz fs [] m0).1 (uz fs [] m0).2).2 w w':=by
 have HC:=zH hcall;have HKK:=zH hk;have HN:=zH hn;obtain⟨iT,hT,hT0,hT1,hT2⟩:=info_parts qL;obtain⟨⟨KS,MF⟩,hfold⟩:∃z,uz fs [] m0=z:=⟨_,rfl⟩
 rw[hfold];simp only[];have H0:Hid (uz (fs.drop 0) [] m0=(KS,MF)):=zH (by rw[List.drop_zero];exact hfold);obtain⟨RES,hres⟩:∃z,lM s op S1.toList S2.toList p KS MF=z:=⟨_,rfl⟩
 rw[hres];have aK:=zH hres;have HM:=zH h;have hbl:=h.bk.lt;clear hcall hk hfold hres h hn
 go_enter Try.func70,Try.ntmps70
 have kb:=Bk.new w 118 #[.int .i64 op,.slice A0 k cc,c2,c3,.string S1,.string S2,.int .i64 p];have hb0:Below w.heap.size w (w.alloc (.cells #[.int .i64 op,.slice A0 k cc,c2,c3,.string S1,.string S2,.int .i64 p] 118)):=zR.alloc zL _;go_upto_region 1 with fail
 obtain⟨w0,hw0⟩:∃z,w.alloc (.cells #[.int .i64 op,.slice A0 k cc,c2,c3,.string S1,.string S2,.int .i64 p] 118)=z:=⟨_,rfl⟩
 rw[hw0]at kb hb0⊢;clear hw0;obtain⟨bx,hbx⟩:∃z,w.heap.size=z:=⟨_,rfl⟩
 have jl:=zH hbx;rw[hbx]at kb⊢;have hbb:b<bx:=by omega
 have Zx:=kb.lt;have Ro:b<w0.heap.size:=by omega
 have q1:=kb.cell 1;have HIV:Hid (∀j,iv.ownBlock=some j->j<w0.heap.size):=zH fun j hj=>Nat.lt_of_lt_of_le (HM.out.own.lt j hj).2 hb0.size
 have V0:Hid (KdI b B bx s iv m0.items #[.int .i64 op,.slice A0 k cc,c2,c3,.string S1,.string S2,.int .i64 p] w w0 none 0 0 [] m0 w0):=zH ⟨HM.out.old hb0,below_grown hb0 _,kb,World.ownsRow_nil _ _ _ _,rfl,Nat.le_refl _⟩;clear kb hb0 hbx;go_wp2_with fail
 clear q1
 go_loopw[5,11] (fun l i wr=>∃(j:Nat) (A:Option Addr) (c:Nat) (ks:List Int) (m:MS),j<=k/\l=.slice A j c/\i=.int .i64 j/\ks.length=j/\Hid (uz (fs.drop j) ks m=(KS,MF))/\Hid (KdI b B bx s iv m0.items #[.int .i64 op,.slice A0 k cc,c2,c3,.string S1,.string S2,.int .i64 p] w w0 A j c ks m wr)) (fun _ i _=>k-(intOf i).toNat)
 case atStart=>exact⟨0,none,0,[],m0,Nat.zero_le _,rfl,rfl,rfl,H0,V0⟩
 case round=>
  clear H0 V0;obtain⟨j,A,c,ks,m,hj,rfl,rfl,hkl,HR,HV⟩:=hrel;have Oo:=zH hkl;clear hkl;obtain⟨wo,rfl⟩:∃wo:World,wo=wr:=⟨_,rfl⟩
  by_cases hlt:j<k
  ·as_aux_lemma=>
   have hjl:j<fs.length:=by rw[HKK.out];exact hlt
   obtain⟨g,d0,d1,d2,d3,d4,d5,d6,rfl,hg,hgb,hc,hq⟩:=(HC.out j hjl).ex;have hit:=(HC.out j hjl).items m;have hr:=HR.out;rw[List.drop_eq_getElem_cons hjl]at hr;have hr2:uz (fs.drop (j+1)) (ks++[(fs[j] m).1]) (fs[j] m).2=(KS,MF):=hr;have q1:=HV.out.kx.cell 1
   have hcc:∀(q:Nat) (u:Value),[d0,d1,d2,d3,d4,d5,d6][q]? =some u->wo.cell? ⟨g,j*7+q,none⟩=some u:=fun q u h=>by
    rw[<-hc q u h];exact World.cell?_of_block (w:=w) (HV.out.gw.block g hg (aC hgb))
   have r0:wo.cell? ⟨g,j*7,none⟩=some d0:=hcc 0 _ rfl;have r1:wo.cell? ⟨g,j*7+1,none⟩=some d1:=hcc 1 _ rfl;have r2:wo.cell? ⟨g,j*7+2,none⟩=some d2:=hcc 2 _ rfl;have r3:wo.cell? ⟨g,j*7+3,none⟩=some d3:=hcc 3 _ rfl;have r4:wo.cell? ⟨g,j*7+4,none⟩=some d4:=hcc 4 _ rfl;have r5:wo.cell? ⟨g,j*7+5,none⟩=some d5:=hcc 5 _ rfl;have r6:wo.cell? ⟨g,j*7+6,none⟩=some d6:=hcc 6 _ rfl;have HQ:=zH (hq m wo HV.out.gw HV.out.st HV.out.it);obtain⟨⟨kk,m2⟩,hfm⟩:∃z,fs[j] m=z:=⟨_,rfl⟩
   rw[hfm]at hr2 HQ hit;simp only at hr2 HQ hit;have HR2:=zH hr2;have HIT:=zH hit;clear hc hq hcc hr hr2 hfm hg hgb hit HR HC aK;go_wp2_with fail
   refine HQ.out.mono ?_;rintro r w2 ⟨rfl,hs2⟩;have hown2:=fP HV.out.own hs2.grown Ro;have hz2:w0.heap.size<=w2.heap.size:=Nat.le_trans HV.out.sz hs2.grown.size;have fV:Below w2.heap.size w2 (w2.alloc (.cells #[.int .i64 kk] 3)):=zR.alloc zL _;have bz:=aP hown2 fV;have kK:w0.heap.size<=(w2.alloc (.cells #[.int .i64 kk] 3)).heap.size:=by simp;omega
   have V2:ja b B s iv m2 (w2.alloc (.cells #[.int .i64 kk] 3))/\w.grownBy (w2.alloc (.cells #[.int .i64 kk] 3)) (some b)/\Bk (w2.alloc (.cells #[.int .i64 kk] 3)) bx 118 #[.int .i64 op,.slice (some ⟨g,0,none⟩) k cc,c2,c3,.string S1,.string S2,.int .i64 p]:=
    ⟨hs2.st.old fV,(HV.out.gw.trans hs2.grown).trans (below_grown fV _),(HV.out.kx.grown hs2.grown (aC (by omega))).old fV⟩
   have iM:=zH V2;have hkl:=Oo.out;have hj2:j<=2:=by omega
   have Oq:Hid (m2.items=m0.items):=zH (HIT.out.trans HV.out.it);clear HQ hs2 hown2 V2 hkl r0 r1 r2 r3 r4 r5 r6 q1 HV HIT;go_wp2_with (first|at_builtin;(refine az (by rfl) _ _ 22 (by rfl) w0.heap.size 3 iT _ 1 8 Try.underlying22 hT hT0 hT1 hT2 rfl (by decide) (.slice A j c) j _ (by rfl) bz (w2.heap.size+1) (some ⟨w2.heap.size,0,none⟩) 1 1 [.int .i64 kk] (by rfl) (Rd.lit rfl _ _) (by rfl) ?c2 ?c3 ?c4 kK ?_))
   case c2=>intro u hu;simp at hu;subst hu;rfl
   case c3=>unfold maxLen;omega
   case c4=>omega
   intro A6 c6 w6 hown6 iy _
   have hneb:some bx≠(Value.slice A j c).ownBlock:=by
    intro he;have:=(bz.lt bx he.symm).1;omega
   have dS:Hid (KdI b B bx s iv m0.items #[.int .i64 op,.slice (some ⟨g,0,none⟩) k cc,c2,c3,.string S1,.string S2,.int .i64 p] w w0 A6 (j+1) c6 (ks++[kk]) m2 w6):=zH
    ⟨iM.out.1.Om bz Ro HIV.out iy,by
     have hwl:w.heap.size<=w0.heap.size:=by have:=jl.out;omega
     exact Cc iM.out.2.1 bz hwl iy,iM.out.2.2.grown iy hneb,by unfold aI;rw[List.map_append];exact hown6,Oq.out,by have:=iy.size;omega⟩
   have HKL2:Hid ((ks++[kk]).length=j+1):=zH (by rw[List.length_append,Oo.out];rfl);clear hown6 iy bz kK iM hneb fV Oo;go_wp2
   go_roundw
   case rel=>exact⟨j+1,A6,c6,ks++[kk],m2,by omega,rfl,by go_num,HKL2.out,HR2,dS⟩
   case measure=>simp[intOf];omega
  ·obtain rfl:j=k:=by omega
   have hr:=HR.out;rw[List.drop_eq_nil_of_le (by rw[HKK.out];exact Nat.le_refl _)]at hr;have hr:(ks,m)=(KS,MF):=hr;injection hr with h1 h2
   subst h1;subst h2;have c3':=HV.out.st.c3;clear HR HC HKK hlt hj
   by_cases her:m.err=0
   case neg=>
    as_aux_lemma=>
    have iQ:((m.err:Int) !=0)=true:=by rw[bne_iff_ne];omega
    have hR:=aK.out;unfold lM at hR;rw[if_pos her]at hR;subst hR;have q1:=HV.out.kx.cell 1;clear her aK;go_wp2
    go_ret
    exact⟨rfl,HV.out.st,HV.out.gw⟩
   case pos=>
   have iQ:((m.err:Int) !=0)=false:=by rw[bne_eq_false_iff_eq];omega
   have hR:=aK.out;unfold lM at hR;rw[if_neg (by omega)]at hR;have HR2:=zH hR;have q0:=HV.out.kx.cell 0;have q1:=HV.out.kx.cell 1;clear aK hR her;have hcl:op=20\/op=21\/op=22\/op=23\/24<=op\/op<20:=by omega
   rcases hcl with hc|hc|hc|hc|hc|hc
   ·as_aux_lemma=>
    have e20:((op:Int)==20)=true:=by rw[beq_iff_eq];omega
    have hR:=HR2.out;rw[if_pos hc]at hR;subst hR;clear hc HR2;go_wp2
    go_ret
    exact⟨rfl,HV.out.st,HV.out.gw⟩
   ·as_aux_lemma=>
    have e20:((op:Int)==20)=false:=by rw[beq_eq_false_iff_ne];omega
    have e21:((op:Int)==21)=true:=by rw[beq_iff_eq];omega
    have hR:=HR2.out;rw[if_neg (by omega),if_pos hc]at hR;subst hR;clear hc HR2;go_wp2
    go_ret
    exact⟨rfl,HV.out.st,HV.out.gw⟩
   ·as_aux_lemma=>
    have e20:((op:Int)==20)=false:=by rw[beq_eq_false_iff_ne];omega
    have e21:((op:Int)==21)=false:=by rw[beq_eq_false_iff_ne];omega
    have e22:((op:Int)==22)=true:=by rw[beq_iff_eq];omega
    have hR:=HR2.out;rw[if_neg (by omega),if_neg (by omega),if_pos hc]at hR;subst hR;clear hc HR2;go_wp2
    go_ret
    exact⟨rfl,HV.out.st,HV.out.gw⟩
   ·as_aux_lemma=>
    have e20:((op:Int)==20)=false:=by rw[beq_eq_false_iff_ne];omega
    have e21:((op:Int)==21)=false:=by rw[beq_eq_false_iff_ne];omega
    have e22:((op:Int)==22)=false:=by rw[beq_eq_false_iff_ne];omega
    have e23:((op:Int)==23)=true:=by rw[beq_iff_eq];omega
    have hR:=HR2.out;rw[if_neg (by omega),if_neg (by omega),if_neg (by omega),if_pos hc]at hR;obtain⟨sa,hsa⟩:∃z,eU S1.toList 0 (s.syms.map (·.toList))=z:=⟨_,rfl⟩
    rw[hsa]at hR;obtain⟨neg,hneg⟩:∃z,decide (sa<0)=z:=⟨_,rfl⟩
    have hR2:RES=(3,if neg=true then dI 10 p m else m):=by
     rw[<-hR,<-hneg]
     by_cases h:sa<0<;>simp[h]
    have HR3:=zH hR2
    have HAT:Hid (∀W:World,Below wo.heap.size wo W->Calls Try.prog 85 #[.slice s.sa s.syms.length s.sc,.string S1] W fun e w'=>e=.returned (.int .i64 sa)/\W=w'):=zH fun W hW=>by
     have:=N7 s.sa s.sc s.syms S1 b W ((HV.out.st.old hW).Bf.syms) (by have:=HV.out.st.Bf.slen;unfold maxLen;omega)
     rwa [hsa]at this
    have s1:wo.cell? ⟨b,1,none⟩=some (.slice s.sa s.syms.length s.sc):=HV.out.st.bk.cell 1;have x4:wo.cell? ⟨bx,4,none⟩=some (.string S1):=HV.out.kx.cell 4;have jG:Hid (∀W:World,Below wo.heap.size wo W->Calls Try.prog 67 #[.pointer (some ⟨b,0,none⟩),.int .i64 10,.int .i64 p] W fun r w'=>r=.returned (.tuple #[])/\gJ b B s iv (dI 10 p m) W w'):=zH fun W hW=>jk b B s iv m W 10 p (HV.out.st.old hW) hbB
    clear hc HR2 hR hR2 hsa;go_upto_region 16 with fail
    clear q0;obtain⟨W,hW⟩:∃W,wo=W:=⟨_,rfl⟩
    subst hW;refine dU (by kernel_rfl) (fun qk=>(Rn b bx s S1 sa neg).getD qk .any) (by kernel_rfl) ?_ ?_
    ·refine aj.cons rfl [] [0] rfl rfl (by kernel_rfl) (by kernel_rfl) (fun qK qa wr hB qO qF hK=>?_) ?_
     ·have e0:qa.tmps[0]? =some (.pointer (some ⟨b,0,none⟩)):=qO.1.trans rfl;clear qO qF;go_simp;exact hK _ _ zR rfl
     refine aj.cons rfl [0] [] rfl rfl (by kernel_rfl) (by kernel_rfl) (fun qK qa wr hB qO qF hK=>?_) ?_
     ·have e46:=aH qF.1 rfl rfl;clear qO qF;go_simp;exact hK _ _ zR rfl
     refine aj.cons rfl [1] [] rfl rfl (by kernel_rfl) (by kernel_rfl) (fun qK qa wr hB qO qF hK=>?_) ?_
     ·have e47:=aH qF.1 rfl rfl;clear qO qF;go_simp;exact hK _ _ zR rfl
     refine aj.cons rfl [2] [] rfl rfl (by kernel_rfl) (by kernel_rfl) (fun qK qa wr hB qO qF hK=>?_) ?_
     ·have e48:=aH qF.1 rfl rfl;clear qO qF;go_simp;exact hK _ _ zR rfl
     refine aj.cons rfl [3] [] rfl rfl (by kernel_rfl) (by kernel_rfl) (fun qK qa wr hB qO qF hK=>?_) ?_
     ·have e49:=aH qF.1 rfl rfl;clear qO qF;have hs1:=zE hB s1;go_simp;exact hK _ _ zR rfl
     refine aj.cons rfl [] [3] rfl rfl (by kernel_rfl) (by kernel_rfl) (fun qK qa wr hB qO qF hK=>?_) ?_
     ·have e3:qa.tmps[3]? =some (.pointer (some ⟨bx,0,none⟩)):=qO.1.trans rfl;clear qO qF;go_simp;exact hK _ _ zR rfl
     refine aj.cons rfl [5] [] rfl rfl (by kernel_rfl) (by kernel_rfl) (fun qK qa wr hB qO qF hK=>?_) ?_
     ·have e51:=aH qF.1 rfl rfl;clear qO qF;have hx4:=zE hB x4;go_simp;exact hK _ _ zR rfl
     refine aj.cons rfl [4,6] [] rfl rfl (by kernel_rfl) (by kernel_rfl) (fun qK qa wr hB qO qF hK=>?_) ?_
     ·have e50:=aH qF.1 rfl rfl;have e52:=aH qF.2.1 rfl rfl;clear qO qF;go_simp
      go_at_call 85
      refine(HAT.out wr (hB)).mono ?_;rintro r w9 ⟨rfl,rfl⟩;exact hK _ _ zR rfl
     refine aj.cons rfl [7] [] rfl rfl (by kernel_rfl) (by kernel_rfl) (fun qK qa wr hB qO qF hK=>?_) ?_
     ·have e53:=aH qF.1 rfl rfl;clear qO qF;go_simp;refine hK _ _ zR ?_
      show(_:Value)=_
      first|rfl|rw[hneg]|(simp[hneg];done)
     exact aj.nil
    intro vals wr hl hB hR
    match vals,hl with
    |[z46,z47,z48,z49,z50,z51,z52,z53,z54],_=>
    have r8:z54=.bool neg:=hR 8 _ rfl;subst r8;clear hR;simp only[List.cons_append,List.nil_append,aN,Act.put,List.setIfInBounds_toArray,List.set_cons_zero,List.set_cons_succ];have HB:=zH hB;have q6:=(HV.out.kx.old hB).cell 6;clear hB s1 x4 HAT;cases neg
    case false=>
     have hR:=HR3.out;rw[if_neg (by decide)]at hR;subst hR;clear HR3 hneg;go_wp2
     go_ret
     exact⟨rfl,HV.out.st.old HB.out,HV.out.gw.trans (below_grown HB.out _)⟩
    case true=>
     have hR:=HR3.out;rw[if_pos rfl]at hR;subst hR;clear HR3 hneg;go_wp2_with fail
     refine(jG.out _ HB.out).mono ?_;rintro r w5 ⟨rfl,hs5⟩;have HG:=zH (And.intro hs5.st ((HV.out.gw.trans (below_grown HB.out (some b))).trans hs5.grown));clear hs5 q6 jG;go_wp2
     go_ret
     exact⟨rfl,HG.out.1,HG.out.2⟩
   ·as_aux_lemma=>
    have e20:((op:Int)==20)=false:=by rw[beq_eq_false_iff_ne];omega
    have e21:((op:Int)==21)=false:=by rw[beq_eq_false_iff_ne];omega
    have e22:((op:Int)==22)=false:=by rw[beq_eq_false_iff_ne];omega
    have e23:((op:Int)==23)=false:=by rw[beq_eq_false_iff_ne];omega
    have e24:(24:Int)<=(op:Int):=by omega
    have hR:=HR2.out;rw[if_neg (by omega),if_neg (by omega),if_neg (by omega),if_neg (by omega),if_pos hc]at hR;have HF:=Ik b B s iv m op p (.slice A0 j cc) c2 c3 S1 S2 wo HV.out.st hbB (by rw[HV.out.it];exact HN.out);rw[hR]at HF;have HFF:=zH HF;have q2:=HV.out.kx.cell 2;have q3:=HV.out.kx.cell 3;have q4:=HV.out.kx.cell 4;have q5:=HV.out.kx.cell 5;have q6:=HV.out.kx.cell 6;clear hc HR2 hR HF;go_wp2_with fail
    refine HFF.out.mono ?_;rintro r w5 ⟨rfl,hs5⟩;have HG:=zH (And.intro hs5.st (HV.out.gw.trans hs5.grown));clear hs5 HFF q0 q1 q2 q3 q4 q5 q6 c3';go_wp2
    go_ret
    exact⟨rfl,HG.out.1,HG.out.2⟩
   ·as_aux_lemma=>
    have e20:((op:Int)==20)=false:=by rw[beq_eq_false_iff_ne];omega
    have e21:((op:Int)==21)=false:=by rw[beq_eq_false_iff_ne];omega
    have e22:((op:Int)==22)=false:=by rw[beq_eq_false_iff_ne];omega
    have e23:((op:Int)==23)=false:=by rw[beq_eq_false_iff_ne];omega
    have e24:¬(24:Int)<=(op:Int):=by omega
    have hR:=HR2.out;rw[if_neg (by omega),if_neg (by omega),if_neg (by omega),if_neg (by omega),if_neg (by omega)]at hR;have hlk:=Oo.out
    have hrs:Calls Try.prog 87 #[.int .i64 op,.slice A j c] wo fun e w'=>e=.returned (.int .i64 (FB op ks))/\Below wo.heap.size wo w':=by
     have hown:=HV.out.own;rw[<-hlk]at hown⊢;exact FC (op:Int) ks A c wo (by omega) (bP hown)
    obtain⟨rk,hrk⟩:∃z,FB (op:Int) ks=z:=⟨_,rfl⟩
    rw[hrk]at hR hrs;have Zy:=zH hrs;have HR3:=zH hR;have jG:Hid (∀W:World,Below wo.heap.size wo W->Calls Try.prog 67 #[.pointer (some ⟨b,0,none⟩),.int .i64 11,.int .i64 p] W fun r w'=>r=.returned (.tuple #[])/\gJ b B s iv (dI 11 p m) W w'):=zH fun W hW=>jk b B s iv m W 11 p (HV.out.st.old hW) hbB
    clear hc HR2 hR hrs hrk hlk;go_wp2_with fail
    refine Zy.out.mono ?_;rintro r w5 ⟨rfl,hb5⟩;have Ot:=zH hb5;have q6:=(HV.out.kx.old hb5).cell 6;clear Zy hb5 q0
    by_cases h0:rk=0
    ·have hI:(rk==0)=true:=by rw[beq_iff_eq];exact h0
     have hR:=HR3.out;rw[if_pos h0]at hR;subst hR;clear h0 HR3;go_wp2_with fail
     refine(jG.out _ Ot.out).mono ?_;rintro r w6 ⟨rfl,hs6⟩;have HG:=zH (And.intro hs6.st ((HV.out.gw.trans (below_grown Ot.out (some b))).trans hs6.grown));clear hs6 jG q6;go_wp2
     go_ret
     exact⟨rfl,HG.out.1,HG.out.2⟩
    ·have hI:(rk==0)=false:=by rw[beq_eq_false_iff_ne];exact h0
     have hR:=HR3.out;rw[if_neg h0]at hR;subst hR;clear h0 HR3 jG;go_wp2
     go_ret
     exact⟨rfl,HV.out.st.old Ot.out,HV.out.gw.trans (below_grown Ot.out _)⟩
theorem jL {P : Nat → Prop} (b B : Nat) (s : ah) (iv : Value) (hbB : b < B) (GX : ∀ g, P g → g ≠ b) : ∀ (e : au) (cs : List Value) (m : MS) (w : World), m.items.length ≤ 1000 → ja b B s iv m w → kN P w e cs →
  Calls Try.prog 70 #[.pointer (some ⟨b,0,none⟩),.agg cs.toArray] w fun r w'=>r=.returned (.int .i64 (dX s e m).1)/\gJ b B s iv (dX s e m).2 w w'
 |.leaf op n sc nm a p,cs,m,w,hn,hm,h=>by
  obtain rfl:cs=iC op n sc nm a p:=h;have:=vY b B s iv m op p (.int .i64 n) (.int .i64 sc) (bytes nm) (bytes a) none 0 0 [] rfl (by omega) w hm hbB hn (fun j hj=>absurd hj (by simp));rw[aJ,aJ]at this;exact this
 |.un op x p,cs,m,w,hn,hm,h=>by
  obtain⟨g,xs,rfl,hP,hk,hx⟩:=h;obtain⟨y0,y1,y2,y3,y4,y5,y6,rfl,hy⟩:=hx.seven
  have:=vY b B s iv m op p (.int .i64 0) (.int .i64 0) ⟨#[]⟩ ⟨#[]⟩ (some ⟨g,0,none⟩) 1 1 [dX s x] rfl (by omega) w hm hbB hn (fun j hj=>by
   match j,hj with
   |0,_=>exact⟨⟨g,y0,y1,y2,y3,y4,y5,y6,rfl,hk.lt,GX g hP,fun q u hu=>by rw[hk.cell];simpa using hu,fun m' W hW hm' hi=>jL b B s iv hbB GX x _ m' W (by rw[hi];exact hn) hm' (hx.keep fun q hq hlt=>⟨hq,hW.block q hlt (aC (GX q hq))⟩)⟩,fun m'=>gu s x m'⟩)
  rw[show(⟨#[]⟩:ByteArray).toList=[] by rw[ByteArray.toList_eq]]at this;exact this
 |.bin op x y p,cs,m,w,hn,hm,h=>by
  obtain⟨g,xs,ys,rfl,hP,hk,hx,hy⟩:=h;obtain⟨x0,x1,x2,x3,x4,x5,x6,rfl,_⟩:=hx.seven;obtain⟨y0,y1,y2,y3,y4,y5,y6,rfl,_⟩:=hy.seven
  have:=vY b B s iv m op p (.int .i64 0) (.int .i64 0) ⟨#[]⟩ ⟨#[]⟩ (some ⟨g,0,none⟩) 2 2 [dX s x,dX s y] rfl (by omega) w hm hbB hn (fun j hj=>by
   match j,hj with
   | 0, _ => exact ⟨⟨g, x0, x1, x2, x3, x4, x5, x6, rfl, hk.lt, GX g hP, fun q u hu => by
     rw[hk.cell];have hq:q<7:=(List.getElem?_eq_some_iff.1 hu).1;rw[List.getElem?_toArray]
     rw[List.getElem?_append_left (by simp;omega),Nat.zero_mul,Nat.zero_add,hu],fun m' W hW hm' hi=>jL b B s iv hbB GX x _ m' W (by rw[hi];exact hn) hm' (hx.keep fun q hq hlt=>⟨hq,hW.block q hlt (aC (GX q hq))⟩)⟩,fun m'=>gu s x m'⟩
   | 1, _ => exact ⟨⟨g, y0, y1, y2, y3, y4, y5, y6, rfl, hk.lt, GX g hP, fun q u hu => by
     rw[hk.cell];rw[List.getElem?_toArray];rw[List.getElem?_append_right (by simp)]
     simpa using hu,fun m' W hW hm' hi=>jL b B s iv hbB GX y _ m' W (by rw[hi];exact hn) hm' (hy.keep fun q hq hlt=>⟨hq,hW.block q hlt (aC (GX q hq))⟩)⟩,fun m'=>gu s y m'⟩)
  rw[show(⟨#[]⟩:ByteArray).toList=[] by rw[ByteArray.toList_eq]]at this;exact this
end Go.Proofs.Ytbjnhllkdilpfaa
