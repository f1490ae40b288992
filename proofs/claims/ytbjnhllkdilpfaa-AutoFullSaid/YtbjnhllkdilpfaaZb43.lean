/- Part 43 of the proof. No conditions. -/
import Derived.Test.YtbjnhllkdilpfaaZb42
namespace Go.Proofs.Ytbjnhllkdilpfaa
open Go.RowKit
set_option linter.unusedSimpArgs false
set_option linter.unusedVariables false
set_option maxHeartbeats 16000000
set_option maxRecDepth 100000
structure QB (q:bU):Prop where
 bd:∀e∈q.cond,jQ e
 br:q.branches.length<=1000
 cd:q.cond.length<=100000
 st:q.aS<=1000
 win:q.window<=9223372036854775807
 it:∀l∈q.branches,l.length<=1000
 nd:iw q<=1000000
def oV (s:ah) (tx:Str):lW×Bool:=
 if(kJ tx).2.2≠0 then(uS,false)else((mJ s (kJ tx).1).1,(mJ s (kJ tx).1).2.2==0)
def PH (D:Nat) (s:ah) (tx:Str) (w:World) (e:Ending) (w':World):Prop:=
 ∃pv:Value,e=.returned (.tuple #[pv,.bool (oV s tx).2])/\ig D w.heap.size (oV s tx).1 pv w'/\Below w.heap.size w w'
theorem ig.form {D B:Nat} {t:lW} {v:Value} {W:World} (h:ig D B t v W):∃(A1 A2:Option Addr) (n1 n2 c1 c2:Nat),v=.agg #[.int .i64 t.aS,.slice A1 n1 c1,.slice A2 n2 c2]:=by
 obtain⟨kv,bv,bs,rfl,hk,hp,_⟩:=h;obtain⟨A1,c1,rfl,_⟩:=bF hk;obtain⟨A2,c2,rfl,_⟩:=bF hp.dC;exact⟨A1,A2,_,_,c1,c2,rfl⟩
theorem ig.old {D B:Nat} {t:lW} {v:Value} {W W':World} (h:ig D B t v W) (hb:Below W.heap.size W W'):ig D B t v W':=by
 obtain⟨kv,bv,bs,h1,hk,hp,h2⟩:=h;exact⟨kv,bv,bs,h1,aP hk hb,hp.old hb,h2⟩
theorem ig.mono {D B B':Nat} {t:lW} {v:Value} {W:World} (h:ig D B t v W) (hB:B'<=B):ig D B' t v W:=by
 obtain⟨kv,bv,bs,h1,hk,hp,h2⟩:=h;exact⟨kv,bv,bs,h1,dF hk hB,hp.mono hB,h2⟩
theorem ig.grown {D B b:Nat} {t:lW} {v:Value} {W W':World} (h:ig D B t v W) (hg:W.grownBy W' (some b)) (hb:b<B):ig D B t v W':=by
 obtain⟨kv,bv,bs,h1,hk,hp,h2⟩:=h;exact⟨kv,bv,bs,h1,fP hk hg hb,hp.grown hg hb,h2⟩
theorem PI (D : Nat) (hD : 200 ≤ D) (s : ah) (TX : ByteArray) (w : World) (hs : s.ok w w.heap.size) (hq : (kJ TX.toList).2.2 = 0 → QB (kJ TX.toList).1) :
  Calls Try.prog 19 #[s.val,.string TX] w (PH D s TX.toList w):=by
 have HS:=zH hs;have PK:Hid (∀W:World,Calls Try.prog 33 #[.string TX] W (DU TX.toList W)):=zH fun W=>parse_any TX W
 unfold DU at PK;obtain⟨⟨q,ap,er⟩,hp⟩:∃z,kJ TX.toList=z:=⟨_,rfl⟩
 rw[hp]at PK hq;simp only[]at PK hq;obtain⟨⟨PT,OK⟩,hres⟩:∃z,oV s TX.toList=z:=⟨_,rfl⟩
 have hR:(if er≠0 then(uS,false)else((mJ s q).1,(mJ s q).2.2==0))=(PT,OK):=by
  rw[<-hres];unfold oV;rw[hp]
 have aK:=zH hR;have HQB:=zH hq;unfold PH;rw[hres];simp only[];unfold ah.val;clear hs hp hres hR hq
 go_enter Try.func19,Try.ntmps19
 go_upto_region 1 with fail
 have kS:=Bk.new w 61 #[.slice s.ta s.types.length s.tc,.slice s.sa s.syms.length s.sc];have hbS:Below w.heap.size w (w.alloc (.cells #[.slice s.ta s.types.length s.tc,.slice s.sa s.syms.length s.sc] 61)):=zR.alloc zL _;obtain⟨wS,Xi⟩:∃z,w.alloc (.cells #[.slice s.ta s.types.length s.tc,.slice s.sa s.syms.length s.sc] 61)=z:=⟨_,rfl⟩
 rw[Xi]at kS hbS⊢;have kP:=Bk.new wS 25 #[.int .i64 0,.slice none 0 0,.slice none 0 0];have QG:Below wS.heap.size wS (wS.alloc (.cells #[.int .i64 0,.slice none 0 0,.slice none 0 0] 25)):=zR.alloc zL _;obtain⟨w0,hw0⟩:∃z,wS.alloc (.cells #[.int .i64 0,.slice none 0 0,.slice none 0 0] 25)=z:=⟨_,rfl⟩
 rw[hw0]at kP QG⊢;have hsz0:wS.heap.size=w.heap.size+1:=by rw[<-Xi];simp
 have hB0:=hbS.trans (QG.mono hbS.size);rw[hsz0]at kP;have QH:=kS.old QG;have hgr:=kP.lt;obtain⟨gr,hgre⟩:∃z,w.heap.size+1=z:=⟨_,rfl⟩
 rw[hgre]at kP⊢;have hgr0:w.heap.size<=gr:=by omega
 obtain⟨gs,hgs⟩:∃z,w.heap.size=z:=⟨_,rfl⟩
 rw[hgs]at QH⊢;have HW0:Hid (Bk w0 gs 61 #[.slice s.ta s.types.length s.tc,.slice s.sa s.syms.length s.sc]/\Bk w0 gr 25 #[.int .i64 0,.slice none 0 0,.slice none 0 0]/\Below w.heap.size w w0):=zH ⟨QH,kP,hB0⟩;have X8:=zH hgs;clear kS hbS Xi kP QG hw0 hsz0 hB0 QH hgr hgre hgs;go_wp2_with fail
 refine(PK.out w0).mono ?_;rintro r w1 ⟨Bq,cs,rfl,hBq,⟨bv,wv,rfl,hbr,hwh⟩,hb1⟩;obtain⟨vs,kR,hbi⟩:=id hbr;obtain⟨A1,c1,rfl,-⟩:=bF kR;obtain⟨css,hwo,hwf⟩:=id hwh;obtain⟨A2,c2,rfl,-⟩:=bF hwo;have hlw:=hwf.len.1;obtain⟨n1,hn1⟩:∃z,q.branches.length=z:=⟨_,rfl⟩
 obtain⟨n2,hn2⟩:∃z,css.length=z:=⟨_,rfl⟩
 rw[hn1]at hbr;rw[hn2]at hwh hlw;have HN:=zH (And.intro hn1 hlw);have HW1:Hid (Bk w1 gs 61 #[.slice s.ta s.types.length s.tc,.slice s.sa s.syms.length s.sc]/\Bk w1 gr 25 #[.int .i64 0,.slice none 0 0,.slice none 0 0]/\Below w.heap.size w w1/\jK Bq w1 (.slice A1 n1 c1) q.branches/\wZ Bq w1 (.slice A2 n2 c2) q.cond):=zH ⟨HW0.out.1.old hb1,HW0.out.2.1.old hb1,HW0.out.2.2.trans (hb1.mono HW0.out.2.2.size),hbr,hwh⟩;unfold bU.cells iE;rw[hn1,hn2];clear hbr hwh kR hbi hwo hwf hlw hn1 hn2 hb1 PK HW0 hBq;obtain⟨bg,Ae⟩:∃z,q.aS=z:=⟨_,rfl⟩
 obtain⟨win,hwn⟩:∃z,q.window=z:=⟨_,rfl⟩
 obtain⟨KEY,hkey⟩:∃z,bytes q.key=z:=⟨_,rfl⟩
 obtain⟨ka,hka⟩:∃z,q.keyAt=z:=⟨_,rfl⟩
 have HQ:=zH (And.intro Ae (And.intro hwn (And.intro hkey hka)));rw[Ae,hwn,hkey,hka];clear Ae hwn hkey hka;go_upto_region 2 with(first|(refine ae lS rfl _ _ rfl rfl [.slice A1 n1 c1,.slice A2 n2 c2,.int .i64 bg,.int .i64 win,.string KEY,.int .i64 ka] rfl (Bk.new w1 _ _) rfl rfl rfl ?_;intro w2 p2;go_frame))
 have hb2:Below w1.heap.size w1 w2:=p2.below _ _ (zR.alloc zL _) zL;have kq:=p2.bk;obtain⟨gq,hgq⟩:∃z,w1.heap.size=z:=⟨_,rfl⟩
 rw[hgq]at kq⊢;have HW2:Hid (Bk w2 gs 61 #[.slice s.ta s.types.length s.tc,.slice s.sa s.syms.length s.sc]/\Bk w2 gr 25 #[.int .i64 0,.slice none 0 0,.slice none 0 0]/\Below w.heap.size w w2/\jK Bq w2 (.slice A1 n1 c1) q.branches/\wZ Bq w2 (.slice A2 n2 c2) q.cond/\Bk w2 gq 80 #[.slice A1 n1 c1,.slice A2 n2 c2,.int .i64 bg,.int .i64 win,.string KEY,.int .i64 ka]):=zH ⟨HW1.out.1.old hb2,HW1.out.2.1.old hb2,HW1.out.2.2.1.trans (hb2.mono HW1.out.2.2.1.size),HW1.out.2.2.2.1.old hb2,HW1.out.2.2.2.2.old hb2,kq⟩;clear hb2 kq hgq p2 HW1
 by_cases her:er=0
 case neg=>
  as_aux_lemma=>
  have eI:((er:Int) !=0)=true:=by rw[bne_iff_ne];omega
  have hR:=aK.out;rw[if_pos her]at hR;injection hR with h1 h2
  subst h1;subst h2;have kr:=HW2.out.2.1;clear her aK;go_wp2_with (first|(refine ae jo rfl _ _ rfl rfl [.int .i64 0,.slice none 0 0,.slice none 0 0] rfl kr rfl rfl rfl ?_;intro w9 p9))
  obtain⟨u0,u1,u2⟩:=zc3 p9.bk;refine bodyPost_ret (v:=.tuple #[.agg #[.int .i64 0,.slice none 0 0,.slice none 0 0],.bool false]) (by simp[results,Try.results19,go_sem,u0,u1,u2]) rfl ?_;exact⟨_,rfl,ig.zero _ _ _,p9.below _ _ HW2.out.2.2.1 hgr0⟩
 case pos=>
  as_aux_lemma=>
  have eI:((er:Int) !=0)=false:=by rw[bne_eq_false_iff_eq];omega
  have hR:=aK.out;rw[if_neg (by omega)]at hR;have UB:=HQB.out her;have HMK:=zH (Pz D hD s q A1 A2 n1 n2 c1 c2 Bq w2 ((HS.out.iZ HW2.out.2.2.1).more HW2.out.2.2.1.size) HW2.out.2.2.2.1 HW2.out.2.2.2.2.1 UB.bd ⟨by have:=HN.out.1;have:=UB.br;omega,by have:=HN.out.2;have:=UB.cd;omega⟩ UB.st UB.win UB.it UB.nd);unfold Pn ah.val bU.cells iE at HMK;obtain⟨⟨MT,MA,ME⟩,hmk⟩:∃z,mJ s q=z:=⟨_,rfl⟩
  rw[hmk,HQ.out.1,HQ.out.2.1,HQ.out.2.2.1,HQ.out.2.2.2]at HMK;rw[hmk]at hR;injection hR with h1 h2
  subst h1;have vw:=zH h2;simp only[]at HMK;have y0:=HW2.out.1.cell 0;have y1:=HW2.out.1.cell 1;obtain⟨z0,z1,z2,z3,z4,z5⟩:=zc6 HW2.out.2.2.2.2.2;simp only[List.getElem?_toArray,List.getElem?_cons_zero,List.getElem?_cons_succ]at y0 y1 z0 z1 z2 z3 z4 z5;clear her aK UB hmk h2;go_wp2_with fail
  refine HMK.out.mono ?_;rintro r w3 ⟨pv,rfl,hpr,hb3⟩;obtain⟨P1,P2,m1,m2,d1,d2,rfl⟩:=hpr.form;have HW3:=zH (And.intro hpr (And.intro (HW2.out.2.1.old hb3) (HW2.out.2.2.1.trans (hb3.mono HW2.out.2.2.1.size))));have hzz:w.heap.size<=w3.heap.size:=HW3.out.2.2.size;have hgr3:=HW3.out.2.1.lt;have hz2:=HW2.out.2.1.lt;clear hpr hb3 HMK y0 y1 z0 z1 z2 z3 z4 z5;go_upto_region 5 with(first|(refine ae jo rfl _ _ rfl rfl [.int .i64 MT.aS,.slice P1 m1 d1,.slice P2 m2 d2] rfl (Bk.new w3 _ _) rfl rfl rfl ?_;intro w4 p4;go_frame))
  have hb4:Below w3.heap.size w3 w4:=p4.below _ _ (zR.alloc zL _) zL;have kr:=HW3.out.2.1.old hb4;obtain⟨v0,v1,v2⟩:=zc3 p4.bk;simp only[List.getElem?_toArray,List.getElem?_cons_zero,List.getElem?_cons_succ]at v0 v1 v2;have Ux:Hid (ig D w2.heap.size MT (.agg #[.int .i64 MT.aS,.slice P1 m1 d1,.slice P2 m2 d2]) w4/\Below w.heap.size w w4):=zH ⟨HW3.out.1.old hb4,HW3.out.2.2.trans (hb4.mono hzz)⟩;have hok:=vw.out;have hbw2:w.heap.size<=w2.heap.size:=HW2.out.2.2.1.size;clear hb4 p4 HW3 HW2 vw;go_wp2_with (first|(refine ae jo rfl _ _ rfl rfl [.int .i64 MT.aS,.slice P1 m1 d1,.slice P2 m2 d2] rfl kr rfl rfl rfl ?_;intro w9 p9))
  obtain⟨u0,u1,u2⟩:=zc3 p9.bk;have HF:Hid (ig D w.heap.size MT (.agg #[.int .i64 MT.aS,.slice P1 m1 d1,.slice P2 m2 d2]) w9/\Below w.heap.size w w9):=zH ⟨(Ux.out.1.grown p9.grown hz2).mono hbw2,p9.below _ _ Ux.out.2 hgr0⟩;clear p9 v0 v1 v2 kr;refine bodyPost_ret (v:=.tuple #[.agg #[.int .i64 MT.aS,.slice P1 m1 d1,.slice P2 m2 d2],.bool OK]) (by simp[results,Try.results19,go_sem,u0,u1,u2,hok]) rfl ?_;exact⟨_,rfl,HF.out.1,HF.out.2⟩
end Go.Proofs.Ytbjnhllkdilpfaa
