/- Part 10 of the proof. No conditions. -/
import Derived.Test.YtbjnhllkdilpfaaZb09
namespace Go.Proofs.Ytbjnhllkdilpfaa
open Go.RowKit
set_option linter.unusedSimpArgs false
set_option linter.unusedVariables false
set_option maxHeartbeats 16000000
set_option maxRecDepth 100000
section
variable (b:Nat) (t:TypeId) (rest:List Value) (L:List aA) (LA:Option Addr) (Lc:Nat)
def gX (r:au×PS) (w:World) (e:Ending) (w':World):Prop:=
 ∃cs,e=.returned (.agg cs.toArray)/\kN (fun g=>w.heap.size<=g) w' r.1 cs/\di b t rest L LA Lc r.2 w'/\w.grownBy w' (some b)
def Ns (f:Nat):Prop:=∀(level:Nat) (s:PS) (w:World),1<=level->level<=8->di b t rest L LA Lc s w->gm L s->10*(L.length-s.i)+(9-level)<=f->
 Calls Try.prog 80 #[.pointer (some ⟨b,0,none⟩),.int .i64 level] w (gX b t rest L LA Lc (aB L f level s) w)
end
theorem eu {w W W':World} {b g:Nat} {t:TypeId} {cs:Array Value} (h:w.grownBy W (some b)) (hp:lY W g t cs W') (hg:w.heap.size<=g):w.grownBy W' (some b):=
 ⟨hp.grown.os.trans h.os,hp.grown.tape.trans h.tape,hp.grown.output.trans h.output,by rw[hp.size];exact h.size,fun k hk hne=>(hp.other k (by omega)).trans (h.block k hk hne)⟩
structure nH (b:Nat) (t:TypeId) (rest:List Value) (L:List aA) (LA:Option Addr) (Lc:Nat) (gr gt gx:Nat) (T:aA) (w:World) (cs:List Value) (x:PS) (W:World):Prop where
 st:di b t rest L LA Lc x W
 kr:Bk W gr 118 (iC 0 0 0 [] [] 0).toArray
 kt:Bk W gt 102 #[.int .i64 T.kind,.string (bytes T.text),.int .i64 T.n,.int .i64 T.scale,.int .i64 T.pos]
 kx:Bk W gx 118 cs.toArray
 gw:w.grownBy W (some b)
structure Nu (b gr gt gx:Nat) (w:World):Prop where
 h1:b<w.heap.size
 h2:w.heap.size<=gr
 h3:gr<gt
 h4:gt<gx
section
variable {b:Nat} {t:TypeId} {rest:List Value} {L:List aA} {LA:Option Addr} {Lc gr gt gx:Nat} {T:aA} {w W W':World} {cs:List Value} {x x':PS}
theorem nH.old (h:nH b t rest L LA Lc gr gt gx T w cs x W) (hb:Below W.heap.size W W'):nH b t rest L LA Lc gr gt gx T w cs x W':=
 ⟨h.st.old hb,h.kr.old hb,h.kt.old hb,h.kx.old hb,h.gw.trans (below_grown hb _)⟩
theorem aC {g b:Nat} (h:g≠b):some g≠some b:=fun e=>h (by injection e)
theorem nH.steps (h:nH b t rest L LA Lc gr gt gx T w cs x W) (hf:Nu b gr gt gx w) (hs:di b t rest L LA Lc x' W') (hg:W.grownBy W' (some b)):nH b t rest L LA Lc gr gt gx T w cs x' W':=
 have:=hf.h1;have:=hf.h2;have:=hf.h3;have:=hf.h4
 ⟨hs,h.kr.grown hg (aC (by omega)),h.kt.grown hg (aC (by omega)),h.kx.grown hg (aC (by omega)),h.gw.trans hg⟩
theorem nH.put (h:nH b t rest L LA Lc gr gt gx T w cs x W) (hf:Nu b gr gt gx w) (i:Nat) (v:Value):nH b t rest L LA Lc gr gt gx T w (cs.set i v) x (W.setCell ⟨gx,i,none⟩ v):=
 have:=hf.h1;have:=hf.h2;have:=hf.h3;have:=hf.h4
 ⟨h.st.far (by omega) v,h.kr.far (p:=⟨gx,i,none⟩) (by show gr≠gx;omega) v,h.kt.far (p:=⟨gx,i,none⟩) (by show gt≠gx;omega) v,by simpa using h.kx.put i v,ui h.gw (by omega)⟩
theorem nH.sG (h:nH b t rest L LA Lc gr gt gx T w cs x W) (hf:Nu b gr gt gx w) {ds:List Value} (hp:lY W gx 118 ds.toArray W'):nH b t rest L LA Lc gr gt gx T w ds x W':=
 have:=hf.h1;have:=hf.h2;have:=hf.h3;have:=hf.h4
 ⟨⟨hp.Eu h.st.bk (by omega),h.st.rd.below (hp.below _ _ zR (by omega))⟩,hp.Eu h.kr (by omega),hp.Eu h.kt (by omega),hp.bk,eu h.gw hp (by omega)⟩
end
theorem nH.drew {b:Nat} {t:TypeId} {rest:List Value} {L:List aA} {LA:Option Addr} {Lc gr gt gx:Nat} {T:aA} {w W:World} {cs:List Value} {x:PS} (h:nH b t rest L LA Lc gr gt gx T w cs x W):nH b t rest L LA Lc gr gt gx T w cs x W.drew:=h.old ⟨rfl,rfl,rfl,Nat.le_refl _,fun _ _=>rfl⟩
theorem nH.fin {b:Nat} {t:TypeId} {rest:List Value} {L:List aA} {LA:Option Addr} {Lc gr gt gx:Nat} {T:aA} {w W W':World} {cs:List Value} {x:PS} {ds:Array Value} (h:nH b t rest L LA Lc gr gt gx T w cs x W) (hf:Nu b gr gt gx w) (hp:lY W gr 118 ds W'):di b t rest L LA Lc x W'/\w.grownBy W' (some b):=
 have:=hf.h1;have:=hf.h2
 ⟨⟨hp.Eu h.st.bk (by omega),h.st.rd.below (hp.below _ _ zR (by omega))⟩,eu h.gw hp (by omega)⟩
section
variable (b:Nat) (t:TypeId) (rest:List Value) (L:List aA) (LA:Option Addr) (Lc:Nat)
theorem Nv (f : Nat) (IH : Ns b t rest L LA Lc f) (s : PS) (w : World) (h : di b t rest L LA Lc s w) (he : dL L) (hi : gm L s) (hL : L.length ≤ 4001) (hf : 10 * (L.length - s.i) ≤ f) :
  Calls Try.prog 93 #[.pointer (some ⟨b,0,none⟩)] w (gX b t rest L LA Lc (pK L (aB L f 1) s) w):=by
 have HT:Hid (∀W:World,di b t rest L LA Lc s W->Calls Try.prog 54 #[.pointer (some ⟨b,0,none⟩)] W fun e w'=>e=.returned (bf L s).val/\Below W.heap.size W w'):=zH fun W h=>qG b t rest L LA Lc s W h hi.lt hL
 have AZ:Hid (∀(S:ByteArray) (x:Str),S.toList=x->∀W:World,di b t rest L LA Lc s W->Calls Try.prog 39 #[.pointer (some ⟨b,0,none⟩),.string S] W fun r w'=>r=.returned (.bool (eQ L s x))/\Below W.heap.size W w'):=zH fun S x hx W h=>by
  have:=kL b t rest L LA Lc s W S h hi.lt hL
  rwa [hx]at this
 obtain⟨RES,hres⟩:∃R,pK L (aB L f 1) s=R:=⟨_,rfl⟩
 have Ql:Hid (∀x,eQ L s x=true->(bf L s).kind≠0):=zH fun x hx=>bG hx
 have xI:Hid ((bf L s).kind≠0->bn L s (aO s)):=zH fun hk=>bn.next he hi hk
 have BM:Hid ((bf L s).kind≠0->gm L (aQ L s)/\(aQ L s).i=s.i+1/\(aQ L s).opn=s.opn+1):=zH fun hk=>iH he hi hk
 rw[hres];unfold pK at hres;unfold aA.val at HT;generalize hTT:bf L s=T at *;have HR:=zH hres;have HS:=zH h;have HIH:=zH IH;have hbw:=h.bk.lt;have hil:=hi.lt;have hio:=hi.opn;have HI:=zH hi;clear hres h IH hi
 go_enter Try.func93,Try.ntmps93
 go_wp2_with fail
 have k0:Bk (w.alloc (.cells #[.int .i64 0,.slice none 0 0,.int .i64 0,.int .i64 0,.string ⟨#[]⟩,.string ⟨#[]⟩,.int .i64 0] 118)) w.heap.size 118 (iC 0 0 0 [] [] 0).toArray:=Bk.new w 118 _;have hb0:Below w.heap.size w (w.alloc (.cells #[.int .i64 0,.slice none 0 0,.int .i64 0,.int .i64 0,.string ⟨#[]⟩,.string ⟨#[]⟩,.int .i64 0] 118)):=zR.alloc zL _;have hs0:=HS.out.old hb0;refine(HT.out _ hs0).mono ?_;rintro r w2 ⟨rfl,hb2⟩;have hs2:=hs0.old hb2;have k2:=k0.old hb2
 have hz2:w.heap.size+1<=w2.heap.size:=by
  have:=hb2.size;simp at this;omega
 have kt:=(Bk.new w2 102 #[.int .i64 T.kind,.string (bytes T.text),.int .i64 T.n,.int .i64 T.scale,.int .i64 T.pos])
 have kt2:=kt.alloc (.cells #[.int .i64 0,.slice none 0 0,.int .i64 0,.int .i64 0,.string ⟨#[]⟩,.string ⟨#[]⟩,.int .i64 T.pos] 118);have kx:Bk ((w2.alloc (.cells #[.int .i64 T.kind,.string (bytes T.text),.int .i64 T.n,.int .i64 T.scale,.int .i64 T.pos] 102)).alloc (.cells #[.int .i64 0,.slice none 0 0,.int .i64 0,.int .i64 0,.string ⟨#[]⟩,.string ⟨#[]⟩,.int .i64 T.pos] 118)) (w2.heap.size+1) 118 (iC 0 0 0 [] [] T.pos).toArray:=Bk.newAt (by simp) _ _;have hb3:Below w2.heap.size w2 ((w2.alloc (.cells #[.int .i64 T.kind,.string (bytes T.text),.int .i64 T.n,.int .i64 T.scale,.int .i64 T.pos] 102)).alloc (.cells #[.int .i64 0,.slice none 0 0,.int .i64 0,.int .i64 0,.string ⟨#[]⟩,.string ⟨#[]⟩,.int .i64 T.pos] 118)):=(zR.alloc zL _).alloc (by simp) _;have t4:=kt.cell 4;have hgw:w.grownBy ((w2.alloc (.cells #[.int .i64 T.kind,.string (bytes T.text),.int .i64 T.n,.int .i64 T.scale,.int .i64 T.pos] 102)).alloc (.cells #[.int .i64 0,.slice none 0 0,.int .i64 0,.int .i64 0,.string ⟨#[]⟩,.string ⟨#[]⟩,.int .i64 T.pos] 118)) (some b):=((below_grown hb0 _).trans (below_grown hb2 _)).trans (below_grown hb3 _);have HV:Hid (nH b t rest L LA Lc w.heap.size w2.heap.size (w2.heap.size+1) T w (iC 0 0 0 [] [] T.pos) s ((w2.alloc (.cells #[.int .i64 T.kind,.string (bytes T.text),.int .i64 T.n,.int .i64 T.scale,.int .i64 T.pos] 102)).alloc (.cells #[.int .i64 0,.slice none 0 0,.int .i64 0,.int .i64 0,.string ⟨#[]⟩,.string ⟨#[]⟩,.int .i64 T.pos] 118))):=zH ⟨hs2.old hb3,k2.old hb3,kt2,kx,hgw⟩
 have jw:Hid (Nu b w.heap.size w2.heap.size (w2.heap.size+1) w):=zH ⟨hbw,Nat.le_refl _,by omega,by omega⟩;go_upto_region 4 with fail
 generalize(w2.alloc (.cells #[.int .i64 T.kind,.string (bytes T.text),.int .i64 T.n,.int .i64 T.scale,.int .i64 T.pos] 102)).alloc (.cells #[.int .i64 0,.slice none 0 0,.int .i64 0,.int .i64 0,.string ⟨#[]⟩,.string ⟨#[]⟩,.int .i64 T.pos] 118)=W at *;clear t4 kt kt2 kx hb3 hgw hs2 k2 hb2 hs0 k0 hb0 HT;generalize hgt:w2.heap.size=gt at *;generalize hgr:w.heap.size=gr at *;have tk:W.cell? ⟨gt,0,none⟩=some (.int .i64 T.kind):=HV.out.kt.cell 0
 by_cases h3:T.kind=3
 ·as_aux_lemma=>
  have h3I:((T.kind:Int)==3)=true:=by rw[h3];rfl
  have HR2:Hid ((.leaf 20 T.n 0 [] [] T.pos,aO s)=RES):=zH (by rw[<-HR.out,if_pos h3]);have hk2:=h3;clear HR HIH Ql xI BM AZ HI;have t2:(W).cell? ⟨gt,2,none⟩=some (.int .i64 T.n):=(HV.out).kt.cell 2;have x0:(W).cell? ⟨gt+1,0,none⟩=some (.int .i64 0):=(HV.out).kx.cell 0;have f0:=(HV.out).kx.frozen 0;have x2:(W).cell? ⟨gt+1,2,none⟩=some (.int .i64 0):=(HV.out).kx.cell 2;have f2:=(HV.out).kx.frozen 2;go_upto_region 5 with fail
  go_region
  have hv1:nH b t rest L LA Lc gr gt (gt+1) T w [.int .i64 20,.slice none 0 0,.int .i64 T.n,.int .i64 0,.string ⟨#[]⟩,.string ⟨#[]⟩,.int .i64 T.pos] (s) ((((W).setCell ⟨gt+1,0,none⟩ (.int .i64 20)).setCell ⟨gt+1,2,none⟩ (.int .i64 T.n)).drew):=(((HV.out).put jw.out 0 (.int .i64 20)).put jw.out 2 (.int .i64 T.n)).drew;clear x0 f0 x2 f2
  skip
  generalize(((W).setCell ⟨gt+1,0,none⟩ (.int .i64 20)).setCell ⟨gt+1,2,none⟩ (.int .i64 T.n)).drew=W2 at *;have d1:=(hv1).st.c1;have g1:=(hv1).st.fr 1;have hv3:nH b t rest L LA Lc gr gt (gt+1) T w [.int .i64 20,.slice none 0 0,.int .i64 T.n,.int .i64 0,.string ⟨#[]⟩,.string ⟨#[]⟩,.int .i64 T.pos] (⟨s.i+1,s.opn,s.err,s.pos⟩) ((W2).setCell ⟨b,1,none⟩ (.int .i64 ((s.i:Int)+1))):=(hv1).steps jw.out ((hv1).st.set1 (s.i+1)) (aY (World.grownBy.refl _ _));have e0:((W2).setCell ⟨b,1,none⟩ (.int .i64 ((s.i:Int)+1))).cell? ⟨gt+1,0,none⟩=some (.int .i64 20):=(hv3).kx.cell 0;have e1:((W2).setCell ⟨b,1,none⟩ (.int .i64 ((s.i:Int)+1))).cell? ⟨gt+1,1,none⟩=some (.slice none 0 0):=(hv3).kx.cell 1;have e2:((W2).setCell ⟨b,1,none⟩ (.int .i64 ((s.i:Int)+1))).cell? ⟨gt+1,2,none⟩=some (.int .i64 T.n):=(hv3).kx.cell 2;have e3:((W2).setCell ⟨b,1,none⟩ (.int .i64 ((s.i:Int)+1))).cell? ⟨gt+1,3,none⟩=some (.int .i64 0):=(hv3).kx.cell 3;have e4:((W2).setCell ⟨b,1,none⟩ (.int .i64 ((s.i:Int)+1))).cell? ⟨gt+1,4,none⟩=some (.string ⟨#[]⟩):=(hv3).kx.cell 4;have e5:((W2).setCell ⟨b,1,none⟩ (.int .i64 ((s.i:Int)+1))).cell? ⟨gt+1,5,none⟩=some (.string ⟨#[]⟩):=(hv3).kx.cell 5;have e6:((W2).setCell ⟨b,1,none⟩ (.int .i64 ((s.i:Int)+1))).cell? ⟨gt+1,6,none⟩=some (.int .i64 T.pos):=(hv3).kx.cell 6;go_upto_region 35 with fail
  have kr:=(hv3).kr;go_wp2_with (first|(refine ae aV rfl _ _ rfl rfl [.int .i64 20,.slice none 0 0,.int .i64 T.n,.int .i64 0,.string ⟨#[]⟩,.string ⟨#[]⟩,.int .i64 T.pos] rfl kr rfl rfl rfl ?_;intro w9 p9))
  obtain⟨u0,u1,u2,u3,u4,u5,u6⟩:=zc7 p9.bk;obtain⟨hst,hgw⟩:=(hv3).fin jw.out p9;refine bodyPost_ret (v:=.agg #[.int .i64 20,.slice none 0 0,.int .i64 T.n,.int .i64 0,.string ⟨#[]⟩,.string ⟨#[]⟩,.int .i64 T.pos]) (by simp[results,Try.results93,go_sem,u0,u1,u2,u3,u4,u5,u6]) rfl ?_;rw[<-HR2.out];exact⟨[.int .i64 20,.slice none 0 0,.int .i64 T.n,.int .i64 0,.string ⟨#[]⟩,.string ⟨#[]⟩,.int .i64 T.pos],rfl,rfl,hst,hgw⟩
 have h3I:((T.kind:Int)==3)=false:=by rw[beq_eq_false_iff_ne];omega
 by_cases h4:T.kind=4
 ·as_aux_lemma=>
  have J9:((T.kind:Int)==4)=true:=by rw[h4];rfl
  have HR2:Hid ((.leaf 21 T.n T.scale [] [] T.pos,aO s)=RES):=zH (by rw[<-HR.out,if_neg h3,if_pos h4]);have hk2:=h4;clear HR HIH Ql xI BM AZ HI;have t2:(W).cell? ⟨gt,2,none⟩=some (.int .i64 T.n):=(HV.out).kt.cell 2;have t3:(W).cell? ⟨gt,3,none⟩=some (.int .i64 T.scale):=(HV.out).kt.cell 3;have x0:(W).cell? ⟨gt+1,0,none⟩=some (.int .i64 0):=(HV.out).kx.cell 0;have f0:=(HV.out).kx.frozen 0;have x2:(W).cell? ⟨gt+1,2,none⟩=some (.int .i64 0):=(HV.out).kx.cell 2;have f2:=(HV.out).kx.frozen 2;have x3:(W).cell? ⟨gt+1,3,none⟩=some (.int .i64 0):=(HV.out).kx.cell 3;have f3:=(HV.out).kx.frozen 3;go_upto_region 8 with fail
  go_region
  have hv1:nH b t rest L LA Lc gr gt (gt+1) T w [.int .i64 21,.slice none 0 0,.int .i64 T.n,.int .i64 T.scale,.string ⟨#[]⟩,.string ⟨#[]⟩,.int .i64 T.pos] (s) (((((W).setCell ⟨gt+1,0,none⟩ (.int .i64 21)).setCell ⟨gt+1,2,none⟩ (.int .i64 T.n)).setCell ⟨gt+1,3,none⟩ (.int .i64 T.scale)).drew):=((((HV.out).put jw.out 0 (.int .i64 21)).put jw.out 2 (.int .i64 T.n)).put jw.out 3 (.int .i64 T.scale)).drew;clear x0 f0 x2 f2 x3 f3
  skip
  generalize((((W).setCell ⟨gt+1,0,none⟩ (.int .i64 21)).setCell ⟨gt+1,2,none⟩ (.int .i64 T.n)).setCell ⟨gt+1,3,none⟩ (.int .i64 T.scale)).drew=W2 at *;have d1:=(hv1).st.c1;have g1:=(hv1).st.fr 1;have hv3:nH b t rest L LA Lc gr gt (gt+1) T w [.int .i64 21,.slice none 0 0,.int .i64 T.n,.int .i64 T.scale,.string ⟨#[]⟩,.string ⟨#[]⟩,.int .i64 T.pos] (⟨s.i+1,s.opn,s.err,s.pos⟩) ((W2).setCell ⟨b,1,none⟩ (.int .i64 ((s.i:Int)+1))):=(hv1).steps jw.out ((hv1).st.set1 (s.i+1)) (aY (World.grownBy.refl _ _));have e0:((W2).setCell ⟨b,1,none⟩ (.int .i64 ((s.i:Int)+1))).cell? ⟨gt+1,0,none⟩=some (.int .i64 21):=(hv3).kx.cell 0;have e1:((W2).setCell ⟨b,1,none⟩ (.int .i64 ((s.i:Int)+1))).cell? ⟨gt+1,1,none⟩=some (.slice none 0 0):=(hv3).kx.cell 1;have e2:((W2).setCell ⟨b,1,none⟩ (.int .i64 ((s.i:Int)+1))).cell? ⟨gt+1,2,none⟩=some (.int .i64 T.n):=(hv3).kx.cell 2;have e3:((W2).setCell ⟨b,1,none⟩ (.int .i64 ((s.i:Int)+1))).cell? ⟨gt+1,3,none⟩=some (.int .i64 T.scale):=(hv3).kx.cell 3;have e4:((W2).setCell ⟨b,1,none⟩ (.int .i64 ((s.i:Int)+1))).cell? ⟨gt+1,4,none⟩=some (.string ⟨#[]⟩):=(hv3).kx.cell 4;have e5:((W2).setCell ⟨b,1,none⟩ (.int .i64 ((s.i:Int)+1))).cell? ⟨gt+1,5,none⟩=some (.string ⟨#[]⟩):=(hv3).kx.cell 5;have e6:((W2).setCell ⟨b,1,none⟩ (.int .i64 ((s.i:Int)+1))).cell? ⟨gt+1,6,none⟩=some (.int .i64 T.pos):=(hv3).kx.cell 6;go_upto_region 35 with fail
  have kr:=(hv3).kr;go_wp2_with (first|(refine ae aV rfl _ _ rfl rfl [.int .i64 21,.slice none 0 0,.int .i64 T.n,.int .i64 T.scale,.string ⟨#[]⟩,.string ⟨#[]⟩,.int .i64 T.pos] rfl kr rfl rfl rfl ?_;intro w9 p9))
  obtain⟨u0,u1,u2,u3,u4,u5,u6⟩:=zc7 p9.bk;obtain⟨hst,hgw⟩:=(hv3).fin jw.out p9;refine bodyPost_ret (v:=.agg #[.int .i64 21,.slice none 0 0,.int .i64 T.n,.int .i64 T.scale,.string ⟨#[]⟩,.string ⟨#[]⟩,.int .i64 T.pos]) (by simp[results,Try.results93,go_sem,u0,u1,u2,u3,u4,u5,u6]) rfl ?_;rw[<-HR2.out];exact⟨[.int .i64 21,.slice none 0 0,.int .i64 T.n,.int .i64 T.scale,.string ⟨#[]⟩,.string ⟨#[]⟩,.int .i64 T.pos],rfl,rfl,hst,hgw⟩
 have J9:((T.kind:Int)==4)=false:=by rw[beq_eq_false_iff_ne];omega
 by_cases h5:T.kind=5
 ·as_aux_lemma=>
  have h5I:((T.kind:Int)==5)=true:=by rw[h5];rfl
  have HR2:Hid ((.leaf 23 0 0 T.text [] T.pos,aO s)=RES):=zH (by rw[<-HR.out,if_neg h3,if_neg h4,if_pos h5]);have hk2:=h5;clear HR HIH Ql xI BM AZ HI;have t1:(W).cell? ⟨gt,1,none⟩=some (.string (bytes T.text)):=(HV.out).kt.cell 1;have x0:(W).cell? ⟨gt+1,0,none⟩=some (.int .i64 0):=(HV.out).kx.cell 0;have f0:=(HV.out).kx.frozen 0;have x4:(W).cell? ⟨gt+1,4,none⟩=some (.string ⟨#[]⟩):=(HV.out).kx.cell 4;have f4:=(HV.out).kx.frozen 4;go_upto_region 11 with fail
  go_region
  have hv1:nH b t rest L LA Lc gr gt (gt+1) T w [.int .i64 23,.slice none 0 0,.int .i64 0,.int .i64 0,.string (bytes T.text),.string ⟨#[]⟩,.int .i64 T.pos] (s) ((((W).setCell ⟨gt+1,0,none⟩ (.int .i64 23)).setCell ⟨gt+1,4,none⟩ (.string (bytes T.text))).drew):=(((HV.out).put jw.out 0 (.int .i64 23)).put jw.out 4 (.string (bytes T.text))).drew;clear x0 f0 x4 f4
  skip
  generalize(((W).setCell ⟨gt+1,0,none⟩ (.int .i64 23)).setCell ⟨gt+1,4,none⟩ (.string (bytes T.text))).drew=W2 at *;have d1:=(hv1).st.c1;have g1:=(hv1).st.fr 1;have hv3:nH b t rest L LA Lc gr gt (gt+1) T w [.int .i64 23,.slice none 0 0,.int .i64 0,.int .i64 0,.string (bytes T.text),.string ⟨#[]⟩,.int .i64 T.pos] (⟨s.i+1,s.opn,s.err,s.pos⟩) ((W2).setCell ⟨b,1,none⟩ (.int .i64 ((s.i:Int)+1))):=(hv1).steps jw.out ((hv1).st.set1 (s.i+1)) (aY (World.grownBy.refl _ _));have e0:((W2).setCell ⟨b,1,none⟩ (.int .i64 ((s.i:Int)+1))).cell? ⟨gt+1,0,none⟩=some (.int .i64 23):=(hv3).kx.cell 0;have e1:((W2).setCell ⟨b,1,none⟩ (.int .i64 ((s.i:Int)+1))).cell? ⟨gt+1,1,none⟩=some (.slice none 0 0):=(hv3).kx.cell 1;have e2:((W2).setCell ⟨b,1,none⟩ (.int .i64 ((s.i:Int)+1))).cell? ⟨gt+1,2,none⟩=some (.int .i64 0):=(hv3).kx.cell 2;have e3:((W2).setCell ⟨b,1,none⟩ (.int .i64 ((s.i:Int)+1))).cell? ⟨gt+1,3,none⟩=some (.int .i64 0):=(hv3).kx.cell 3;have e4:((W2).setCell ⟨b,1,none⟩ (.int .i64 ((s.i:Int)+1))).cell? ⟨gt+1,4,none⟩=some (.string (bytes T.text)):=(hv3).kx.cell 4;have e5:((W2).setCell ⟨b,1,none⟩ (.int .i64 ((s.i:Int)+1))).cell? ⟨gt+1,5,none⟩=some (.string ⟨#[]⟩):=(hv3).kx.cell 5;have e6:((W2).setCell ⟨b,1,none⟩ (.int .i64 ((s.i:Int)+1))).cell? ⟨gt+1,6,none⟩=some (.int .i64 T.pos):=(hv3).kx.cell 6;go_upto_region 35 with fail
  have kr:=(hv3).kr;go_wp2_with (first|(refine ae aV rfl _ _ rfl rfl [.int .i64 23,.slice none 0 0,.int .i64 0,.int .i64 0,.string (bytes T.text),.string ⟨#[]⟩,.int .i64 T.pos] rfl kr rfl rfl rfl ?_;intro w9 p9))
  obtain⟨u0,u1,u2,u3,u4,u5,u6⟩:=zc7 p9.bk;obtain⟨hst,hgw⟩:=(hv3).fin jw.out p9;refine bodyPost_ret (v:=.agg #[.int .i64 23,.slice none 0 0,.int .i64 0,.int .i64 0,.string (bytes T.text),.string ⟨#[]⟩,.int .i64 T.pos]) (by simp[results,Try.results93,go_sem,u0,u1,u2,u3,u4,u5,u6]) rfl ?_;rw[<-HR2.out];exact⟨[.int .i64 23,.slice none 0 0,.int .i64 0,.int .i64 0,.string (bytes T.text),.string ⟨#[]⟩,.int .i64 T.pos],rfl,rfl,hst,hgw⟩
 have h5I:((T.kind:Int)==5)=false:=by rw[beq_eq_false_iff_ne];omega
 by_cases h2:T.kind=2
 ·as_aux_lemma=>
  have h2I:((T.kind:Int)==2)=true:=by rw[h2];rfl
  have HR2:Hid ((.leaf 24 0 0 (fE L s).1 (fE L s).2.1 T.pos,(fE L s).2.2)=RES):=zH (by rw[<-HR.out,if_neg h3,if_neg h4,if_neg h5,if_pos h2]);have xK:Hid (∀W:World,di b t rest L LA Lc s W->Calls Try.prog 99 #[.pointer (some ⟨b,0,none⟩)] W fun r w'=>r=.returned (.tuple #[.string (bytes (fE L s).1),.string (bytes (fE L s).2.1)])/\Steps b t rest L LA Lc (fE L s).2.2 W w'):=zH fun W h=>BK b t rest L LA Lc s W h he HI.out hL
  clear HR HIH Ql xI BM AZ HI;generalize fE L s=rf at *;obtain⟨n6,a6,x6⟩:=rf;simp only at xK HR2;have x0:(W).cell? ⟨gt+1,0,none⟩=some (.int .i64 0):=(HV.out).kx.cell 0;have f0:=(HV.out).kx.frozen 0;go_upto_region 14 with fail
  go_upto_region 15 with fail
  have hv1:nH b t rest L LA Lc gr gt (gt+1) T w [.int .i64 24,.slice none 0 0,.int .i64 0,.int .i64 0,.string ⟨#[]⟩,.string ⟨#[]⟩,.int .i64 T.pos] (s) ((W).setCell ⟨gt+1,0,none⟩ (.int .i64 24)):=(HV.out).put jw.out 0 (.int .i64 24);clear x0 f0
  skip
  generalize(W).setCell ⟨gt+1,0,none⟩ (.int .i64 24)=W2 at *;go_wp2_with fail
  refine(xK.out _ (hv1).st).mono ?_;rintro r LX ⟨rfl,U9,YI⟩;have hv3:nH b t rest L LA Lc gr gt (gt+1) T w [.int .i64 24,.slice none 0 0,.int .i64 0,.int .i64 0,.string ⟨#[]⟩,.string ⟨#[]⟩,.int .i64 T.pos] (x6) (LX):=(hv1).steps jw.out U9 YI;clear U9 YI xK;have x4:(LX).cell? ⟨gt+1,4,none⟩=some (.string ⟨#[]⟩):=(hv3).kx.cell 4;have f4:=(hv3).kx.frozen 4;have hv4:nH b t rest L LA Lc gr gt (gt+1) T w [.int .i64 24,.slice none 0 0,.int .i64 0,.int .i64 0,.string (bytes n6),.string ⟨#[]⟩,.int .i64 T.pos] (x6) ((LX).setCell ⟨gt+1,4,none⟩ (.string (bytes n6))):=(hv3).put jw.out 4 (.string (bytes n6));have x5:((LX).setCell ⟨gt+1,4,none⟩ (.string (bytes n6))).cell? ⟨gt+1,5,none⟩=some (.string ⟨#[]⟩):=(hv4).kx.cell 5;have f5:=(hv4).kx.frozen 5;have hv5:nH b t rest L LA Lc gr gt (gt+1) T w [.int .i64 24,.slice none 0 0,.int .i64 0,.int .i64 0,.string (bytes n6),.string (bytes a6),.int .i64 T.pos] (x6) (((LX).setCell ⟨gt+1,4,none⟩ (.string (bytes n6))).setCell ⟨gt+1,5,none⟩ (.string (bytes a6))):=(hv4).put jw.out 5 (.string (bytes a6));have e0:(((LX).setCell ⟨gt+1,4,none⟩ (.string (bytes n6))).setCell ⟨gt+1,5,none⟩ (.string (bytes a6))).cell? ⟨gt+1,0,none⟩=some (.int .i64 24):=(hv5).kx.cell 0;have e1:(((LX).setCell ⟨gt+1,4,none⟩ (.string (bytes n6))).setCell ⟨gt+1,5,none⟩ (.string (bytes a6))).cell? ⟨gt+1,1,none⟩=some (.slice none 0 0):=(hv5).kx.cell 1
  have e2:(((LX).setCell ⟨gt+1,4,none⟩ (.string (bytes n6))).setCell ⟨gt+1,5,none⟩ (.string (bytes a6))).cell? ⟨gt+1,2,none⟩=some (.int .i64 0):=(hv5).kx.cell 2;have e3:(((LX).setCell ⟨gt+1,4,none⟩ (.string (bytes n6))).setCell ⟨gt+1,5,none⟩ (.string (bytes a6))).cell? ⟨gt+1,3,none⟩=some (.int .i64 0):=(hv5).kx.cell 3;have e4:(((LX).setCell ⟨gt+1,4,none⟩ (.string (bytes n6))).setCell ⟨gt+1,5,none⟩ (.string (bytes a6))).cell? ⟨gt+1,4,none⟩=some (.string (bytes n6)):=(hv5).kx.cell 4;have e5:(((LX).setCell ⟨gt+1,4,none⟩ (.string (bytes n6))).setCell ⟨gt+1,5,none⟩ (.string (bytes a6))).cell? ⟨gt+1,5,none⟩=some (.string (bytes a6)):=(hv5).kx.cell 5;have e6:(((LX).setCell ⟨gt+1,4,none⟩ (.string (bytes n6))).setCell ⟨gt+1,5,none⟩ (.string (bytes a6))).cell? ⟨gt+1,6,none⟩=some (.int .i64 T.pos):=(hv5).kx.cell 6;go_upto_region 35 with fail
  have kr:=(hv5).kr;go_wp2_with (first|(refine ae aV rfl _ _ rfl rfl [.int .i64 24,.slice none 0 0,.int .i64 0,.int .i64 0,.string (bytes n6),.string (bytes a6),.int .i64 T.pos] rfl kr rfl rfl rfl ?_;intro w9 p9))
  obtain⟨u0,u1,u2,u3,u4,u5,u6⟩:=zc7 p9.bk;obtain⟨hst,hgw⟩:=(hv5).fin jw.out p9;refine bodyPost_ret (v:=.agg #[.int .i64 24,.slice none 0 0,.int .i64 0,.int .i64 0,.string (bytes n6),.string (bytes a6),.int .i64 T.pos]) (by simp[results,Try.results93,go_sem,u0,u1,u2,u3,u4,u5,u6]) rfl ?_;rw[<-HR2.out];exact⟨[.int .i64 24,.slice none 0 0,.int .i64 0,.int .i64 0,.string (bytes n6),.string (bytes a6),.int .i64 T.pos],rfl,rfl,hst,hgw⟩
 have h2I:((T.kind:Int)==2)=false:=by rw[beq_eq_false_iff_ne];omega
 obtain⟨q0,hq0⟩:∃z,eQ L s [40]=z:=⟨_,rfl⟩
 obtain⟨qT,hqT⟩:∃z,eQ L s Eo=z:=⟨_,rfl⟩
 obtain⟨qF,hqF⟩:∃z,eQ L s Dc=z:=⟨_,rfl⟩
 obtain⟨qR,hqR⟩:∃z,eQ L s Jg=z:=⟨_,rfl⟩
 obtain⟨qN,hqN⟩:∃z,eQ L s ML=z:=⟨_,rfl⟩
 have HI0:=fun W h=>AZ.out ⟨#[40]⟩ [40] (by rw[ByteArray.toList_eq]) W h
 have HIT:=fun W h=>AZ.out ⟨#[84,82,85,69]⟩ Eo (by rw[ByteArray.toList_eq];rfl) W h
 have HIF:=fun W h=>AZ.out ⟨#[70,65,76,83,69]⟩ Dc (by rw[ByteArray.toList_eq];rfl) W h
 have HIR:=fun W h=>AZ.out ⟨#[82,69,65,76]⟩ Jg (by rw[ByteArray.toList_eq];rfl) W h
 have YJ:=fun W h=>AZ.out ⟨#[73,83,78,65,78]⟩ ML (by rw[ByteArray.toList_eq];rfl) W h
 have Ef:Hid (q0=true->T.kind≠0):=zH fun h=>Ql.out [40] (by rw[hq0];exact h)
 have Va:Hid ((qT||qF)=true->T.kind≠0):=zH fun h=>by
  rcases Bool.or_eq_true_iff.1 h with h|h
  ·exact Ql.out Eo (by rw[hqT];exact h)
  ·exact Ql.out Dc (by rw[hqF];exact h)
 have BN:Hid ((qR||qN)=true->T.kind≠0):=zH fun h=>by
  rcases Bool.or_eq_true_iff.1 h with h|h
  ·exact Ql.out Jg (by rw[hqR];exact h)
  ·exact Ql.out ML (by rw[hqN];exact h)
 rw[hq0]at HI0;rw[hqT]at HIT;rw[hqF]at HIF;rw[hqR]at HIR;rw[hqN]at YJ;have H0:=zH HI0;have H1:=zH HIT;have H2:=zH HIF;have H3:=zH HIR;have H4:=zH YJ
 have HRR:Hid ((if q0=true then((aB L f 1 (aQ L s)).1,pI (ay L [41] (aB L f 1 (aQ L s)).2))else if(qT||qF)=true then(.leaf 22 (if qT=true then 1 else 0) 0 [] [] T.pos,aO s)else if(qR||qN)=true then(.un (if qN=true then 17 else 16) (aB L f 1 (ay L [40] (aQ L s))).1 T.pos,pI (ay L [41] (aB L f 1 (ay L [40] (aQ L s))).2))else dP L T.pos s)=RES):=zH (by
  rw[<-HR.out,if_neg h3,if_neg h4,if_neg h5,if_neg h2,hq0,hqT,hqF,hqR,hqN])
 clear HR HI0 HIT HIF HIR YJ AZ Ql hq0 hqT hqF hqR hqN;cases q0
 case true=>
  as_aux_lemma=>
  have HR2:Hid (((aB L f 1 (aQ L s)).1,pI (ay L [41] (aB L f 1 (aQ L s)).2))=RES):=zH HRR.out;obtain⟨ho1,ho2,ho3⟩:=BM.out (Ef.out rfl);have EH:Hid (∀W:World,di b t rest L LA Lc s W->Calls Try.prog 98 #[.pointer (some ⟨b,0,none⟩)] W fun r w'=>r=.returned (.int .i64 ((bf L s).pos:Nat))/\Steps b t rest L LA Lc (aQ L s) W w'):=zH fun W h=>open_any b t rest L LA Lc s W h hil hL (by omega)
  have lZ:Hid (∀W:World,di b t rest L LA Lc (aQ L s) W->Calls Try.prog 80 #[.pointer (some ⟨b,0,none⟩),.int .i64 1] W (gX b t rest L LA Lc (aB L f 1 (aQ L s)) W)):=zH fun W h=>HIH.out 1 (aQ L s) W (by omega) (by omega) h ho1 (by omega)
  have hgo:=dV he f 1 (aQ L s) ho1
  have lX:Hid (∀W:World,di b t rest L LA Lc (aB L f 1 (aQ L s)).2 W->Calls Try.prog 37 #[.pointer (some ⟨b,0,none⟩),.string ⟨#[41]⟩] W fun r w'=>r=.returned (.tuple #[])/\Steps b t rest L LA Lc (ay L [41] (aB L f 1 (aQ L s)).2) W w'):=zH fun W h=>by
   have:=fM b t rest L LA Lc (aB L f 1 (aQ L s)).2 W ⟨#[41]⟩ h hgo.ok.lt hL
   rwa [show(⟨#[41]⟩:ByteArray).toList=[41] by rw[ByteArray.toList_eq]]at this
  have hg2:=hgo.trans (bn.need he [41] hgo.ok);have pO:=hg2.opn;have hok2:=hg2.ok.opn;have hlt2:=hg2.ok.lt;clear HIH xI HI HRR Ef Va BN H1 H2 H3 H4 BM hgo hg2;go_wp2_with fail
  refine(H0.out _ (HV.out).st).mono ?_;rintro r W30 ⟨rfl,hbq⟩;have Vb:=HV.out.old hbq;clear hbq H0 HV;go_wp2_with fail
  refine(EH.out _ Vb.st).mono ?_;rintro r W31 ⟨rfl,YK,YL⟩;have hv31:=Vb.steps jw.out YK YL;have Vd:=hv31.kx.lt;clear YK YL EH Vb;generalize aQ L s=so at *;generalize aB L f 1 so=rr at *;obtain⟨e5,s5⟩:=rr;simp only at lZ lX HR2 pO hok2 hlt2;go_wp2_with fail
  refine(lZ.out _ hv31.st).mono ?_;rintro r W32 ⟨cs,rfl,hE,Ve,YM⟩;have hv32:=hv31.steps jw.out Ve YM;simp only at hE Ve hv32;obtain⟨y0,y1,y2,y3,y4,y5,y6,rfl,hy⟩:=hE.seven;have HE:=zH hE;have kxx:=hv32.kx;clear Ve YM lZ hv31 hE;go_wp2_with (first|(refine ae aV rfl _ _ rfl rfl [y0,y1,y2,y3,y4,y5,y6] rfl kxx rfl rfl hy ?_;intro W33 p33))
  have Vf:=hv32.sG jw.out p33;have HE3:=zH (HE.out.put p33 (by omega));clear HE hv32 kxx p33;go_wp2_with fail
  refine(lX.out _ Vf.st).mono ?_;rintro r Vg ⟨rfl,YO,Vh⟩;have hv34:=Vf.steps jw.out YO Vh;have HE4:=zH (HE3.out.grown Vh (by omega));generalize ay L [41] s5=s6 at *;clear YO Vh lX Vf HE3;have d2:=hv34.st.c2;have fr2:=hv34.st.fr 2;obtain⟨on,hon⟩:∃n,s6.opn-1=n:=⟨_,rfl⟩
  have Nw:(s6.opn:Int)-1=(on:Int):=by omega
  have Ny:(s6.opn:Int)<=4001:=by omega
  have Dn:=hv34.steps jw.out (hv34.st.set2 on) (aY (World.grownBy.refl _ _));have Vj:=zH (HE4.out.set (q:=b) (o:=2) (v:=.int .i64 (on:Int)) (by omega));have Nz:=zH hon;clear HE4 hv34 hon pO hok2 ho3;have e0:(Vg.setCell ⟨b,2,none⟩ (.int .i64 (on:Int))).cell? ⟨gt+1,0,none⟩=some (y0):=(Dn).kx.cell 0;have e1:(Vg.setCell ⟨b,2,none⟩ (.int .i64 (on:Int))).cell? ⟨gt+1,1,none⟩=some (y1):=(Dn).kx.cell 1;have e2:(Vg.setCell ⟨b,2,none⟩ (.int .i64 (on:Int))).cell? ⟨gt+1,2,none⟩=some (y2):=(Dn).kx.cell 2;have e3:(Vg.setCell ⟨b,2,none⟩ (.int .i64 (on:Int))).cell? ⟨gt+1,3,none⟩=some (y3):=(Dn).kx.cell 3;have e4:(Vg.setCell ⟨b,2,none⟩ (.int .i64 (on:Int))).cell? ⟨gt+1,4,none⟩=some (y4):=(Dn).kx.cell 4;have e5:(Vg.setCell ⟨b,2,none⟩ (.int .i64 (on:Int))).cell? ⟨gt+1,5,none⟩=some (y5):=(Dn).kx.cell 5;have e6:(Vg.setCell ⟨b,2,none⟩ (.int .i64 (on:Int))).cell? ⟨gt+1,6,none⟩=some (y6):=(Dn).kx.cell 6;go_upto_region 35 with fail
  have kr:=(Dn).kr;go_wp2_with (first|(refine ae aV rfl _ _ rfl rfl [y0,y1,y2,y3,y4,y5,y6] rfl kr rfl rfl hy ?_;intro w9 p9))
  obtain⟨u0,u1,u2,u3,u4,u5,u6⟩:=zc7 p9.bk;obtain⟨hst,hgw⟩:=(Dn).fin jw.out p9;refine bodyPost_ret (v:=.agg #[y0,y1,y2,y3,y4,y5,y6]) (by simp[results,Try.results93,go_sem,u0,u1,u2,u3,u4,u5,u6]) rfl ?_;rw[<-HR2.out];rw[<-Nz.out]at hst;exact⟨[y0,y1,y2,y3,y4,y5,y6],rfl,(Vj.out.put p9 (by omega)).more (by omega),hst,hgw⟩
 case false=>
 cases qT
 case true=>
  as_aux_lemma=>
  go_wp2_with fail
  refine(H0.out _ HV.out.st).mono ?_;rintro r YP ⟨rfl,hbq⟩;have pR:=HV.out.old hbq;clear hbq H0;have HR2:Hid ((.leaf 22 1 0 [] [] T.pos,aO s)=RES):=zH HRR.out;clear HRR HIH xI BM HI Ef Va BN H3 H4;go_wp2_with fail
  refine(H1.out _ (pR).st).mono ?_;rintro r TN ⟨rfl,hbq⟩;have o6:=(pR).old hbq;clear hbq;have x0:(TN).cell? ⟨gt+1,0,none⟩=some (.int .i64 0):=(o6).kx.cell 0;have f0:=(o6).kx.frozen 0;go_upto_region 23 with fail
  have o7:nH b t rest L LA Lc gr gt (gt+1) T w [.int .i64 22,.slice none 0 0,.int .i64 0,.int .i64 0,.string ⟨#[]⟩,.string ⟨#[]⟩,.int .i64 T.pos] (s) ((TN).setCell ⟨gt+1,0,none⟩ (.int .i64 22)):=(o6).put jw.out 0 (.int .i64 22);clear x0 f0;generalize(TN).setCell ⟨gt+1,0,none⟩ (.int .i64 22)=Qm at *;go_wp2_with fail
  refine(H1.out _ (o7).st).mono ?_;rintro r QU ⟨rfl,hbq⟩;have nZ:=(o7).old hbq;clear hbq;have x2:(QU).cell? ⟨gt+1,2,none⟩=some (.int .i64 0):=(nZ).kx.cell 2;have f2:=(nZ).kx.frozen 2;go_upto_region 25 with fail
  have xM:nH b t rest L LA Lc gr gt (gt+1) T w [.int .i64 22,.slice none 0 0,.int .i64 1,.int .i64 0,.string ⟨#[]⟩,.string ⟨#[]⟩,.int .i64 T.pos] (s) ((QU).setCell ⟨gt+1,2,none⟩ (.int .i64 1)):=(nZ).put jw.out 2 (.int .i64 1);clear x2 f2;generalize(QU).setCell ⟨gt+1,2,none⟩ (.int .i64 1)=Jn at *;have d1:=(xM).st.c1;have g1:=(xM).st.fr 1;have hv1:nH b t rest L LA Lc gr gt (gt+1) T w [.int .i64 22,.slice none 0 0,.int .i64 1,.int .i64 0,.string ⟨#[]⟩,.string ⟨#[]⟩,.int .i64 T.pos] (⟨s.i+1,s.opn,s.err,s.pos⟩) ((Jn).setCell ⟨b,1,none⟩ (.int .i64 ((s.i:Int)+1))):=(xM).steps jw.out ((xM).st.set1 (s.i+1)) (aY (World.grownBy.refl _ _));have e0:((Jn).setCell ⟨b,1,none⟩ (.int .i64 ((s.i:Int)+1))).cell? ⟨gt+1,0,none⟩=some (.int .i64 22):=(hv1).kx.cell 0;have e1:((Jn).setCell ⟨b,1,none⟩ (.int .i64 ((s.i:Int)+1))).cell? ⟨gt+1,1,none⟩=some (.slice none 0 0):=(hv1).kx.cell 1;have e2:((Jn).setCell ⟨b,1,none⟩ (.int .i64 ((s.i:Int)+1))).cell? ⟨gt+1,2,none⟩=some (.int .i64 1):=(hv1).kx.cell 2;have e3:((Jn).setCell ⟨b,1,none⟩ (.int .i64 ((s.i:Int)+1))).cell? ⟨gt+1,3,none⟩=some (.int .i64 0):=(hv1).kx.cell 3;have e4:((Jn).setCell ⟨b,1,none⟩ (.int .i64 ((s.i:Int)+1))).cell? ⟨gt+1,4,none⟩=some (.string ⟨#[]⟩):=(hv1).kx.cell 4;have e5:((Jn).setCell ⟨b,1,none⟩ (.int .i64 ((s.i:Int)+1))).cell? ⟨gt+1,5,none⟩=some (.string ⟨#[]⟩):=(hv1).kx.cell 5
  have e6:((Jn).setCell ⟨b,1,none⟩ (.int .i64 ((s.i:Int)+1))).cell? ⟨gt+1,6,none⟩=some (.int .i64 T.pos):=(hv1).kx.cell 6;go_upto_region 35 with fail
  have kr:=(hv1).kr;go_wp2_with (first|(refine ae aV rfl _ _ rfl rfl [.int .i64 22,.slice none 0 0,.int .i64 1,.int .i64 0,.string ⟨#[]⟩,.string ⟨#[]⟩,.int .i64 T.pos] rfl kr rfl rfl rfl ?_;intro w9 p9))
  obtain⟨u0,u1,u2,u3,u4,u5,u6⟩:=zc7 p9.bk;obtain⟨hst,hgw⟩:=(hv1).fin jw.out p9;refine bodyPost_ret (v:=.agg #[.int .i64 22,.slice none 0 0,.int .i64 1,.int .i64 0,.string ⟨#[]⟩,.string ⟨#[]⟩,.int .i64 T.pos]) (by simp[results,Try.results93,go_sem,u0,u1,u2,u3,u4,u5,u6]) rfl ?_;rw[<-HR2.out];exact⟨[.int .i64 22,.slice none 0 0,.int .i64 1,.int .i64 0,.string ⟨#[]⟩,.string ⟨#[]⟩,.int .i64 T.pos],rfl,rfl,hst,hgw⟩
 case false=>
 cases qF
 case true=>
  as_aux_lemma=>
  go_wp2_with fail
  refine(H0.out _ HV.out.st).mono ?_;rintro r YP ⟨rfl,hbq⟩;have pR:=HV.out.old hbq;clear hbq H0;have HR2:Hid ((.leaf 22 0 0 [] [] T.pos,aO s)=RES):=zH HRR.out;clear HRR HIH xI BM HI Ef Va BN H3 H4;go_wp2_with fail
  refine(H1.out _ (pR).st).mono ?_;rintro r TN ⟨rfl,hbq⟩;have o6:=(pR).old hbq;clear hbq;go_wp2_with fail
  refine(H2.out _ (o6).st).mono ?_;rintro r Vk ⟨rfl,hbq⟩;have o7:=(o6).old hbq;clear hbq;have x0:(Vk).cell? ⟨gt+1,0,none⟩=some (.int .i64 0):=(o7).kx.cell 0;have f0:=(o7).kx.frozen 0;go_upto_region 23 with fail
  have rM:nH b t rest L LA Lc gr gt (gt+1) T w [.int .i64 22,.slice none 0 0,.int .i64 0,.int .i64 0,.string ⟨#[]⟩,.string ⟨#[]⟩,.int .i64 T.pos] (s) ((Vk).setCell ⟨gt+1,0,none⟩ (.int .i64 22)):=(o7).put jw.out 0 (.int .i64 22);clear x0 f0;generalize(Vk).setCell ⟨gt+1,0,none⟩ (.int .i64 22)=QU at *;go_wp2_with fail
  refine(H1.out _ (rM).st).mono ?_;rintro r Qn ⟨rfl,hbq⟩;have xM:=(rM).old hbq;clear hbq;have d1:=(xM).st.c1;have g1:=(xM).st.fr 1;have hv1:nH b t rest L LA Lc gr gt (gt+1) T w [.int .i64 22,.slice none 0 0,.int .i64 0,.int .i64 0,.string ⟨#[]⟩,.string ⟨#[]⟩,.int .i64 T.pos] (⟨s.i+1,s.opn,s.err,s.pos⟩) ((Qn).setCell ⟨b,1,none⟩ (.int .i64 ((s.i:Int)+1))):=(xM).steps jw.out ((xM).st.set1 (s.i+1)) (aY (World.grownBy.refl _ _));have e0:((Qn).setCell ⟨b,1,none⟩ (.int .i64 ((s.i:Int)+1))).cell? ⟨gt+1,0,none⟩=some (.int .i64 22):=(hv1).kx.cell 0;have e1:((Qn).setCell ⟨b,1,none⟩ (.int .i64 ((s.i:Int)+1))).cell? ⟨gt+1,1,none⟩=some (.slice none 0 0):=(hv1).kx.cell 1;have e2:((Qn).setCell ⟨b,1,none⟩ (.int .i64 ((s.i:Int)+1))).cell? ⟨gt+1,2,none⟩=some (.int .i64 0):=(hv1).kx.cell 2;have e3:((Qn).setCell ⟨b,1,none⟩ (.int .i64 ((s.i:Int)+1))).cell? ⟨gt+1,3,none⟩=some (.int .i64 0):=(hv1).kx.cell 3;have e4:((Qn).setCell ⟨b,1,none⟩ (.int .i64 ((s.i:Int)+1))).cell? ⟨gt+1,4,none⟩=some (.string ⟨#[]⟩):=(hv1).kx.cell 4;have e5:((Qn).setCell ⟨b,1,none⟩ (.int .i64 ((s.i:Int)+1))).cell? ⟨gt+1,5,none⟩=some (.string ⟨#[]⟩):=(hv1).kx.cell 5;have e6:((Qn).setCell ⟨b,1,none⟩ (.int .i64 ((s.i:Int)+1))).cell? ⟨gt+1,6,none⟩=some (.int .i64 T.pos):=(hv1).kx.cell 6;go_upto_region 35 with fail
  have kr:=(hv1).kr;go_wp2_with (first|(refine ae aV rfl _ _ rfl rfl [.int .i64 22,.slice none 0 0,.int .i64 0,.int .i64 0,.string ⟨#[]⟩,.string ⟨#[]⟩,.int .i64 T.pos] rfl kr rfl rfl rfl ?_;intro w9 p9))
  obtain⟨u0,u1,u2,u3,u4,u5,u6⟩:=zc7 p9.bk;obtain⟨hst,hgw⟩:=(hv1).fin jw.out p9;refine bodyPost_ret (v:=.agg #[.int .i64 22,.slice none 0 0,.int .i64 0,.int .i64 0,.string ⟨#[]⟩,.string ⟨#[]⟩,.int .i64 T.pos]) (by simp[results,Try.results93,go_sem,u0,u1,u2,u3,u4,u5,u6]) rfl ?_;rw[<-HR2.out];exact⟨[.int .i64 22,.slice none 0 0,.int .i64 0,.int .i64 0,.string ⟨#[]⟩,.string ⟨#[]⟩,.int .i64 T.pos],rfl,rfl,hst,hgw⟩
 case false=>
 cases qR
 case true=>
  cases qN
  case true=>
   as_aux_lemma=>
   go_wp2_with fail
   refine(H0.out _ HV.out.st).mono ?_;rintro r YP ⟨rfl,hbq⟩;have pR:=HV.out.old hbq;clear hbq H0;have HR2:Hid ((.un 17 (aB L f 1 (ay L [40] (aQ L s))).1 T.pos,pI (ay L [41] (aB L f 1 (ay L [40] (aQ L s))).2))=RES):=zH HRR.out;obtain⟨ho1,ho2,ho3⟩:=BM.out (BN.out rfl);have gn:=bn.need he [40] ho1;have EH:Hid (∀W:World,di b t rest L LA Lc s W->Calls Try.prog 98 #[.pointer (some ⟨b,0,none⟩)] W fun r w'=>r=.returned (.int .i64 ((bf L s).pos:Nat))/\Steps b t rest L LA Lc (aQ L s) W w'):=zH fun W h=>open_any b t rest L LA Lc s W h hil hL (by omega)
   have Ba:Hid (∀W:World,di b t rest L LA Lc (aQ L s) W->Calls Try.prog 37 #[.pointer (some ⟨b,0,none⟩),.string ⟨#[40]⟩] W fun r w'=>r=.returned (.tuple #[])/\Steps b t rest L LA Lc (ay L [40] (aQ L s)) W w'):=zH fun W h=>by
    have:=fM b t rest L LA Lc (aQ L s) W ⟨#[40]⟩ h ho1.lt hL
    rwa [show(⟨#[40]⟩:ByteArray).toList=[40] by rw[ByteArray.toList_eq]]at this
   have hle0:=gn.le;have lZ:Hid (∀W:World,di b t rest L LA Lc (ay L [40] (aQ L s)) W->Calls Try.prog 80 #[.pointer (some ⟨b,0,none⟩),.int .i64 1] W (gX b t rest L LA Lc (aB L f 1 (ay L [40] (aQ L s))) W)):=zH fun W h=>HIH.out 1 _ W (by omega) (by omega) h gn.ok (by omega)
   have hgo:=gn.trans (dV he f 1 _ gn.ok)
   have lX:Hid (∀W:World,di b t rest L LA Lc (aB L f 1 (ay L [40] (aQ L s))).2 W->Calls Try.prog 37 #[.pointer (some ⟨b,0,none⟩),.string ⟨#[41]⟩] W fun r w'=>r=.returned (.tuple #[])/\Steps b t rest L LA Lc (ay L [41] (aB L f 1 (ay L [40] (aQ L s))).2) W w'):=zH fun W h=>by
    have:=fM b t rest L LA Lc _ W ⟨#[41]⟩ h hgo.ok.lt hL
    rwa [show(⟨#[41]⟩:ByteArray).toList=[41] by rw[ByteArray.toList_eq]]at this
   have hg2:=hgo.trans (bn.need he [41] hgo.ok);have pO:=hg2.opn;have hok2:=hg2.ok.opn;have hlt2:=hg2.ok.lt;clear HIH xI HI HRR Ef Va BN BM hgo hg2 gn hle0;go_wp2_with fail
   refine(H1.out _ (pR).st).mono ?_;rintro r TN ⟨rfl,hbq⟩;have o6:=(pR).old hbq;clear hbq;go_wp2_with fail
   refine(H2.out _ (o6).st).mono ?_;rintro r Vk ⟨rfl,hbq⟩;have o7:=(o6).old hbq;clear hbq;go_wp2_with fail
   refine(H3.out _ (o7).st).mono ?_;rintro r Qm ⟨rfl,hbq⟩;have rM:=(o7).old hbq;clear hbq;have x0:(Qm).cell? ⟨gt+1,0,none⟩=some (.int .i64 0):=(rM).kx.cell 0;have f0:=(rM).kx.frozen 0;go_upto_region 28 with fail
   have nZ:nH b t rest L LA Lc gr gt (gt+1) T w [.int .i64 16,.slice none 0 0,.int .i64 0,.int .i64 0,.string ⟨#[]⟩,.string ⟨#[]⟩,.int .i64 T.pos] (s) ((Qm).setCell ⟨gt+1,0,none⟩ (.int .i64 16)):=(rM).put jw.out 0 (.int .i64 16);clear x0 f0 H1 H2 H3;generalize(Qm).setCell ⟨gt+1,0,none⟩ (.int .i64 16)=Qn at *;go_wp2_with fail
   refine(H4.out _ (nZ).st).mono ?_;rintro r Jn ⟨rfl,hbq⟩;have Ko:=(nZ).old hbq;clear hbq;clear H4;have x0:(Jn).cell? ⟨gt+1,0,none⟩=some (.int .i64 16):=(Ko).kx.cell 0;have f0:=(Ko).kx.frozen 0;go_upto_region 30 with fail
   have Bc:nH b t rest L LA Lc gr gt (gt+1) T w [.int .i64 17,.slice none 0 0,.int .i64 0,.int .i64 0,.string ⟨#[]⟩,.string ⟨#[]⟩,.int .i64 T.pos] (s) ((Jn).setCell ⟨gt+1,0,none⟩ (.int .i64 17)):=(Ko).put jw.out 0 (.int .i64 17);clear x0 f0;generalize(Jn).setCell ⟨gt+1,0,none⟩ (.int .i64 17)=W48 at *;go_wp2_with fail
   refine(EH.out _ (Bc).st).mono ?_;rintro r wU ⟨rfl,hsk,hgk⟩;have Ht:=(Bc).steps jw.out hsk hgk;clear EH;have Vd:=(Ht).kx.lt;clear hsk hgk;generalize aQ L s=so at *;go_wp2_with fail
   refine(Ba.out _ (Ht).st).mono ?_;rintro r ND ⟨rfl,hsk,hgk⟩;have EI:=(Ht).steps jw.out hsk hgk;clear Ba;clear hsk hgk;have hz32:=(EI).kx.lt;generalize ay L [40] so=sn at *;generalize aB L f 1 sn=rr at *;obtain⟨e5,s5⟩:=rr;simp only at lZ lX HR2 pO hok2 hlt2;obtain⟨WB,YQ⟩:∃z,ND.heap.size=z:=⟨_,rfl⟩
   have hzg:=(EI).gw.size;go_wp2_with fail
   refine(lZ.out _ (EI).st).mono ?_;rintro r wV ⟨cs,rfl,hE,hsk,hgk⟩;have EJ:=(EI).steps jw.out hsk hgk;simp only at hE hsk EJ;rw[YQ]at hE;obtain⟨y0,y1,y2,y3,y4,y5,y6,rfl,hy⟩:=hE.seven;have hsz:=hgk.size;clear hsk hgk lZ;have hzb:gt+1<wV.heap.size:=by omega
   have xN:Below wV.heap.size wV (wV.alloc (.cells #[y0,y1,y2,y3,y4,y5,y6] 118)):=zR.alloc zL _;have y9:=(EJ).old xN;have x1:(wV.alloc (.cells #[y0,y1,y2,y3,y4,y5,y6] 118)).cell? ⟨gt+1,1,none⟩=some (.slice none 0 0):=(y9).kx.cell 1;have f1:=(y9).kx.frozen 1;have hva:nH b t rest L LA Lc gr gt (gt+1) T w [.int .i64 17,.slice (some ⟨wV.heap.size,0,none⟩) 1 1,.int .i64 0,.int .i64 0,.string ⟨#[]⟩,.string ⟨#[]⟩,.int .i64 T.pos] s5 (wV.setCell ⟨gt+1,1,none⟩ (.slice (some ⟨wV.heap.size,0,none⟩) 1 1)):=(EJ).put jw.out 1 _;have hE1:=hE.set (q:=gt+1) (o:=1) (v:=.slice (some ⟨wV.heap.size,0,none⟩) 1 1) (by omega);have hbb:Below (wV.setCell ⟨gt+1,1,none⟩ (.slice (some ⟨wV.heap.size,0,none⟩) 1 1)).heap.size (wV.setCell ⟨gt+1,1,none⟩ (.slice (some ⟨wV.heap.size,0,none⟩) 1 1)) ((wV.setCell ⟨gt+1,1,none⟩ (.slice (some ⟨wV.heap.size,0,none⟩) 1 1)).alloc (.cells #[y0,y1,y2,y3,y4,y5,y6] 118)):=zR.alloc zL _;have hvb:=hva.old hbb;have TP:=hE1.old hbb;have LY:Bk ((wV.setCell ⟨gt+1,1,none⟩ (.slice (some ⟨wV.heap.size,0,none⟩) 1 1)).alloc (.cells #[y0,y1,y2,y3,y4,y5,y6] 118)) (wV.heap.size) 118 #[y0,y1,y2,y3,y4,y5,y6]:=Bk.newAt (by simp) _ _;clear xN y9 hva hE1 hbb hE;go_wp2_with (first|(refine fO rfl _ rfl rfl ?_))
   refine(lX.out _ hvb.st).mono ?_;rintro r zf ⟨rfl,hsk,hgk⟩;have EK:=hvb.steps jw.out hsk hgk;have TQ:=TP.grown hgk (by omega);have TR:=LY.grown hgk (aC (by omega));clear hsk hgk lX hvb TP LY x1 f1;generalize ay L [41] s5=s6 at *;have d2:=EK.st.c2;have fr2:=EK.st.fr 2;obtain⟨on,hon⟩:∃n,s6.opn-1=n:=⟨_,rfl⟩
   have Nw:(s6.opn:Int)-1=(on:Int):=by omega
   have Ny:(s6.opn:Int)<=4001:=by omega
   have hvd:=EK.steps jw.out (EK.st.set2 on) (aY (World.grownBy.refl _ _));have Vj:=zH (TQ.set (q:=b) (o:=2) (v:=.int .i64 (on:Int)) (by omega));have YR:=zH (TR.far (p:=⟨b,2,none⟩) (by show wV.heap.size≠b;omega) (.int .i64 (on:Int)));have Nz:=zH hon;clear TQ TR EK hon pO hok2 ho3;have e0:(zf.setCell ⟨b,2,none⟩ (.int .i64 (on:Int))).cell? ⟨gt+1,0,none⟩=some (.int .i64 17):=(hvd).kx.cell 0;have e1:(zf.setCell ⟨b,2,none⟩ (.int .i64 (on:Int))).cell? ⟨gt+1,1,none⟩=some (.slice (some ⟨wV.heap.size,0,none⟩) 1 1):=(hvd).kx.cell 1;have e2:(zf.setCell ⟨b,2,none⟩ (.int .i64 (on:Int))).cell? ⟨gt+1,2,none⟩=some (.int .i64 0):=(hvd).kx.cell 2;have e3:(zf.setCell ⟨b,2,none⟩ (.int .i64 (on:Int))).cell? ⟨gt+1,3,none⟩=some (.int .i64 0):=(hvd).kx.cell 3;have e4:(zf.setCell ⟨b,2,none⟩ (.int .i64 (on:Int))).cell? ⟨gt+1,4,none⟩=some (.string ⟨#[]⟩):=(hvd).kx.cell 4;have e5:(zf.setCell ⟨b,2,none⟩ (.int .i64 (on:Int))).cell? ⟨gt+1,5,none⟩=some (.string ⟨#[]⟩):=(hvd).kx.cell 5;have e6:(zf.setCell ⟨b,2,none⟩ (.int .i64 (on:Int))).cell? ⟨gt+1,6,none⟩=some (.int .i64 T.pos):=(hvd).kx.cell 6;go_upto_region 35 with fail
   have kr:=(hvd).kr;go_wp2_with (first|(refine ae aV rfl _ _ rfl rfl [.int .i64 17,.slice (some ⟨wV.heap.size,0,none⟩) 1 1,.int .i64 0,.int .i64 0,.string ⟨#[]⟩,.string ⟨#[]⟩,.int .i64 T.pos] rfl kr rfl rfl rfl ?_;intro w9 p9))
   obtain⟨u0,u1,u2,u3,u4,u5,u6⟩:=zc7 p9.bk;obtain⟨hst,hgw⟩:=(hvd).fin jw.out p9;refine bodyPost_ret (v:=.agg #[.int .i64 17,.slice (some ⟨wV.heap.size,0,none⟩) 1 1,.int .i64 0,.int .i64 0,.string ⟨#[]⟩,.string ⟨#[]⟩,.int .i64 T.pos]) (by simp[results,Try.results93,go_sem,u0,u1,u2,u3,u4,u5,u6]) rfl ?_;rw[<-HR2.out];rw[<-Nz.out]at hst;exact⟨[.int .i64 17,.slice (some ⟨wV.heap.size,0,none⟩) 1 1,.int .i64 0,.int .i64 0,.string ⟨#[]⟩,.string ⟨#[]⟩,.int .i64 T.pos],rfl,⟨wV.heap.size,[y0,y1,y2,y3,y4,y5,y6],rfl,by omega,p9.Eu YR.out (by omega),(Vj.out.put p9 (by omega)).keep fun g h1 h2=>⟨by omega,rfl⟩⟩,hst,hgw⟩
  case false=>
   as_aux_lemma=>
   go_wp2_with fail
   refine(H0.out _ HV.out.st).mono ?_;rintro r YP ⟨rfl,hbq⟩;have pR:=HV.out.old hbq;clear hbq H0;have HR2:Hid ((.un 16 (aB L f 1 (ay L [40] (aQ L s))).1 T.pos,pI (ay L [41] (aB L f 1 (ay L [40] (aQ L s))).2))=RES):=zH HRR.out;obtain⟨ho1,ho2,ho3⟩:=BM.out (BN.out rfl);have gn:=bn.need he [40] ho1;have EH:Hid (∀W:World,di b t rest L LA Lc s W->Calls Try.prog 98 #[.pointer (some ⟨b,0,none⟩)] W fun r w'=>r=.returned (.int .i64 ((bf L s).pos:Nat))/\Steps b t rest L LA Lc (aQ L s) W w'):=zH fun W h=>open_any b t rest L LA Lc s W h hil hL (by omega)
   have Ba:Hid (∀W:World,di b t rest L LA Lc (aQ L s) W->Calls Try.prog 37 #[.pointer (some ⟨b,0,none⟩),.string ⟨#[40]⟩] W fun r w'=>r=.returned (.tuple #[])/\Steps b t rest L LA Lc (ay L [40] (aQ L s)) W w'):=zH fun W h=>by
    have:=fM b t rest L LA Lc (aQ L s) W ⟨#[40]⟩ h ho1.lt hL
    rwa [show(⟨#[40]⟩:ByteArray).toList=[40] by rw[ByteArray.toList_eq]]at this
   have hle0:=gn.le;have lZ:Hid (∀W:World,di b t rest L LA Lc (ay L [40] (aQ L s)) W->Calls Try.prog 80 #[.pointer (some ⟨b,0,none⟩),.int .i64 1] W (gX b t rest L LA Lc (aB L f 1 (ay L [40] (aQ L s))) W)):=zH fun W h=>HIH.out 1 _ W (by omega) (by omega) h gn.ok (by omega)
   have hgo:=gn.trans (dV he f 1 _ gn.ok)
   have lX:Hid (∀W:World,di b t rest L LA Lc (aB L f 1 (ay L [40] (aQ L s))).2 W->Calls Try.prog 37 #[.pointer (some ⟨b,0,none⟩),.string ⟨#[41]⟩] W fun r w'=>r=.returned (.tuple #[])/\Steps b t rest L LA Lc (ay L [41] (aB L f 1 (ay L [40] (aQ L s))).2) W w'):=zH fun W h=>by
    have:=fM b t rest L LA Lc _ W ⟨#[41]⟩ h hgo.ok.lt hL
    rwa [show(⟨#[41]⟩:ByteArray).toList=[41] by rw[ByteArray.toList_eq]]at this
   have hg2:=hgo.trans (bn.need he [41] hgo.ok);have pO:=hg2.opn;have hok2:=hg2.ok.opn;have hlt2:=hg2.ok.lt;clear HIH xI HI HRR Ef Va BN BM hgo hg2 gn hle0;go_wp2_with fail
   refine(H1.out _ (pR).st).mono ?_;rintro r TN ⟨rfl,hbq⟩;have o6:=(pR).old hbq;clear hbq;go_wp2_with fail
   refine(H2.out _ (o6).st).mono ?_;rintro r Vk ⟨rfl,hbq⟩;have o7:=(o6).old hbq;clear hbq;go_wp2_with fail
   refine(H3.out _ (o7).st).mono ?_;rintro r Qm ⟨rfl,hbq⟩;have rM:=(o7).old hbq;clear hbq;have x0:(Qm).cell? ⟨gt+1,0,none⟩=some (.int .i64 0):=(rM).kx.cell 0;have f0:=(rM).kx.frozen 0;go_upto_region 28 with fail
   have nZ:nH b t rest L LA Lc gr gt (gt+1) T w [.int .i64 16,.slice none 0 0,.int .i64 0,.int .i64 0,.string ⟨#[]⟩,.string ⟨#[]⟩,.int .i64 T.pos] (s) ((Qm).setCell ⟨gt+1,0,none⟩ (.int .i64 16)):=(rM).put jw.out 0 (.int .i64 16);clear x0 f0 H1 H2 H3;generalize(Qm).setCell ⟨gt+1,0,none⟩ (.int .i64 16)=Qn at *;go_wp2_with fail
   refine(H4.out _ (nZ).st).mono ?_;rintro r Jn ⟨rfl,hbq⟩;have Ko:=(nZ).old hbq;clear hbq;clear H4;go_wp2_with fail
   refine(EH.out _ (Ko).st).mono ?_;rintro r W47 ⟨rfl,hsk,hgk⟩;have Bc:=(Ko).steps jw.out hsk hgk;clear EH;have Vd:=(Bc).kx.lt;clear hsk hgk;generalize aQ L s=so at *;go_wp2_with fail
   refine(Ba.out _ (Bc).st).mono ?_;rintro r W48 ⟨rfl,hsk,hgk⟩;have Hu:=(Bc).steps jw.out hsk hgk;clear Ba;clear hsk hgk;have hz32:=(Hu).kx.lt;generalize ay L [40] so=sn at *;generalize aB L f 1 sn=rr at *;obtain⟨e5,s5⟩:=rr;simp only at lZ lX HR2 pO hok2 hlt2;obtain⟨WB,YQ⟩:∃z,W48.heap.size=z:=⟨_,rfl⟩
   have hzg:=(Hu).gw.size;go_wp2_with fail
   refine(lZ.out _ (Hu).st).mono ?_;rintro r wU ⟨cs,rfl,hE,hsk,hgk⟩;have Ht:=(Hu).steps jw.out hsk hgk;simp only at hE hsk Ht;rw[YQ]at hE;obtain⟨y0,y1,y2,y3,y4,y5,y6,rfl,hy⟩:=hE.seven;have hsz:=hgk.size;clear hsk hgk lZ;have hzb:gt+1<wU.heap.size:=by omega
   have xN:Below wU.heap.size wU (wU.alloc (.cells #[y0,y1,y2,y3,y4,y5,y6] 118)):=zR.alloc zL _;have y9:=(Ht).old xN;have x1:(wU.alloc (.cells #[y0,y1,y2,y3,y4,y5,y6] 118)).cell? ⟨gt+1,1,none⟩=some (.slice none 0 0):=(y9).kx.cell 1;have f1:=(y9).kx.frozen 1;have hva:nH b t rest L LA Lc gr gt (gt+1) T w [.int .i64 16,.slice (some ⟨wU.heap.size,0,none⟩) 1 1,.int .i64 0,.int .i64 0,.string ⟨#[]⟩,.string ⟨#[]⟩,.int .i64 T.pos] s5 (wU.setCell ⟨gt+1,1,none⟩ (.slice (some ⟨wU.heap.size,0,none⟩) 1 1)):=(Ht).put jw.out 1 _;have hE1:=hE.set (q:=gt+1) (o:=1) (v:=.slice (some ⟨wU.heap.size,0,none⟩) 1 1) (by omega);have hbb:Below (wU.setCell ⟨gt+1,1,none⟩ (.slice (some ⟨wU.heap.size,0,none⟩) 1 1)).heap.size (wU.setCell ⟨gt+1,1,none⟩ (.slice (some ⟨wU.heap.size,0,none⟩) 1 1)) ((wU.setCell ⟨gt+1,1,none⟩ (.slice (some ⟨wU.heap.size,0,none⟩) 1 1)).alloc (.cells #[y0,y1,y2,y3,y4,y5,y6] 118)):=zR.alloc zL _;have hvb:=hva.old hbb;have TP:=hE1.old hbb;have LY:Bk ((wU.setCell ⟨gt+1,1,none⟩ (.slice (some ⟨wU.heap.size,0,none⟩) 1 1)).alloc (.cells #[y0,y1,y2,y3,y4,y5,y6] 118)) (wU.heap.size) 118 #[y0,y1,y2,y3,y4,y5,y6]:=Bk.newAt (by simp) _ _;clear xN y9 hva hE1 hbb hE;go_wp2_with (first|(refine fO rfl _ rfl rfl ?_))
   refine(lX.out _ hvb.st).mono ?_;rintro r zf ⟨rfl,hsk,hgk⟩;have EK:=hvb.steps jw.out hsk hgk;have TQ:=TP.grown hgk (by omega);have TR:=LY.grown hgk (aC (by omega));clear hsk hgk lX hvb TP LY x1 f1;generalize ay L [41] s5=s6 at *;have d2:=EK.st.c2;have fr2:=EK.st.fr 2;obtain⟨on,hon⟩:∃n,s6.opn-1=n:=⟨_,rfl⟩
   have Nw:(s6.opn:Int)-1=(on:Int):=by omega
   have Ny:(s6.opn:Int)<=4001:=by omega
   have hvd:=EK.steps jw.out (EK.st.set2 on) (aY (World.grownBy.refl _ _));have Vj:=zH (TQ.set (q:=b) (o:=2) (v:=.int .i64 (on:Int)) (by omega));have YR:=zH (TR.far (p:=⟨b,2,none⟩) (by show wU.heap.size≠b;omega) (.int .i64 (on:Int)));have Nz:=zH hon;clear TQ TR EK hon pO hok2 ho3;have e0:(zf.setCell ⟨b,2,none⟩ (.int .i64 (on:Int))).cell? ⟨gt+1,0,none⟩=some (.int .i64 16):=(hvd).kx.cell 0;have e1:(zf.setCell ⟨b,2,none⟩ (.int .i64 (on:Int))).cell? ⟨gt+1,1,none⟩=some (.slice (some ⟨wU.heap.size,0,none⟩) 1 1):=(hvd).kx.cell 1;have e2:(zf.setCell ⟨b,2,none⟩ (.int .i64 (on:Int))).cell? ⟨gt+1,2,none⟩=some (.int .i64 0):=(hvd).kx.cell 2;have e3:(zf.setCell ⟨b,2,none⟩ (.int .i64 (on:Int))).cell? ⟨gt+1,3,none⟩=some (.int .i64 0):=(hvd).kx.cell 3;have e4:(zf.setCell ⟨b,2,none⟩ (.int .i64 (on:Int))).cell? ⟨gt+1,4,none⟩=some (.string ⟨#[]⟩):=(hvd).kx.cell 4;have e5:(zf.setCell ⟨b,2,none⟩ (.int .i64 (on:Int))).cell? ⟨gt+1,5,none⟩=some (.string ⟨#[]⟩):=(hvd).kx.cell 5;have e6:(zf.setCell ⟨b,2,none⟩ (.int .i64 (on:Int))).cell? ⟨gt+1,6,none⟩=some (.int .i64 T.pos):=(hvd).kx.cell 6;go_upto_region 35 with fail
   have kr:=(hvd).kr;go_wp2_with (first|(refine ae aV rfl _ _ rfl rfl [.int .i64 16,.slice (some ⟨wU.heap.size,0,none⟩) 1 1,.int .i64 0,.int .i64 0,.string ⟨#[]⟩,.string ⟨#[]⟩,.int .i64 T.pos] rfl kr rfl rfl rfl ?_;intro w9 p9))
   obtain⟨u0,u1,u2,u3,u4,u5,u6⟩:=zc7 p9.bk;obtain⟨hst,hgw⟩:=(hvd).fin jw.out p9;refine bodyPost_ret (v:=.agg #[.int .i64 16,.slice (some ⟨wU.heap.size,0,none⟩) 1 1,.int .i64 0,.int .i64 0,.string ⟨#[]⟩,.string ⟨#[]⟩,.int .i64 T.pos]) (by simp[results,Try.results93,go_sem,u0,u1,u2,u3,u4,u5,u6]) rfl ?_;rw[<-HR2.out];rw[<-Nz.out]at hst;exact⟨[.int .i64 16,.slice (some ⟨wU.heap.size,0,none⟩) 1 1,.int .i64 0,.int .i64 0,.string ⟨#[]⟩,.string ⟨#[]⟩,.int .i64 T.pos],rfl,⟨wU.heap.size,[y0,y1,y2,y3,y4,y5,y6],rfl,by omega,p9.Eu YR.out (by omega),(Vj.out.put p9 (by omega)).keep fun g h1 h2=>⟨by omega,rfl⟩⟩,hst,hgw⟩
 case false=>
 cases qN
 case true=>
  as_aux_lemma=>
  go_wp2_with fail
  refine(H0.out _ HV.out.st).mono ?_;rintro r YP ⟨rfl,hbq⟩;have pR:=HV.out.old hbq;clear hbq H0;have HR2:Hid ((.un 17 (aB L f 1 (ay L [40] (aQ L s))).1 T.pos,pI (ay L [41] (aB L f 1 (ay L [40] (aQ L s))).2))=RES):=zH HRR.out;obtain⟨ho1,ho2,ho3⟩:=BM.out (BN.out rfl);have gn:=bn.need he [40] ho1;have EH:Hid (∀W:World,di b t rest L LA Lc s W->Calls Try.prog 98 #[.pointer (some ⟨b,0,none⟩)] W fun r w'=>r=.returned (.int .i64 ((bf L s).pos:Nat))/\Steps b t rest L LA Lc (aQ L s) W w'):=zH fun W h=>open_any b t rest L LA Lc s W h hil hL (by omega)
  have Ba:Hid (∀W:World,di b t rest L LA Lc (aQ L s) W->Calls Try.prog 37 #[.pointer (some ⟨b,0,none⟩),.string ⟨#[40]⟩] W fun r w'=>r=.returned (.tuple #[])/\Steps b t rest L LA Lc (ay L [40] (aQ L s)) W w'):=zH fun W h=>by
   have:=fM b t rest L LA Lc (aQ L s) W ⟨#[40]⟩ h ho1.lt hL
   rwa [show(⟨#[40]⟩:ByteArray).toList=[40] by rw[ByteArray.toList_eq]]at this
  have hle0:=gn.le;have lZ:Hid (∀W:World,di b t rest L LA Lc (ay L [40] (aQ L s)) W->Calls Try.prog 80 #[.pointer (some ⟨b,0,none⟩),.int .i64 1] W (gX b t rest L LA Lc (aB L f 1 (ay L [40] (aQ L s))) W)):=zH fun W h=>HIH.out 1 _ W (by omega) (by omega) h gn.ok (by omega)
  have hgo:=gn.trans (dV he f 1 _ gn.ok)
  have lX:Hid (∀W:World,di b t rest L LA Lc (aB L f 1 (ay L [40] (aQ L s))).2 W->Calls Try.prog 37 #[.pointer (some ⟨b,0,none⟩),.string ⟨#[41]⟩] W fun r w'=>r=.returned (.tuple #[])/\Steps b t rest L LA Lc (ay L [41] (aB L f 1 (ay L [40] (aQ L s))).2) W w'):=zH fun W h=>by
   have:=fM b t rest L LA Lc _ W ⟨#[41]⟩ h hgo.ok.lt hL
   rwa [show(⟨#[41]⟩:ByteArray).toList=[41] by rw[ByteArray.toList_eq]]at this
  have hg2:=hgo.trans (bn.need he [41] hgo.ok);have pO:=hg2.opn;have hok2:=hg2.ok.opn;have hlt2:=hg2.ok.lt;clear HIH xI HI HRR Ef Va BN BM hgo hg2 gn hle0;go_wp2_with fail
  refine(H1.out _ (pR).st).mono ?_;rintro r TN ⟨rfl,hbq⟩;have o6:=(pR).old hbq;clear hbq;go_wp2_with fail
  refine(H2.out _ (o6).st).mono ?_;rintro r Vk ⟨rfl,hbq⟩;have o7:=(o6).old hbq;clear hbq;go_wp2_with fail
  refine(H3.out _ (o7).st).mono ?_;rintro r Qm ⟨rfl,hbq⟩;have rM:=(o7).old hbq;clear hbq;go_wp2_with fail
  refine(H4.out _ (rM).st).mono ?_;rintro r QU ⟨rfl,hbq⟩;have nZ:=(rM).old hbq;clear hbq;have x0:(QU).cell? ⟨gt+1,0,none⟩=some (.int .i64 0):=(nZ).kx.cell 0;have f0:=(nZ).kx.frozen 0;go_upto_region 28 with fail
  have xM:nH b t rest L LA Lc gr gt (gt+1) T w [.int .i64 16,.slice none 0 0,.int .i64 0,.int .i64 0,.string ⟨#[]⟩,.string ⟨#[]⟩,.int .i64 T.pos] (s) ((QU).setCell ⟨gt+1,0,none⟩ (.int .i64 16)):=(nZ).put jw.out 0 (.int .i64 16);clear x0 f0 H1 H2 H3;generalize(QU).setCell ⟨gt+1,0,none⟩ (.int .i64 16)=Jn at *;go_wp2_with fail
  refine(H4.out _ (xM).st).mono ?_;rintro r W47 ⟨rfl,hbq⟩;have Bc:=(xM).old hbq;clear hbq;clear H4;have x0:(W47).cell? ⟨gt+1,0,none⟩=some (.int .i64 16):=(Bc).kx.cell 0;have f0:=(Bc).kx.frozen 0;go_upto_region 30 with fail
  have Hu:nH b t rest L LA Lc gr gt (gt+1) T w [.int .i64 17,.slice none 0 0,.int .i64 0,.int .i64 0,.string ⟨#[]⟩,.string ⟨#[]⟩,.int .i64 T.pos] (s) ((W47).setCell ⟨gt+1,0,none⟩ (.int .i64 17)):=(Bc).put jw.out 0 (.int .i64 17);clear x0 f0;generalize(W47).setCell ⟨gt+1,0,none⟩ (.int .i64 17)=wU at *;go_wp2_with fail
  refine(EH.out _ (Hu).st).mono ?_;rintro r ND ⟨rfl,hsk,hgk⟩;have EI:=(Hu).steps jw.out hsk hgk;clear EH;have Vd:=(EI).kx.lt;clear hsk hgk;generalize aQ L s=so at *;go_wp2_with fail
  refine(Ba.out _ (EI).st).mono ?_;rintro r wV ⟨rfl,hsk,hgk⟩;have EJ:=(EI).steps jw.out hsk hgk;clear Ba;clear hsk hgk;have hz32:=(EJ).kx.lt;generalize ay L [40] so=sn at *;generalize aB L f 1 sn=rr at *;obtain⟨e5,s5⟩:=rr;simp only at lZ lX HR2 pO hok2 hlt2;obtain⟨WB,YQ⟩:∃z,wV.heap.size=z:=⟨_,rfl⟩
  have hzg:=(EJ).gw.size;go_wp2_with fail
  refine(lZ.out _ (EJ).st).mono ?_;rintro r yt ⟨cs,rfl,hE,hsk,hgk⟩;have Vl:=(EJ).steps jw.out hsk hgk;simp only at hE hsk Vl;rw[YQ]at hE;obtain⟨y0,y1,y2,y3,y4,y5,y6,rfl,hy⟩:=hE.seven;have hsz:=hgk.size;clear hsk hgk lZ;have hzb:gt+1<yt.heap.size:=by omega
  have xN:Below yt.heap.size yt (yt.alloc (.cells #[y0,y1,y2,y3,y4,y5,y6] 118)):=zR.alloc zL _;have y9:=(Vl).old xN;have x1:(yt.alloc (.cells #[y0,y1,y2,y3,y4,y5,y6] 118)).cell? ⟨gt+1,1,none⟩=some (.slice none 0 0):=(y9).kx.cell 1;have f1:=(y9).kx.frozen 1;have hva:nH b t rest L LA Lc gr gt (gt+1) T w [.int .i64 17,.slice (some ⟨yt.heap.size,0,none⟩) 1 1,.int .i64 0,.int .i64 0,.string ⟨#[]⟩,.string ⟨#[]⟩,.int .i64 T.pos] s5 (yt.setCell ⟨gt+1,1,none⟩ (.slice (some ⟨yt.heap.size,0,none⟩) 1 1)):=(Vl).put jw.out 1 _;have hE1:=hE.set (q:=gt+1) (o:=1) (v:=.slice (some ⟨yt.heap.size,0,none⟩) 1 1) (by omega);have hbb:Below (yt.setCell ⟨gt+1,1,none⟩ (.slice (some ⟨yt.heap.size,0,none⟩) 1 1)).heap.size (yt.setCell ⟨gt+1,1,none⟩ (.slice (some ⟨yt.heap.size,0,none⟩) 1 1)) ((yt.setCell ⟨gt+1,1,none⟩ (.slice (some ⟨yt.heap.size,0,none⟩) 1 1)).alloc (.cells #[y0,y1,y2,y3,y4,y5,y6] 118)):=zR.alloc zL _;have hvb:=hva.old hbb;have TP:=hE1.old hbb;have LY:Bk ((yt.setCell ⟨gt+1,1,none⟩ (.slice (some ⟨yt.heap.size,0,none⟩) 1 1)).alloc (.cells #[y0,y1,y2,y3,y4,y5,y6] 118)) (yt.heap.size) 118 #[y0,y1,y2,y3,y4,y5,y6]:=Bk.newAt (by simp) _ _;clear xN y9 hva hE1 hbb hE;go_wp2_with (first|(refine fO rfl _ rfl rfl ?_))
  refine(lX.out _ hvb.st).mono ?_;rintro r zf ⟨rfl,hsk,hgk⟩;have EK:=hvb.steps jw.out hsk hgk;have TQ:=TP.grown hgk (by omega);have TR:=LY.grown hgk (aC (by omega));clear hsk hgk lX hvb TP LY x1 f1;generalize ay L [41] s5=s6 at *;have d2:=EK.st.c2;have fr2:=EK.st.fr 2;obtain⟨on,hon⟩:∃n,s6.opn-1=n:=⟨_,rfl⟩
  have Nw:(s6.opn:Int)-1=(on:Int):=by omega
  have Ny:(s6.opn:Int)<=4001:=by omega
  have hvd:=EK.steps jw.out (EK.st.set2 on) (aY (World.grownBy.refl _ _));have Vj:=zH (TQ.set (q:=b) (o:=2) (v:=.int .i64 (on:Int)) (by omega));have YR:=zH (TR.far (p:=⟨b,2,none⟩) (by show yt.heap.size≠b;omega) (.int .i64 (on:Int)));have Nz:=zH hon;clear TQ TR EK hon pO hok2 ho3;have e0:(zf.setCell ⟨b,2,none⟩ (.int .i64 (on:Int))).cell? ⟨gt+1,0,none⟩=some (.int .i64 17):=(hvd).kx.cell 0;have e1:(zf.setCell ⟨b,2,none⟩ (.int .i64 (on:Int))).cell? ⟨gt+1,1,none⟩=some (.slice (some ⟨yt.heap.size,0,none⟩) 1 1):=(hvd).kx.cell 1;have e2:(zf.setCell ⟨b,2,none⟩ (.int .i64 (on:Int))).cell? ⟨gt+1,2,none⟩=some (.int .i64 0):=(hvd).kx.cell 2;have e3:(zf.setCell ⟨b,2,none⟩ (.int .i64 (on:Int))).cell? ⟨gt+1,3,none⟩=some (.int .i64 0):=(hvd).kx.cell 3;have e4:(zf.setCell ⟨b,2,none⟩ (.int .i64 (on:Int))).cell? ⟨gt+1,4,none⟩=some (.string ⟨#[]⟩):=(hvd).kx.cell 4;have e5:(zf.setCell ⟨b,2,none⟩ (.int .i64 (on:Int))).cell? ⟨gt+1,5,none⟩=some (.string ⟨#[]⟩):=(hvd).kx.cell 5;have e6:(zf.setCell ⟨b,2,none⟩ (.int .i64 (on:Int))).cell? ⟨gt+1,6,none⟩=some (.int .i64 T.pos):=(hvd).kx.cell 6;go_upto_region 35 with fail
  have kr:=(hvd).kr;go_wp2_with (first|(refine ae aV rfl _ _ rfl rfl [.int .i64 17,.slice (some ⟨yt.heap.size,0,none⟩) 1 1,.int .i64 0,.int .i64 0,.string ⟨#[]⟩,.string ⟨#[]⟩,.int .i64 T.pos] rfl kr rfl rfl rfl ?_;intro w9 p9))
  obtain⟨u0,u1,u2,u3,u4,u5,u6⟩:=zc7 p9.bk;obtain⟨hst,hgw⟩:=(hvd).fin jw.out p9;refine bodyPost_ret (v:=.agg #[.int .i64 17,.slice (some ⟨yt.heap.size,0,none⟩) 1 1,.int .i64 0,.int .i64 0,.string ⟨#[]⟩,.string ⟨#[]⟩,.int .i64 T.pos]) (by simp[results,Try.results93,go_sem,u0,u1,u2,u3,u4,u5,u6]) rfl ?_;rw[<-HR2.out];rw[<-Nz.out]at hst;exact⟨[.int .i64 17,.slice (some ⟨yt.heap.size,0,none⟩) 1 1,.int .i64 0,.int .i64 0,.string ⟨#[]⟩,.string ⟨#[]⟩,.int .i64 T.pos],rfl,⟨yt.heap.size,[y0,y1,y2,y3,y4,y5,y6],rfl,by omega,p9.Eu YR.out (by omega),(Vj.out.put p9 (by omega)).keep fun g h1 h2=>⟨by omega,rfl⟩⟩,hst,hgw⟩
 case false=>
  as_aux_lemma=>
  go_wp2_with fail
  refine(H0.out _ HV.out.st).mono ?_;rintro r YP ⟨rfl,hbq⟩;have pR:=HV.out.old hbq;clear hbq H0;have HR2:Hid (dP L T.pos s=RES):=zH HRR.out;clear HRR HIH xI BM Ef Va BN;go_wp2_with fail
  refine(H1.out _ (pR).st).mono ?_;rintro r TN ⟨rfl,hbq⟩;have o6:=(pR).old hbq;clear hbq;go_wp2_with fail
  refine(H2.out _ (o6).st).mono ?_;rintro r Vk ⟨rfl,hbq⟩;have o7:=(o6).old hbq;clear hbq;go_wp2_with fail
  refine(H3.out _ (o7).st).mono ?_;rintro r Qm ⟨rfl,hbq⟩;have rM:=(o7).old hbq;clear hbq;go_wp2_with fail
  refine(H4.out _ (rM).st).mono ?_;rintro r QU ⟨rfl,hbq⟩;have nZ:=(rM).old hbq;clear hbq;clear H1 H2 H3 H4;have hok:=HI.out;go_wp2_with fail
  refine(AY b t rest L LA Lc s _ (gt+1) T.pos (nZ).st he hok hL (nZ).kx (by omega)).mono ?_;rintro r ND ⟨rfl,-,op,n,a,hra,hkx,hst5,hfr,hsz5,hot⟩;have hgw5:=hfr w (nZ).gw (by omega);have hzx:=(nZ).kx.lt;have kr:Bk ND gr 118 (iC 0 0 0 [] [] 0).toArray:=(hot gr (by omega) (by omega) (by omega)).trans (nZ).kr;generalize dP L T.pos s=ra at *;obtain⟨e5,s5⟩:=ra;simp only at hra hst5;subst hra;clear hfr hot hsz5 hok HI;have e0:ND.cell? ⟨gt+1,0,none⟩=some (.int .i64 op):=hkx.cell 0;have e1:ND.cell? ⟨gt+1,1,none⟩=some (.slice none 0 0):=hkx.cell 1;have e2:ND.cell? ⟨gt+1,2,none⟩=some (.int .i64 0):=hkx.cell 2;have e3:ND.cell? ⟨gt+1,3,none⟩=some (.int .i64 0):=hkx.cell 3;have e4:ND.cell? ⟨gt+1,4,none⟩=some (.string (bytes n)):=hkx.cell 4;have e5:ND.cell? ⟨gt+1,5,none⟩=some (.string (bytes a)):=hkx.cell 5;have e6:ND.cell? ⟨gt+1,6,none⟩=some (.int .i64 T.pos):=hkx.cell 6;go_upto_region 35 with fail
  go_wp2_with (first|(refine ae aV rfl _ _ rfl rfl [.int .i64 op,.slice none 0 0,.int .i64 0,.int .i64 0,.string (bytes n),.string (bytes a),.int .i64 T.pos] rfl kr rfl rfl rfl ?_;intro w9 p9))
  obtain⟨u0,u1,u2,u3,u4,u5,u6⟩:=zc7 p9.bk;refine bodyPost_ret (v:=.agg #[.int .i64 op,.slice none 0 0,.int .i64 0,.int .i64 0,.string (bytes n),.string (bytes a),.int .i64 T.pos]) (by simp[results,Try.results93,go_sem,u0,u1,u2,u3,u4,u5,u6]) rfl ?_;rw[<-HR2.out];exact⟨[.int .i64 op,.slice none 0 0,.int .i64 0,.int .i64 0,.string (bytes n),.string (bytes a),.int .i64 T.pos],rfl,rfl,⟨p9.Eu hst5.bk (by omega),hst5.rd.below (p9.below _ _ zR (by omega))⟩,eu hgw5 p9 (by omega)⟩
end
end Go.Proofs.Ytbjnhllkdilpfaa
