/- Part 1 of the proof. No conditions. -/
import Derived.Test.YtbjnhllkdilpfaaZc28
namespace Go.Proofs.Ytbjnhllkdilpfaa
open Go.RowKit
set_option maxRecDepth 100000
set_option maxHeartbeats 16000000
set_option linter.unusedVariables false
set_option linter.unusedSimpArgs false
theorem ints_at {w:World} {A:Option Addr} {xs:List Int} {B:Nat} (h:Rd w B A (aU xs)) {k:Nat} (hk:k<xs.length):∃g o,A=some ⟨g,o,none⟩/\g<B/\w.cell? ⟨g,o+k,none⟩=some (.int .i64 xs[k]):=by
 have h':Rd w B A (xs.flatMap fun x=>[Value.int .i64 x]):=by
  have:aU xs=xs.flatMap fun x=>[Value.int .i64 x]:=by
   unfold aU;exact List.map_eq_flatMap
  rw[<-this];exact h
 obtain⟨g,o,hA,hg,hc⟩:=h'.elem (n:=1) (fun _=>rfl) (by omega) hk;exact⟨g,o,hA,hg,by have:=hc 0 _ rfl;simpa using this⟩
theorem D9 (w:World) (g i:Nat) (v:Value):w.grownBy (w.setCell ⟨g,i,none⟩ v) (some g):=
 ⟨rfl,rfl,rfl,by simp,fun q _ hq=>Below.heap_setCell w _ _ q (by show q≠g;intro e;exact hq (by rw[e]))⟩
def TL (xs ys:List Int) (a:Nat):Prop:=ys.length=xs.length/\∀k,k<xs.length->ys[k]? =if k<a\/xs.length-1-a<k then xs[xs.length-1-k]? else xs[k]?
theorem TL.zero (xs:List Int):TL xs xs 0:=⟨rfl,fun k hk=>by rw[if_neg (by omega)]⟩
theorem TL.step {xs ys:List Int} {a b:Nat} {x y:Int} (h:TL xs ys a) (hab:a<b) (hb:b=xs.length-1-a) (hx:ys[a]? =some x) (hy:ys[b]? =some y):TL xs ((ys.set a y).set b x) (a+1):=by
 obtain⟨h1,h2⟩:=h;have hbl:b<xs.length:=by omega
 refine⟨by simp[h1],fun k hk=>?_⟩;have ha:=h2 a (by omega);have hbb:=h2 b hbl;rw[if_neg (by omega)]at ha hbb;rw[hx]at ha;rw[hy]at hbb;rw[List.getElem?_set,List.getElem?_set]
 by_cases hkb:b=k
 ·subst hkb;rw[if_pos rfl,if_pos (by simp[h1];omega),if_pos (by omega),ha]
  congr 1
  omega
 ·rw[if_neg hkb]
  by_cases hka:a=k
  ·subst hka;rw[if_pos rfl,if_pos (by rw[h1];omega),if_pos (by omega),hbb]
   congr 1
  ·rw[if_neg hka,h2 k hk]
   by_cases hc:k<a\/xs.length-1-a<k
   ·rw[if_pos hc,if_pos (by omega)]
   ·rw[if_neg hc,if_neg (by omega)]
theorem TL.done {xs ys:List Int} {a:Nat} (h:TL xs ys a) (ha:xs.length-1-a<=a):ys=xs.reverse:=by
 obtain⟨h1,h2⟩:=h
 apply List.ext_getElem?
 intro k
 by_cases hk:k<xs.length
 ·rw[h2 k hk,List.getElem?_reverse hk]
  split
  ·rfl
  ·congr 1
   omega
 ·rw[List.getElem?_eq_none (by omega),List.getElem?_eq_none (by simp;omega)]
theorem BK (xs:List Int) (i:Nat) (x:Int):(aU xs).set i (.int .i64 x)=aU (xs.set i x):=by
 unfold aU;rw[List.map_set]
theorem yg {w:World} {base n c g:Nat} {xs:List Int} (h:w.ownsRow base 3 1 (.slice (some ⟨g,0,none⟩) n c) n (aU xs)) {k:Nat} (hk:k<xs.length):w.cell? ⟨g,k,none⟩=some (.int .i64 xs[k]):=by
 obtain⟨g',o',hA,_,hc⟩:=ints_at (dG h) hk;injection hA with hA
 injection hA with e1 e2
 subst e1;subst e2
 simpa using hc
theorem IQ (base g n c:Nat) (xs:List Int) (w:World) (hn:xs.length=n) (hn0:0<n) (hn4:n<=1099511627776) (h:w.ownsRow base 3 1 (.slice (some ⟨g,0,none⟩) n c) n (aU xs)):Calls Try.prog 21 #[.slice (some ⟨g,0,none⟩) n c] w fun r w'=>r=.returned (.tuple #[])/\w'.ownsRow base 3 1 (.slice (some ⟨g,0,none⟩) n c) n (aU xs.reverse)/\w.grownBy w' (some g):=by
 have H0:Hid (TL xs xs 0):=zH (TL.zero xs);have qL:Hid (w.ownsRow base 3 1 (.slice (some ⟨g,0,none⟩) n c) n (aU xs)/\w.grownBy w (some g)):=zH ⟨h,below_grown zR _⟩;have HN:=zH hn;clear h hn
 go_enter Try.func21,Try.ntmps21
 have hsub:((n:Int)-1)=((n-1-0:Nat):Int):=by omega
 go_wp2_with fail
 clear hsub
 go_loopw[2,3] (fun iv jv wr=>∃(a:Nat) (ys:List Int),2*a<=n/\iv=.int .i64 a/\jv=.int .i64 ((n-1-a:Nat):Int)/\Hid (TL xs ys a)/\Hid (wr.ownsRow base 3 1 (.slice (some ⟨g,0,none⟩) n c) n (aU ys)/\w.grownBy wr (some g))) (fun iv _ _=>n-(intOf iv).toNat)
 case atStart=>exact⟨0,xs,by omega,rfl,by go_num,H0,qL⟩
 case round=>
  clear H0 qL;obtain⟨a,ys,ha,rfl,rfl,HR,HV⟩:=hrel;obtain⟨wo,rfl⟩:∃wo:World,wo=wr:=⟨_,rfl⟩
  obtain⟨b,hb⟩:∃z,n-1-a=z:=⟨_,rfl⟩
  rw[hb]
  by_cases hlt:a<b
  ·
   have hyl:ys.length=n:=HR.out.1.trans HN.out;have hal:a<ys.length:=by omega
   have hbl:b<ys.length:=by omega
   have ca:=yg HV.out.1 hal;have cb:=yg HV.out.1 hbl;obtain⟨x,hx⟩:∃z,ys[a]=z:=⟨_,rfl⟩
   obtain⟨y,hy⟩:∃z,ys[b]=z:=⟨_,rfl⟩
   rw[hx]at ca;rw[hy]at cb;have HX:Hid (ys[a]? =some x/\ys[b]? =some y):=zH ⟨by rw[List.getElem?_eq_getElem hal,hx],by rw[List.getElem?_eq_getElem hbl,hy]⟩;have eY:=zH HV.out.1;have hgl:=World.block_lt_of_cell? _ _ ca;have hbn:b<n:=by omega
   have MP:a<n:=by omega
   clear hx hy;go_upto_region 3 with fail
   refine Go.Proofs.Ytbjnhllkdilpfaa.wr 13 (some g) [.is (.slice (some ⟨g, 0, none⟩) n c),
     .is (.int .i64 (a:Nat)),
     .is (.slice (some ⟨g,0,none⟩) n c),
     .is (.int .i64 (b:Nat)),
     .is (.slice (some ⟨g,0,none⟩) n c),
     .is (.int .i64 (b:Nat)),
     .is (.pointer (some ⟨g,b,none⟩)),
     .is (.int .i64 y),
     .is (.slice (some ⟨g,0,none⟩) n c),
     .is (.int .i64 (a:Nat)),
     .is (.pointer (some ⟨g,a,none⟩)),
     .is (.int .i64 x),
     .is (.pointer (some ⟨g,a,none⟩)),
     .st (fun v w=>w.ownsRow base 3 1 (.slice (some ⟨g,0,none⟩) n c) n ((aU ys).set a (.int .i64 y))) (fun _ _ _ hb h=>aQ h hb)] [6,7,10,11,12,13] (by kernel_rfl) (by kernel_rfl) (by kernel_rfl)
     (fun C=>.c (ah.x (rG _) C rfl (fun _ _=>rfl)) <|
     .c (ah.x (rG _) C rfl (fun _ _=>rfl)) <|
     .c (ah.x (rG _) C rfl (fun _ _=>rfl)) <|
     .c (ah.x (rG _) C rfl (fun _ _=>rfl)) <|
     .c (ah.x (rG _) C rfl (fun _ _=>rfl)) <|
     .c (ah.x (rG _) C rfl (fun _ _=>rfl)) <|
     .c (ah.z (rG _) [4,5] [] (by kernel_rfl) fun qK qa wr hB qO qF hK=>?_) <|
     .c (ah.z (rG _) [6] [] (by kernel_rfl) fun qK qa wr hB qO qF hK=>?_) <|
     .c (ah.x (rG _) C rfl (fun _ _=>rfl)) <|
     .c (ah.x (rG _) C rfl (fun _ _=>rfl)) <|
     .c (ah.z (rG _) [8,9] [] (by kernel_rfl) fun qK qa wr hB qO qF hK=>?_) <|
     .c (ah.z (rG _) [10] [] (by kernel_rfl) fun qK qa wr hB qO qF hK=>?_) <|
     .c (ah.z (rG _) [0,1] [] (by kernel_rfl) fun qK qa wr hB qO qF hK=>?_) <|
     .c (ah.g [7,12] [] (by kernel_rfl) fun qK qa wr hB qO qF hK=>?_) <| .nil) ?_
   ·have e18:=ay qF.1 rfl rfl;have e19:=ay qF.2.1 rfl rfl;clear qO qF;go_simp;exact hK _ _ zR rfl
   ·have e20:=ay qF.1 rfl rfl;clear qO qF;have hcb:=(aT hB g _ hgl).trans cb;go_simp;exact hK _ _ zR rfl
   ·have e22:=ay qF.1 rfl rfl;have e23:=ay qF.2.1 rfl rfl;clear qO qF;go_simp;exact hK _ _ zR rfl
   ·have e24:=ay qF.1 rfl rfl;clear qO qF;have hca:=(aT hB g _ hgl).trans ca;go_simp;exact hK _ _ zR rfl
   ·have e14:=ay qF.1 rfl rfl;have e15:=ay qF.2.1 rfl rfl;clear qO qF;go_simp;exact hK _ _ zR rfl
   ·have e21:=ay qF.1 rfl rfl;have e26:=ay qF.2.1 rfl rfl;clear qO qF;have hrow:=aQ eY.out hB;have hfz:=lV hrow (g:=g) rfl a;have hce:=(aT hB g _ hgl).trans ca;have hrow2:=rU hrow (g:=g) rfl a (by unfold aU;rw[List.length_map];omega) (.int .i64 y);go_simp;exact hK undef _ (World.grownBy.trans (below_grown hB _) (D9 wr g a _)) (by simp) hrow2
   intro qx wr hG hR;have r13:(fun v w=>w.ownsRow base 3 1 (.slice (some ⟨g,0,none⟩) n c) n ((aU ys).set a (.int .i64 y))) (qx 13) wr:=hR 13 rfl rfl;clear hR;simp only[bJ,List.take_succ_cons,List.take_zero,List.drop_succ_cons,List.drop_zero,List.toList_toArray,List.length_cons,List.length_nil,Act.put,List.setIfInBounds_toArray,List.set_cons_zero,List.set_cons_succ];generalize qx 13=un13 at r13⊢;rw[BK]at r13;have f2:=lV r13 (g:=g) rfl b;have c2:=yg r13 (k:=b) (by rw[List.length_set];exact hbl);have Y4:=rU r13 (g:=g) rfl b (by unfold aU;rw[List.length_map,List.length_set];exact hbl) (.int .i64 x);rw[BK]at Y4;have Vg:Hid (TL xs ((ys.set a y).set b x) (a+1)):=zH (HR.out.step hlt (by rw[HN.out];omega) HX.out.1 HX.out.2);have iy:Hid ((wr.setCell ⟨g,b,none⟩ (.int .i64 x)).ownsRow base 3 1 (.slice (some ⟨g,0,none⟩) n c) n (aU ((ys.set a y).set b x))/\w.grownBy (wr.setCell ⟨g,b,none⟩ (.int .i64 x)) (some g)):=zH ⟨Y4,(HV.out.2.trans hG).trans (D9 _ _ _ _)⟩;have hsub:((b:Int)-1)=((n-1-(a+1):Nat):Int):=by omega
   clear r13 Y4 HV HR HX eY ca cb hG;go_wp2
   go_roundw
   case rel=>exact⟨a+1,(ys.set a y).set b x,by omega,by go_num,by rw[<-hsub],Vg,iy⟩
   case measure=>simp[intOf];omega
  ·as_aux_lemma=>
   have hd:=HR.out.done (by rw[HN.out];omega);subst hd;clear HR;go_wp2
   first|go_end0|refine bodyPost_ret (v:=.tuple #[]) (by simp[results,Try.results21,go_sem]) rfl ?_|refine bodyPost_end (v:=.tuple #[]) (by simp[results,Try.results21,go_sem]) rfl ?_
   exact⟨rfl,HV.out.1,HV.out.2⟩
theorem yh:∀(ps:List (Int×List Value)),(∀p∈ps,p.2=[.int .i64 p.1])->ps.flatMap Prod.snd=aU (ps.map Prod.fst)
 |[],_=>rfl
 |p::ps,h=>by
  rw[List.flatMap_cons,yh ps (fun q hq=>h q (by simp[hq])),h p (by simp)];rfl
theorem Bd.ownI {S:Nat->Prop} {base:Nat} {xs:List Int} {v:Value} {w:World} (h:Bd S base 3 1 jV xs v w):w.ownsRow base 3 1 v xs.length (aU xs):=by
 obtain⟨ps,rfl,h2,h3⟩:=h;rw[<-yh ps (fun p hp=>h3 p hp)];exact h2
theorem Bd.ofI {S:Nat->Prop} {base:Nat} {xs:List Int} {v:Value} {w:World} (h:w.ownsRow base 3 1 v xs.length (aU xs)):Bd S base 3 1 jV xs v w:=by
 refine⟨xs.map (fun k=>(k,[.int .i64 k])),by rw[List.map_map];exact List.map_id _,?_,fun p hp=>?_⟩
 ·rw[yh _ (fun p hp=>by obtain⟨k,_,rfl⟩:=List.mem_map.1 hp;rfl),List.map_map];rw[show xs.map (Prod.fst ∘ fun k=>(k,[Value.int .i64 k]))=xs from List.map_id _];exact h
 ·obtain⟨k,_,rfl⟩:=List.mem_map.1 hp;rfl
section
set_option maxRecDepth 100000
set_option maxHeartbeats 8000000
theorem zBe {d : Nat} {S : Nat → Prop} {aC : Int} {ks : List Int} {bs : List lh} (hp : ∀ (i : Nat) (h : i < bs.length), GoodS i bs[i]) (hn : bs.length ≤ 32) {i : Nat} (hi : i < bs.length) {cs : List Value} {w : World} (h : qg d S aC ks bs cs w) :
  Calls Try.prog 10 #[.agg cs.toArray,.int .i64 i] w (Ro (fun _=>False) 3 1 jV (ints (iF bs i)) w):=by
 obtain⟨kv,bv,rfl,hk,Ab,cb,rfl,hbl,hb⟩:=h;obtain⟨Ak,ck,rfl⟩:=hk.form;have HL:=zH (And.intro (qE hp (i+1) i (by omega) hi).1 (And.intro (Ae hp hi) hp))
 go_enter Try.func10,Try.ntmps10
 have k1:=Bk.new w 34 #[.int .i64 aC,.slice Ak ks.length ck,.slice Ab bs.length cb];have hb0:=ba w (.cells #[.int .i64 aC,.slice Ak ks.length ck,.slice Ab bs.length cb] 34);have hlt0:w.heap.size<(w.alloc (.cells #[.int .i64 aC,.slice Ak ks.length ck,.slice Ab bs.length cb] 34)).heap.size:=by simp
 go_wp2
 generalize w.alloc (.cells #[.int .i64 aC,.slice Ak ks.length ck,.slice Ab bs.length cb] 34)=w0 at *;have HB:=zH (And.intro hb0 (And.intro (hb.old hb0) (k1.cell 2)));have hz0:=hb0.size;clear hb0 hb hk k1 hp
 go_loopw[1,5] (fun p v wr=>∃(k:Int) (xs:List Int) (A:Option Addr) (c:Nat),p=.int .i64 k/\v=.slice A xs.length c/\k<(bs.length:Int)/\xs.length<=32/\ -1<=k/\Hid (Bd (fun _=>False) w0.heap.size 3 1 jV xs (.slice A xs.length c) wr/\ints (iF bs i)=(if 0<=k then ints (iF bs k.toNat)else[])++xs.reverse/\Below w0.heap.size w0 wr)) (fun p _ _=>(intOf p+1).toNat)
 case atStart=>exact⟨i,[],none,0,rfl,rfl,by omega,by simp,by omega,zH ⟨Bd.nil zL,by rw[if_pos (by omega)];simp,Below.refl _ _⟩⟩
 case round=>
  obtain⟨wo,rfl⟩:∃z:World,z=wr:=⟨_,rfl⟩
  obtain⟨k,xs,A,c,rfl,rfl,hk1,hk2,hk3,hI⟩:=hrel;have hzo:=hI.out.2.2.size
  by_cases h0:0<=k
  ·obtain⟨kn,rfl⟩:∃kn:Nat,k=kn:=⟨k.toNat,by omega⟩
   have hkn:kn<bs.length:=by omega
   have x2:wo.cell? ⟨w.heap.size,2,none⟩=some (.slice Ab bs.length cb):=bc hI.out.2.2 HB.out.2.2
   have hex:xs.length+1<=32:=by
    have h1:=congrArg List.length hI.out.2.1;have h2:=Ae HL.out.2.2 hkn;rw[if_pos h0]at h1;have h3:=HL.out.1;simp[ints]at h1;omega
   go_upto_region 3 with fail
   go_upto_region 4 with(at_builtin;refine kL PY rfl _ _ rfl rfl (hI.out.1.old (ba _ _)) rfl (int1 (Bk.newAt (by simp) _ _)) (fun b h=>h.elim) (by simp;omega) (by simp;omega) ?_;intro A9 c9 w9 h9 uC jG)
   have hbW:Below w0.heap.size w0 w9:=uC _ _ zL (by simp;omega) (hI.out.2.2.alloc (by omega) _);have HW:=zH (And.intro h9 hbW);have y2:w9.cell? ⟨w.heap.size,2,none⟩=some (.slice Ab bs.length cb):=bc hbW HB.out.2.2;obtain⟨b,o,c2,rfl,_,hbb,⟨v4,v5,v6,v7,rfl,_⟩,hc⟩:=(HB.out.2.1.old hbW).elem hkn;have hp0:=hc 0 _ rfl;rw[Nat.add_zero]at hp0;obtain⟨p,hpp⟩:∃z,bs[kn].parent=z:=⟨_,rfl⟩
   have hg:=(HL.out.2.2 kn hkn).1;have he:=vG HL.out.2.2 hkn;rw[hpp]at hp0 hg he;have HE:=zH he;clear hc hpp h9 uC jG hbW x2 he;go_wp2_with fail
   go_roundw
   case rel=>exact⟨p,xs++[(kn:Int)],A9,c9,rfl,by simp,by omega,by simp;omega,by omega,zH ⟨by simpa using HW.out.1,by rw[hI.out.2.1,if_pos h0,Int.toNat_natCast,HE.out];split<;>simp[ints],HW.out.2⟩⟩
   case measure=>simp[intOf];omega
  ·have hx:ints (iF bs i)=xs.reverse:=by rw[hI.out.2.1,if_neg h0];rfl
   have hl:(ints (iF bs i)).length=xs.length:=by rw[hx,List.length_reverse]
   have hpos:0<xs.length:=by rw[<-hl];simp[ints];exact HL.out.2.1
   obtain⟨g,hA,hgb,hgl⟩:∃g,A=some ⟨g,0,none⟩/\w0.heap.size<=g/\g<wo.heap.size:=by
    obtain⟨g,cs,hA,h1,h2,_⟩:=hI.out.1.elem (k:=0) hpos;exact⟨g,hA,h1,h2⟩
   subst hA;have HX:=zH (And.intro hx hl);clear hx hl;go_wp2_with fail
   refine(IQ w0.heap.size g xs.length c xs wo rfl hpos (by omega) hI.out.1.ownI).mono ?_;rintro r w2 ⟨rfl,h1,h2⟩;have HH:=zH (And.intro h1 h2);clear h1 h2;go_wp2
   go_ret
   have h2:=HH.out.2;have hb2:Below w0.heap.size w0 w2:=⟨h2.os.trans hI.out.2.2.os,h2.tape.trans hI.out.2.2.tape,h2.output.trans hI.out.2.2.output,Nat.le_trans hzo h2.size,fun k hk=>(h2.block k (Nat.lt_of_lt_of_le hk hzo) (fun e=>by injection e with e;omega)).trans (hI.out.2.2.block k hk)⟩
   refine⟨some ⟨g,0,none⟩,c,by rw[HX.out.2];rfl,?_,HB.out.1.trans (hb2.mono hz0)⟩;have h3:=HH.out.1;rw[HX.out.2];rw[show aU xs.reverse=aU (ints (iF bs i)) by rw[HX.out.1]]at h3;have h4:w2.ownsRow w0.heap.size 3 1 (.slice (some ⟨g,0,none⟩) xs.length c) (ints (iF bs i)).length (aU (ints (iF bs i))):=by rw[HX.out.2];exact h3
   exact(Bd.ofI (S:=fun _=>False) h4).NH hz0
end
end Go.Proofs.Ytbjnhllkdilpfaa
