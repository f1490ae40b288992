/- Part 23 of the proof. No conditions. -/
import Derived.Test.YtbjnhllkdilpfaaZc22
namespace Go.Proofs.Ytbjnhllkdilpfaa
open Go.RowKit
set_option maxRecDepth 100000
set_option maxHeartbeats 16000000
set_option linter.unusedVariables false
set_option linter.unusedSimpArgs false
theorem fE.two {S:Nat->Prop} {w0 w1 w2:World} {g:Nat} (h1:w0.grownBy w1 (some g)) (h2:w0.grownBy w2 (some g)) (hS:∀b,S b->b<w0.heap.size/\b≠g):fE S S w1 w2:=fun b hb _=>
 have hne:some b≠some g:=fun e=>(hS b hb).2 (by injection e)
 ⟨hb,Nat.lt_of_lt_of_le (hS b hb).1 h2.size,(h2.block b (hS b hb).1 hne).trans (h1.block b (hS b hb).1 hne).symm⟩
theorem Bd.wide {α:Type} {n:Nat} {P:(Nat->Prop)->α->List Value->World->Prop} [CK n P] {S S2:Nat->Prop} {base Xc t:Nat} {xs:List α} {v:Value} {w:World} (h:Bd S base t n P xs v w) (hS:∀b,S b->S2 b) (hb:Xc<=base):Bd S2 Xc t n P xs v w:=by
 obtain⟨ps,h1,h2,h3⟩:=h;exact⟨ps,h1,di h2 hb,fun p hp=>CK.keep (fun b hb hlt=>⟨⟨hS b hb.1,hb.2⟩,hlt,rfl⟩) (h3 p hp)⟩
theorem Bd.r {α:Type} {n:Nat} {P:(Nat->Prop)->α->List Value->World->Prop} [CK n P] {S:Nat->Prop} {base t:Nat} {xs:List α} {v:Value} {w:World} (h:Bd S base t n P xs v w):Uo P S xs v w:=by
 obtain⟨ps,h1,h2,h3⟩:=h;obtain⟨A,c,rfl,_⟩:=bg h2;exact⟨A,c,rfl,ps,h1,dG h2,fun p hp=>CK.keep (fun b hb hlt=>⟨hb.1,hlt,rfl⟩) (h3 p hp)⟩
theorem Uo.X4 {α:Type} {n:Nat} {P:(Nat->Prop)->α->List Value->World->Prop} [CK n P] {S:Nat->Prop} {xs:List α} {v:Value} {w w':World} (h:Uo P S xs v w) (hg:w.grownBy w' none):Uo P (fun q=>S q/\q<w.heap.size) xs v w':=by
 obtain⟨A,c,rfl,ps,h1,h2,h3⟩:=h;refine⟨A,c,rfl,ps,h1,?_,fun p hp=>CK.keep (fun b hb hlt=>⟨⟨hb,hlt⟩,Nat.lt_of_lt_of_le hlt hg.size,hg.block b hlt (by simp)⟩) (h3 p hp)⟩;exact(h2.keep fun b o hb=>World.cell?_of_block (a:=⟨b,o,none⟩) (hg.block b hb (by simp))).more hg.size
theorem JC {w w':World} (h:w.grownBy w' none):Below w.heap.size w w':=⟨h.os,h.tape,h.output,h.size,fun k hk=>h.block k hk (by simp)⟩
theorem Qh {w : World} {op : Oper} {a : Act} {Q : Exit → Act → World → Prop} {ts t n by' : Nat} {α : Type} {P : (Nat → Prop) → α → List Value → World → Prop} [CK n P] {S : Nat → Prop} {K : Act → World → Prop} (h : I9 ts t n by') (s x : Operand) (hop : op.op = .call { callee := .builtin .append, args := #[s, x], argTypes := #[ts, ts] }) {base : Nat} {xs : List α} {v : Value} (hs : a.eval s = v) (hB : Bd S base t n P xs v w)
  {g c:Nat} (hx:a.eval x=.slice (some ⟨g,0,none⟩) 1 c) (cs:List Value) (hk:Bk w g t cs.toArray) (e:α) (hP:P (fun q=>S q/\some q≠v.ownBlock) e cs w) (hl:xs.length<=1000000000000) (hb:base<=w.heap.size)
  (hK:∀A' c' w',Bd S base t n P (xs++[e]) (.slice A' (xs.length+1) c') w'->Fr base w w'->w.grownBy w' v.ownBlock->((Value.slice A' (xs.length+1) c').ownBlock=v.ownBlock\/(Value.slice A' (xs.length+1) c').ownBlock=some w.heap.size)->K (a.put op.dst (.slice A' (xs.length+1) c')) w'):op.wp Try.prog a w K Q:=by
 obtain⟨z,h1,h2⟩:=h.inf;obtain⟨i,hi,h0,h3,h4⟩:=info_parts h1;obtain⟨hp,hle,hby⟩:=h.le;obtain⟨ps,h5,h6,h7⟩:=hB;have hlen:=CK.len hP;refine dJ s x ts hop base t i z n by' h.und hi h0 h3 h4 h2 hp v _ _ hs h6 (g+1) (some ⟨g,0,none⟩) 1 c cs hx (Rd.bk hk (by omega)) (by omega) (List.all_eq_true.1 (CK.one hP)) (by unfold maxLen;omega) (Nat.le_trans (Nat.mul_le_mul (by omega:_<=1000000000001) hby) (by decide)) hb ?_
 intro A' c' w' h8 h9 h10
 have hkp:fE (fun q=>S q/\some q≠v.ownBlock) (fun q=>S q/\some q≠(Value.slice A' (xs.length+1) c').ownBlock) w w':=fun b hb hlt=>⟨⟨hb.1,by
  rcases h10 with e|e
  ·rw[e];exact hb.2
  ·rw[e];intro he;injection he with he;omega⟩,by have:=h9.size;omega,h9.block b hlt hb.2⟩
 refine hK A' c' w' ⟨ps++[(e,cs)],by simp[h5],by rw[List.flatMap_append];simpa using h8,fun p hp=>?_⟩ (fun B a0 h11 h12 h13=>dY h13 h6 h11 h9 h12) h9 h10;rcases List.mem_append.1 hp with hp|hp
 ·exact CK.keep hkp (h7 p hp)
 ·simp only[List.mem_cons,List.not_mem_nil,or_false]at hp;subst hp;exact CK.keep hkp hP
theorem oK {w : World} {ops : Array Oper} {rest : List Oper} {op : Oper} {a : Act} {Q : Exit → Act → World → Prop} {ts t n by' : Nat} {α : Type} {P : (Nat → Prop) → α → List Value → World → Prop} [CK n P] {S : Nat → Prop} (h : I9 ts t n by') (hg : op.guard = none) (s x : Operand) (hop : op.op = .call { callee := .builtin .append, args := #[s, x], argTypes := #[ts, ts] }) {base : Nat} {xs : List α} {v : Value} (hs : a.eval s = v) (hB : Bd S base t n P xs v w)
  {g c:Nat} (hx:a.eval x=.slice (some ⟨g,0,none⟩) 1 c) (cs:List Value) (hk:Bk w g t cs.toArray) (e:α) (hP:P (fun q=>S q/\some q≠v.ownBlock) e cs w) (hl:xs.length<=1000000000000) (hb:base<=w.heap.size)
  (hK:∀A' c' w',Bd S base t n P (xs++[e]) (.slice A' (xs.length+1) c') w'->Fr base w w'->w.grownBy w' v.ownBlock->((Value.slice A' (xs.length+1) c').ownBlock=v.ownBlock\/(Value.slice A' (xs.length+1) c').ownBlock=some w.heap.size)->wpList Try.prog ops Q rest (a.put op.dst (.slice A' (xs.length+1) c')) w'):wpList Try.prog ops Q (op::rest) a w:=
 wpList_plain hg fun _ hK'=>Qh h s x hop hs hB hx cs hk e hP hl hb fun A' c' w' h1 h2 h3 h4=>hK' _ _ (hK A' c' w' h1 h2 h3 h4)
theorem Ae {bs:List lh} (hp:∀(i:Nat) (h:i<bs.length),GoodS i bs[i]) {i:Nat} (h:i<bs.length):0<(iF bs i).length:=by
 rw[vG hp h];simp
theorem Af {P:List Nat} {q:Nat} (h:q<(ints P).length):(ints P)[q]=((P[q]'(by simpa[ints]using h):Nat):Int):=by simp[ints]
def SmT (bs:List lh):Prop:=∀s∈bs,s.ends.length<=1048576/\s.bars.length<=1048576/\∀e∈s.ends,e.bars.length<=1048576
theorem Sl.lo {α:Type} {n:Nat} {P:(Nat->Prop)->α->List Value->World->Prop} [CK n P] {S:Nat->Prop} {xs:List α} {v:Value} {w:World} (h:Sl P S xs v w):Sl P (fun q=>S q/\q<w.heap.size) xs v w:=h.keep fun b hb hlt=>⟨⟨hb,hlt⟩,hlt,rfl⟩
theorem lW {bs:List lh} {cl:List T}:∀(l:List Nat),(∀x∈l,(iw bs x).bars.length<=1048576)->(gV bs cl l).length<=l.length*1048577
 |[],_=>Nat.zero_le _
 |x::l,h=>by
  have ih:=lW (cl:=cl) l fun y hy=>h y (by simp[hy])
  have hx:=h x (by simp);rw[yB];simp[ed];omega
theorem vJ {bs:List lh} (h:∀i,(iw bs i).ends.length<=1048576):∀i,(zu bs i).length<=i*1048576
 |0=>Nat.zero_le _
 |i+1=>by
  have ih:=vJ h i;have:=h i;rw[<-xH];simp[ik];omega
theorem Qi (w:World):(isAgg 25).run Try.prog w=.ok true w:=by simp[isAgg,go_sem]
theorem SmT.get {bs:List lh} (h:SmT bs) (x:Nat):(iw bs x).ends.length<=1048576/\(iw bs x).bars.length<=1048576/\∀e∈(iw bs x).ends,e.bars.length<=1048576:=by
 unfold iw;cases hx:bs[x]? with
 |none=>exact⟨by decide,by decide,fun e he=>absurd he (by simp[stZ])⟩
 |some s=>exact h s (List.mem_of_getElem? hx)
section
set_option maxRecDepth 100000
set_option maxHeartbeats 16000000
theorem X5 {d:Nat} {S:Nat->Prop} {aC:Int} {ks:List Int} {bs:List lh} {cs:List Value} {w:World} (hg:Qa aC bs) (hsm:SmT bs) (h:qg d S aC ks bs cs w):Calls Try.prog 16 #[.agg cs.toArray] w fun e w'=>∃cs',e=.returned (.agg cs'.toArray)/\mP d (fun q=>w.heap.size<=q) aC ks (eH (zu bs bs.length)) cs' w'/\Below w.heap.size w w':=by
 have nP:=zH hg;have JD:=zH hsm;clear hg hsm;obtain⟨kv,bv,rfl,hk,hb⟩:=h;obtain⟨Ak,ck,rfl⟩:=hk.form;obtain⟨Ab,cb,hbv,hbl,hb⟩:=hb;subst hbv;have HK:=zH hk;have HR:=zH hb.lo;clear hk hb
 go_enter Try.func16,Try.ntmps16
 go_upto_region 1 with fail
 obtain⟨w0,hw0⟩:∃z,(w.alloc (.cells #[.int .i64 aC,.slice Ak ks.length ck,.slice Ab bs.length cb] 34)).alloc (.cells #[.int .i64 0,.slice none 0 0,.slice none 0 0] 25)=z:=⟨_,rfl⟩
 have k1:Bk w0 w.heap.size 34 #[.int .i64 aC,.slice Ak ks.length ck,.slice Ab bs.length cb]:=hw0▸(Bk.new _ _ _).alloc _;have k2:Bk w0 (w.heap.size+1) 25 #[.int .i64 0,.slice none 0 0,.slice none 0 0]:=hw0▸Bk.newAt (by simp) _ _;have hb0:Below w.heap.size w w0:=hw0▸bel2 w _ _;simp only[hw0];clear hw0;have x0:w0.cell? ⟨w.heap.size,0,none⟩=some (.int .i64 aC):=k1.cell 0;have x1:w0.cell? ⟨w.heap.size,1,none⟩=some (.slice Ak ks.length ck):=k1.cell 1
 refine wx (fun k=>k==6) [.is (.pointer (some ⟨w.heap.size,0,none⟩)),.is (.int .i64 aC),.is (.pointer (some ⟨w.heap.size,1,none⟩)),.is (.slice Ak ks.length ck),
  sS (zo ks.length (Bd (fun _=>False) w0.heap.size 3 1 jV ks) fun A c=>.slice A ks.length c),sS (zo ks.length (Bd (fun _=>False) w0.heap.size 3 1 jV ks) fun A c=>.agg #[.int .i64 aC,.slice A ks.length c,.slice none 0 0]),
  .st (fun v w=>∃g,v=.pointer (some ⟨g,0,none⟩)/\w0.heap.size<=g/\Bk w g 25 #[.int .i64 0,.slice none 0 0,.slice none 0 0]) (fun _ _ _ hb ⟨g,h1,h0,h2⟩=>⟨g,h1,h0,h2.old hb⟩)] [4,5,6] (by kernel_rfl) (by kernel_rfl) (by kernel_rfl)
  (fun C=>.c (px C rfl (fun _ _=>rfl)) <| .c (px C rfl (fun _ h=>bW (lJ (bc h x0)))) <| .c (px C rfl (fun _ _=>rfl)) <| .c (px C rfl (fun _ h=>bW (Eg (bc h x1)))) <|
   .c (pz [3] [] (by kernel_rfl) fun qK qa wr hB qO qF hK=>?_) <| .c (pz [1,4] [] (by kernel_rfl) fun qK qa wr hB qO qF hK=>?_) <| .c (pf [] [] (by kernel_rfl) fun qK qa wr hB qO qF hK=>?_) .nil) ?_
 ·exact zq (.tmp 19) rfl (aK (ay qF.1 rfl rfl)) ((HK.out.keep (.old hb0)).keep (.old hB)) fun A c w' h1 h2=>hK _ _ h2 ⟨A,c,rfl,h1.NH hB.size⟩
 ·have e17:=ay qF.1 rfl rfl;obtain⟨u20,e20,A,c,rfl,hn⟩:=qF.2.1;have e20:qa.tmps[20]? =some (.slice A ks.length c):=e20;clear qO qF;go_simp;exact hK _ _ zR ⟨A,c,rfl,hn⟩
 ·clear qO qF;go_simp;exact hK _ _ (ba _ _) ⟨_,rfl,hB.size,Bk.new _ _ _⟩ ⟨_,rfl,by simp,by simp⟩
 intro qx wr hB hR hS;obtain⟨A3,c3,r5,n5⟩:=hR 5 rfl rfl;obtain⟨g3,r6,hg3,k3⟩:=hR 6 rfl rfl;clear hR hS;simp only[bJ,List.length,List.take,List.drop,List.toList_toArray]
 go_frame
 generalize qx 6=z6 at r6⊢;generalize qx 5=z5 at r5⊢;subst r6 r5;go_upto_region 2 with(refine ae mQ rfl _ _ rfl rfl [.int .i64 aC,.slice A3 ks.length c3,.slice none 0 0] rfl k3 rfl rfl rfl ?_;intro W0 p0;go_frame)
 have hz0:=p0.size;have hzb:=hB.size;have hz1:=k2.lt;have JA:=k3.lt;have hbW:Below w.heap.size w W0:=p0.below _ _ (hb0.trans (hB.mono hb0.size)) (by omega);have xh:Hid (Bk W0 w.heap.size 34 #[.int .i64 aC,.slice Ak ks.length ck,.slice Ab bs.length cb]/\Bk W0 (w.heap.size+1) 25 #[.int .i64 0,.slice none 0 0,.slice none 0 0]/\Sl jV (fun q=>w0.heap.size<=q/\some q≠some g3) ks (.slice A3 ks.length c3) W0):=zH ⟨p0.BQ (k1.old hB) (by omega),p0.BQ (k2.old hB) (by omega),?keys⟩
 case keys=>exact(n5.Ur (S:=fun q=>w0.heap.size<=q/\some q≠some g3) (fun b hb he=>⟨hb,fun e=>n5.ne k3 (by decide) (e.symm.trans he.symm)⟩) (fun b h=>h.elim) HK.out.le).keep (fE.jC p0 fun b hb e=>hb.2 (congrArg some e))
 have HG:=zH p0;have O9:=zH ((HK.out.lo).keep (.old hbW));have HB0:=zH hbW;have HR0:=zH (HR.out.old hbW);have hww:=hb0.size;have hgW:g3<W0.heap.size:=p0.bk.lt;have hwW:w0.heap.size<=W0.heap.size:=by omega
 clear p0 k1 k2 k3 hB hb0 hbW x0 x1 n5 hz0 hzb HK JA;have y2:=xh.out.1.cell 2;go_wp2_with fail
 go_loopw[25] (fun i wr=>∃(k:Nat) (v:Value),k<=bs.length/\i=.int .i64 k/\Hid (W0.grownBy wr (some g3)/\Bk wr g3 25 #[.int .i64 aC,.slice A3 ks.length c3,v]/\Bd (fun q=>q<w.heap.size\/W0.heap.size<=q) W0.heap.size 28 3 (uB d) (eH (zu bs k)) v wr)) (fun i _=>bs.length-(intOf i).toNat)
 case atStart=>exact⟨0,_,Nat.zero_le _,rfl,zH ⟨World.grownBy.refl _ _,HG.out.bk,Bd.nil zL⟩⟩
 case round=>
  obtain⟨wo,rfl⟩:∃z:World,z=wr:=⟨_,rfl⟩
  obtain⟨k,v,hk,rfl,hI⟩:=hrel;have hwz:=hI.out.1.size
  by_cases hlt:k<bs.length
  ·obtain⟨b,o,cs,hA,hSb,hb,hP,hc⟩:=(HR0.out.keep (fE.fJ hI.out.1 fun b hb=>by omega)).elem hlt;subst hA;have hlen:=CK.len hP;go_upto_region 5 with(first|(refine aX qC rfl _ rfl rfl cs hlen hc ?_)|(refine ae (dE qC.1) rfl _ _ rfl rfl cs rfl (Bk.new _ _ _) hlen rfl (CK.one hP) ?_;intro V1 p1;go_frame))
   obtain⟨v4,v5,v6,v7,rfl,_,_,_,Ap,cp,rfl,hpl,hpr⟩:=hP;have Fv:Below wo.heap.size wo V1:=p1.below _ _ (ba _ _) zL;have hzV:wo.heap.size<V1.heap.size:=by rw[p1.size];simp
   obtain⟨st,hst⟩:∃z,bs[k]=z:=⟨_,rfl⟩
   rw[hst]at hpl hpr p1;have HE0:Hid (Rw (NJ d) (fun q=>S q/\q<w.heap.size) st.ends Ap V1):=zH (hpr.old Fv);have HST:Hid (iw bs k=st/\bs[k]=st):=zH ⟨(vI hlt).trans hst,hst⟩;have HI2:Hid (W0.grownBy V1 (some g3)/\Bk V1 g3 25 #[.int .i64 aC,.slice A3 ks.length c3,v]/\Bd (fun q=>q<w.heap.size\/W0.heap.size<=q) W0.heap.size 28 3 (uB d) (eH (ik bs k 0)) v V1/\Bk V1 wo.heap.size 44 #[.int .i64 st.parent,.int .i64 st.type,.bool st.many,.int .i64 st.window,v4,v5,v6,.slice Ap st.ends.length cp]):=zH ⟨fO hI.out.1 (Fv.mono hwz),hI.out.2.1.old Fv,by rw[Aa];exact hI.out.2.2.old Fv,p1.bk⟩;have Xd:=zH (fO hI.out.1 (Fv.mono hwz));have x7:=p1.bk.cell 7;obtain⟨m,hm⟩:∃z,st.ends.length=z:=⟨_,rfl⟩
   rw[hm]at x7 hpl HI2;have HM:=zH hm;clear hpr p1 hc hlen hst hI hm;go_wp2_with fail
   clear x7
   go_loopw[33] (fun i wr=>∃(j:Nat) (v:Value),j<=m/\i=.int .i64 j/\Hid (V1.heap.size<=wr.heap.size/\W0.grownBy wr (some g3)/\Bk wr g3 25 #[.int .i64 aC,.slice A3 ks.length c3,v]/\Bd (fun q=>q<w.heap.size\/W0.heap.size<=q) W0.heap.size 28 3 (uB d) (eH (ik bs k j)) v wr/\Bk wr wo.heap.size 44 #[.int .i64 st.parent,.int .i64 st.type,.bool st.many,.int .i64 st.window,v4,v5,v6,.slice Ap m cp])) (fun i _=>m-(intOf i).toNat)
   case atStart=>exact⟨0,v,Nat.zero_le _,rfl,zH ⟨Nat.le_refl _,HI2.out⟩⟩
   case round=>
    clear HI2;obtain⟨wl,rfl⟩:∃z:World,z=wr:=⟨_,rfl⟩
    obtain⟨j,v,hj,rfl,hJ⟩:=hrel;have hzl:=hJ.out.1
    by_cases hjl:j<m
    ·have hje:j<st.ends.length:=by rw[HM.out];exact hjl
     obtain⟨b2,o2,cs2,hA2,_,hb2,hP2,hc2⟩:=(HE0.out.keep (fE.two Xd.out hJ.out.2.1 fun b hb=>⟨by omega,by omega⟩)).elem hje;subst hA2;have hlen2:=CK.len hP2;go_upto_region 8 with(first|(refine aX qB rfl _ rfl rfl cs2 hlen2 hc2 ?_)|(refine ae (dE qB.1) rfl _ _ rfl rfl cs2 rfl (Bk.new _ _ _) hlen2 rfl (CK.one hP2) ?_;intro V2 p2;go_frame))
     obtain⟨gv,uv,rfl,hg,hu⟩:=hP2;obtain⟨en,hen⟩:∃z,st.ends[j]=z:=⟨_,rfl⟩
     have hbr:=(nP.out.2.2 k hlt).2;rw[HST.out.2]at hbr;have hbr:=hbr j hje;rw[hen]at hg hu p2 hbr;have Jb:=zH hen;obtain⟨Ag,cg,rfl⟩:=hg.form;obtain⟨Au,cu,rfl⟩:=hu.form;obtain⟨lD,JE⟩:∃z:Nat,en.branch=z:=⟨en.branch.toNat,by omega⟩
     rw[JE]at p2;have Jc:=zH JE;have hB2:Below wl.heap.size wl V2:=p2.below _ _ (ba _ _) zL;have hz2:wl.heap.size<V2.heap.size:=by rw[p2.size];simp
     have iy:=zH (And.intro (hg.keep (.old hB2)) (And.intro (hu.keep (.old hB2)) (And.intro p2.bk (And.intro (hJ.out.2.2.2.2.old hB2) hB2))));have y0:=iy.out.2.2.1.cell 0;have y1:=iy.out.2.2.1.cell 1;have z3:=iy.out.2.2.2.1.cell 3;clear JE hen hg hu p2 hc2 hlen2 hbr;go_upto_region 9 with(refine ae (dE dH.1) rfl _ _ rfl rfl [.int .i64 (lD:Nat),.int .i64 st.window,.slice none 0 0] rfl (Bk.new _ _ _) rfl rfl rfl ?_;intro V3 p3;go_frame)
     have hB3:Below V2.heap.size V2 V3:=p3.below _ _ (ba _ _) zL;have hz3:V2.heap.size<V3.heap.size:=by rw[p3.size];simp
     have oL:=zH (And.intro p3.bk hB3);have y1:=(iy.out.2.2.1.old hB3).cell 1;have Ah:Below wl.heap.size wl V3:=hB2.trans (hB3.mono hB2.size);have kA:Bk V3 w.heap.size 34 #[.int .i64 aC,.slice Ak ks.length ck,.slice (some ⟨b,o,none⟩) bs.length cb]:=(xh.out.1.grown hJ.out.2.1 (by simp;omega)).old Ah;have Qj:Hid (qg d (fun q=>S q/\q<w.heap.size) aC ks bs [.int .i64 aC,.slice Ak ks.length ck,.slice (some ⟨b,o,none⟩) bs.length cb] V3):=zH ⟨_,_,rfl,(O9.out.keep (fE.fJ hJ.out.2.1 fun b hb=>by omega)).keep (.old Ah),_,cb,rfl,hbl,(HR0.out.keep (fE.fJ hJ.out.2.1 fun b hb=>by omega)).keep (.old Ah)⟩;have Gn:=zH (Qc nP.out.2.2 nP.out.2.1 (k+1) k (by omega) hlt Qj.out);have U8:=zH kA;clear z3 y0 p3 kA hB3 hB2;go_wp2_with (refine iG iY oJ rfl (.tmp 1) rfl rfl [.int .i64 aC,.slice Ak ks.length ck,.slice (some ⟨b,o,none⟩) bs.length cb] rfl (fun i v hv=>by rw[Nat.zero_add,U8.out.cell i];simpa using hv) ?_)
     refine Gn.out.mono ?_;rintro e W4 ⟨Ap4,cp4,rfl,h4,hB4⟩;obtain⟨P,hP⟩:∃z,iF bs k=z:=⟨_,rfl⟩
     have hpl:=qE nP.out.2.2 (k+1) k (by omega) hlt;have hpn:=Ae nP.out.2.2 hlt;rw[hP]at h4 hpl hpn⊢;obtain⟨np,Gp⟩:∃z,(ints P).length=z:=⟨_,rfl⟩
     have hnl:P.length=np:=by rw[<-Gp];simp[ints]
     have hk32:k<32:=Nat.lt_of_lt_of_le hlt nP.out.2.1;have X6:0<np/\np<=32:=by omega
     rw[Gp];rw[Gp]at h4;have HP:=zH (And.intro hP (And.intro hpl.2 (And.intro Gp hnl)));have Ut:=zH h4;have HB4:=zH hB4;have hz4:=hB4.size;have hn1:=X6.1;have hn2:=X6.2;clear hP hpl hpn h4 hB4 Gp hnl Gn Qj y1 X6;go_wp2_with fail
     have En:Hid (Nd d (fun b=>b<w.heap.size) en.cs (.slice Ag en.cs.length cg) W4):=zH (((iy.out.1.keep (.old oL.out.2)).keep (.old HB4.out)).keep fun b hb hlt=>⟨hb.2,hlt,rfl⟩)
     go_loopw[9,11,12] (fun nx pv kv wr=>∃(q:Nat) (z:Int),q<=np/\kv=.int .i64 z/\z=(q:Int)-1/\Hid (Below W4.heap.size W4 wr/\Nd d (fun b=>b<w.heap.size) (uf bs en.cs (P.drop q)) nx wr/\Bd (fun b=>b<w.heap.size\/W4.heap.size<=b) W4.heap.size 31 4 (Ja d) (gV bs en.cs (P.drop q)) pv wr)) (fun _ _ kv _=>(intOf kv+1).toNat)
     case atStart=>
      refine⟨np,_,Nat.le_refl _,rfl,by omega,zH ⟨Below.refl _ _,?_,?_⟩⟩
      ·rw[List.drop_eq_nil_of_le (by rw[HP.out.2.2.2];exact Nat.le_refl _)];exact En.out
      ·rw[List.drop_eq_nil_of_le (by rw[HP.out.2.2.2];exact Nat.le_refl _)];exact Bd.nil zL
     case round=>
      obtain⟨wk,rfl⟩:∃z:World,z=wr:=⟨_,rfl⟩
      obtain⟨q,z,hq,rfl,hzq,hQ⟩:=hrel;have hzk:=hQ.out.1.size
      by_cases hq0:0<q
      ·obtain⟨qq,hqq⟩:∃z,q-1=z:=⟨_,rfl⟩
       have hqn:qq<np:=by omega
       obtain rfl:z=((qq:Nat):Int):=by omega
       obtain rfl:q=qq+1:=by omega
       clear hqq hzq hq0;have hqP:qq<P.length:=by rw[HP.out.2.2.2];exact hqn
       have hqi:qq<(ints P).length:=by rw[HP.out.2.2.1];exact hqn
       obtain⟨pg,pcs,hpg,hpgb,hpgl,hpp,hpc⟩:=(Ut.out.old hQ.out.1).elem hqi;subst hpg;obtain rfl:=hpp;have Gq:=hpc 0 _ rfl;rw[Af hqi,Nat.mul_one,Nat.add_zero]at Gq;have hxk:=HP.out.2.1 _ (List.getElem_mem hqP);obtain⟨x,hx⟩:∃z,P[qq]=z:=⟨_,rfl⟩
       rw[hx]at Gq hxk;have HX:=zH hx;have hxl:x<bs.length:=by omega
       have hBl4:Below wl.heap.size wl wk:=(Ah.trans (HB4.out.mono Ah.size)).trans (hQ.out.1.mono (by omega));obtain⟨b9,o9,JF,NP,_,dO,X7,X8⟩:=((HR0.out.keep (fE.fJ hJ.out.2.1 fun b hb=>by omega)).old hBl4).elem hxl;injection NP with NP
       injection NP with e1 e2
       subst e1 e2;have qw:=CK.len X7;obtain⟨An,cn,rfl⟩:=hQ.out.2.1.form;have kA:=U8.out.old ((HB4.out.trans (hQ.out.1.mono (by omega))));have x2:wk.cell? ⟨w.heap.size,2,none⟩=some (.slice (some ⟨b,o,none⟩) bs.length cb):=kA.cell 2;clear hpc hx kA;go_upto_region 15 with fail
       refine wx (fun k=>k==8) [.is (.pointer (some ⟨w.heap.size,2,none⟩)),.is (.slice (some ⟨b,o,none⟩) bs.length cb),.is (.slice (some ⟨pg,0,none⟩) np cp4),.is (.int .i64 (qq:Nat)),.is (.pointer (some ⟨pg,qq,none⟩)),.is (.int .i64 (x:Nat)),.is (.pointer (some ⟨b,o+x*8,none⟩)),.is (.agg JF.toArray),
        .st (fun v w=>∃g,v=.pointer (some ⟨g,0,none⟩)/\wk.heap.size<=g/\Bk w g 44 #[.int .i64 0,.int .i64 0,.bool false,.int .i64 0,.slice none 0 0,.slice none 0 0,.slice none 0 0,.slice none 0 0]) (fun _ _ _ hb ⟨g,h1,h0,h2⟩=>⟨g,h1,h0,h2.old hb⟩)] [4,6,7,8] (by kernel_rfl) (by kernel_rfl) (by kernel_rfl)
        (fun C=>.c (px C rfl (fun _ _=>rfl)) <| .c (px C rfl (fun _ h=>bW (XU (bc h x2)))) <| .c (px C rfl (fun _ _=>rfl)) <| .c (px C rfl (fun _ _=>rfl)) <|
         .c (pz [2,3] [] (by kernel_rfl) fun qK qa wr hB qO qF hK=>?_) <| .c (px C rfl (fun _ h=>bW (lJ (bc h Gq)))) <| .c (pz [1,5] [] (by kernel_rfl) fun qK qa wr hB qO qF hK=>?_) <| .c (pz [6] [] (by kernel_rfl) fun qK qa wr hB qO qF hK=>?_) <| .c (pf [] [] (by kernel_rfl) fun qK qa wr hB qO qF hK=>?_) .nil) ?_
       ·have e56:=ay qF.1 rfl rfl;have e57:=ay qF.2.1 rfl rfl;clear qO qF;go_simp;exact hK _ _ zR (by show(_:Value)=_;simp)
       ·have e55:=ay qF.1 rfl rfl;have e59:=ay qF.2.1 rfl rfl;clear qO qF;go_simp;exact hK _ _ zR rfl
       ·exact fQ qC (.tmp 60) rfl (aK (ay qF.1 rfl rfl)) JF qw (fun i u hu=>(bc hB (X8 i u hu))) (hK _ _ zR rfl)
       ·clear qO qF;go_simp;exact hK _ _ (ba _ _) ⟨_,rfl,hB.size,Bk.new _ _ _⟩ ⟨_,rfl,by simp,by simp⟩
       intro qx w5 Uu hR hS;obtain⟨gx,r8,hgx,kx⟩:=hR 8 rfl rfl;clear hR hS;simp only[bJ,List.length,List.take,List.drop,List.toList_toArray]
       go_frame
       generalize qx 8=z8 at r8⊢;subst r8;go_upto_region 16 with(refine ae (dE qC.1) rfl _ _ rfl rfl JF rfl kx qw rfl (CK.one X7) ?_;intro W5 p5;go_frame)
       obtain⟨x4,x5,x6,x7,rfl,i4,i5,i6,i7⟩:=X7;have xI:Below wk.heap.size wk W5:=p5.below _ _ Uu hgx;have hzz:=xI.size;obtain⟨sx,hsx⟩:∃z,bs[x]=z:=⟨_,rfl⟩
       have hgs:iw bs x=sx:=(vI hxl).trans hsx;rw[hsx]at i4 i5 i6 p5;obtain⟨A6,c6,rfl⟩:=i6.form;obtain⟨A5,c5,rfl⟩:=i5.form;obtain⟨nn,hnn⟩:∃z,(uf bs en.cs (P.drop (qq+1))).length=z:=⟨_,rfl⟩
       have Jd:=zH (And.intro hgs (And.intro (i4.keep (.old xI)) (And.intro (i5.keep (.old xI)) (And.intro (i6.keep (.old xI)) xI))));have Ci:=zH p5.bk;have HQ2:=zH (And.intro (hQ.out.2.1.keep (.old xI)) (hQ.out.2.2.old xI));rw[hnn]at HQ2⊢;have Gs:=zH hnn;have y1:=Ci.out.cell 1;have y6:=Ci.out.cell 6;have hgxl:=Ci.out.lt;clear hsx hgs i4 i5 i6 i7 p5 kx X8 Gq x2 qw hnn;go_upto_region 17 with(refine ae (dE nC.1) rfl _ _ rfl rfl [.int .i64 (1:Nat),.int .i64 sx.type,.slice A6 sx.gs.length c6,.slice An nn cn] rfl (Bk.new _ _ _) rfl rfl rfl ?_;intro W6 p6;go_frame)
       have y2:=(Ci.out.old (p6.below _ _ (ba _ _) zL)).cell 2;have z0:=p6.bk.cell 0;have zf:=p6.bk.frozen 0;have Xe:Below W5.heap.size W5 W6:=p6.below _ _ (ba _ _) zL;have JG:=zH (And.intro p6.bk Xe);obtain⟨fm,hfm⟩:∃z:Nat,(if sx.many then 2 else 1)=z:=⟨_,rfl⟩
       have HFM:=zH hfm;obtain⟨mb,hmb⟩:∃z,sx.many=z:=⟨_,rfl⟩
       rw[hmb]at y2 hfm;have L8:=p6.bk.lt;clear p6 hmb;go_upto_if 69 with fail
       go_cut[] (fun wx=>Hid (Below W5.heap.size W5 wx/\Bk wx W5.heap.size 31 #[.int .i64 (fm:Nat),.int .i64 sx.type,.slice A6 sx.gs.length c6,.slice An nn cn]))
       case first=>
        cases mb
        ·have h1:fm=1:=by rw[<-hfm];rfl
         subst h1;go_wp2_with fail
         go_meet
         exact zH ⟨JG.out.2,JG.out.1⟩
        ·have h1:fm=2:=by rw[<-hfm];rfl
         subst h1;go_wp2_with fail
         go_meet
         exact zH ⟨JG.out.2.setCell zL _,JG.out.1.put 0 _⟩
       case rest=>
       have BR:=zH hcut.out;obtain⟨W7,rfl⟩:∃z:World,z=wc:=⟨_,rfl⟩
       clear z0 zf y1 y2 y6 hfm hcut JG;have hz7:=BR.out.1.size;have X9:W7.cell? ⟨gx,4,none⟩=some x4:=(Ci.out.old BR.out.1).cell 4;obtain⟨A4,c4,rfl⟩:=Jd.out.2.1.form;obtain⟨Aq,cq,rfl,_⟩:=HQ2.out.2.form;obtain⟨nq,hnq⟩:∃z,(gV bs en.cs (P.drop (qq+1))).length=z:=⟨_,rfl⟩
       obtain⟨nb,hnb⟩:∃z,sx.bars.length=z:=⟨_,rfl⟩
       have Qk:(ed sx.bars).length=nb:=by rw[<-hnb];simp[ed]
       rw[hnb]at X9;rw[hnq]at HQ2⊢;have Ya:=zH (And.intro hnq (And.intro hnb Qk));have HD:=zH (And.intro ((Jd.out.2.1.keep (.old BR.out.1))) (And.intro (Jd.out.2.2.2.1.keep (.old BR.out.1)) (And.intro (HQ2.out.1.keep (.old BR.out.1)) (HQ2.out.2.old BR.out.1))));have x5':W7.cell? ⟨gx,5,none⟩=some (.slice A5 sx.lv.length c5):=(Ci.out.old BR.out.1).cell 5;have hw7:w.heap.size<=W7.heap.size:=by omega
       have Yb:nb<=1048576/\nq<=100000000:=by
        refine⟨?_,?_⟩
        ·rw[<-hnb,<-Jd.out.1];exact(JD.out.get x).2.1
        ·rw[<-hnq];have:=lW (bs:=bs) (cl:=en.cs) (P.drop (qq+1)) fun y _=>(JD.out.get y).2.1
         have h2:(P.drop (qq+1)).length<=32:=by rw[List.length_drop,HP.out.2.2.2];omega
         omega
       have hnb1:=Yb.1;have hnq1:=Yb.2;clear hnq hnb Qk Yb;go_upto_region 19 with fail
       refine Go.Proofs.Ytbjnhllkdilpfaa.wr 5 none [.is (.pointer (some ⟨gx,4,none⟩)),.is (.slice A4 nb c4),sS (zo nb (Bd (fun b=>b<w.heap.size\/W4.heap.size<=b) W7.heap.size 31 4 (Ja d) (ed sx.bars)) fun A c=>.slice A nb c),
        .is (.agg #[.int .i64 (fm:Nat),.int .i64 sx.type,.slice A6 sx.gs.length c6,.slice An nn cn]),.st (fun v w=>∃g,v=.slice (some ⟨g,0,none⟩) 1 1/\Bk w g 31 #[.int .i64 (fm:Nat),.int .i64 sx.type,.slice A6 sx.gs.length c6,.slice An nn cn]) (fun _ _ _ hb ⟨g,h1,h2⟩=>⟨g,h1,h2.old hb⟩),
        sS (zo (nb+1) (Bd (fun b=>b<w.heap.size\/W4.heap.size<=b) W7.heap.size 31 4 (Ja d) (ed sx.bars++[nU sx (uf bs en.cs (P.drop (qq+1)))])) fun A c=>.slice A (nb+1) c),.is (.slice Aq nq cq)] [2,3,4,5] (by kernel_rfl) (by kernel_rfl) (by kernel_rfl)
        (fun C=>.c (ah.x (rG _) C rfl (fun _ _=>rfl)) <| .c (ah.b (rG _) C (by kernel_rfl) (fun _ h=>bW (Ju (bc h X9)))) <| .c (ah.z (rG _) [1] [] (by kernel_rfl) fun qK qa wr hB qO qF hK=>?_) <| .c (ah.z (rG _) [] [14] (by kernel_rfl) fun qK qa wr hB qO qF hK=>?_) <|
         .c (ah.z (rG _) [3] [] (by kernel_rfl) fun qK qa wr hB qO qF hK=>?_) <| .c (ah.g [2,4] [] (by kernel_rfl) fun qK qa wr hB qO qF hK=>?_) <| .c (ah.x (rG _) C rfl (fun _ _=>rfl)) .nil) ?_
       ·have e72:=ay qF.1 rfl rfl;clear qO qF;go_simp
        go_at_call 29
        have hh:=HD.out.1.keep (fE.old hB);rw[Ya.out.2.1]at hh;refine(P8 hh).mono ?_;rintro e w2 ⟨A,c,rfl,h1,h2⟩;rw[Ya.out.2.2]at h1⊢;exact hK _ _ h2 ⟨A,c,rfl,h1.wide (fun b hb=>.inl hb.2) hB.size⟩
       ·exact fQ nC (.tmp 14) rfl (aK (qO.1.trans rfl)) [.int .i64 (fm:Nat),.int .i64 sx.type,.slice A6 sx.gs.length c6,.slice An nn cn] rfl (fun i u hu=>by rw[Nat.zero_add,(BR.out.2.old hB).cell i];simpa using hu) (hK _ _ zR rfl)
       ·exact Eh nC (.tmp 74) rfl [.int .i64 (fm:Nat),.int .i64 sx.type,.slice A6 sx.gs.length c6,.slice An nn cn] (aK (ay qF.1 rfl rfl)) rfl (hK _ _ (ba _ _) ⟨_,rfl,Bk.new _ _ _⟩)
       ·obtain⟨u73,e73,A,c,rfl,h1⟩:=qF.1;obtain⟨u75,e75,g,rfl,k1⟩:=qF.2.1;refine Gh nC (.tmp 73) (.tmp 75) rfl (aK e73) h1 (aK e75) [.int .i64 (fm:Nat),.int .i64 sx.type,.slice A6 sx.gs.length c6,.slice An nn cn] k1 (nU sx (uf bs en.cs (P.drop (qq+1)))) ?_ (by rw[Ya.out.2.2];omega) hB.size ?_
        ·refine⟨_,_,by simp only[nU,HFM.out],(HD.out.2.1.keep (.old hB)).keep fun b hb hlt=>⟨⟨.inl hb.2,fun e=>by have:=(h1.lt e.symm).1;omega⟩,hlt,rfl⟩,(HD.out.2.2.1.keep (.old hB)).keep fun b hb hlt=>⟨⟨.inl hb,fun e=>by have:=(h1.lt e.symm).1;omega⟩,hlt,rfl⟩⟩
        ·intro A' c' w' h3 hf hg;rw[Ya.out.2.2]at h3⊢;exact hK _ _ (below_grown (hf _ _ zL hB.size hB) none) hg.size ⟨A',c',rfl,h3⟩
       intro qx W8 hG hR;obtain⟨A8,c8,r5,n5⟩:=hR 5 rfl rfl;clear hR;simp only[bJ,List.length,List.take,List.drop,List.toList_toArray]
       go_frame
       generalize qx 5=z5 at r5⊢;subst r5;have hz8:=hG.size;have hY:=(HD.out.2.2.2.r).X4 hG;have Yc:∀b,(Value.slice A8 (nb+1) c8).ownBlock=some b->W7.heap.size<=b:=fun b hb=>(n5.lt hb).1
       have hl5:(ed sx.bars++[nU sx (uf bs en.cs (P.drop (qq+1)))]).length=nb+1:=by rw[List.length_append,Ya.out.2.2];rfl
       have HH8:=zH (And.intro n5 (And.intro hY (And.intro Yc (And.intro hl5 (JC hG)))));clear n5 hY Yc hl5 X9;go_wp2_with (at_builtin;refine kL nC.1 rfl _ _ rfl rfl HH8.out.1 rfl HH8.out.2.1 (fun b hb hlt=>⟨hb.1,fun e=>by have:=HH8.out.2.2.1 b e.symm;omega⟩) (by rw[HH8.out.2.2.2.1,Ya.out.1];omega) hz8 ?_;intro A9 c9 w9 h9 uC jG;have dO:=uC _ _ zL hz8 HH8.out.2.2.2.2;have x59:=bc dO x5')
       have hb5:=Jd.out.2.2.2.2.trans ((BR.out.1.trans (dO.mono BR.out.1.size)).mono Jd.out.2.2.2.2.size);have h9':=h9;rw[HH8.out.2.2.2.1]at h9';refine⟨⟨qq,_,by omega,rfl,rfl,zH ⟨hQ.out.1.trans (hb5.mono hzk),?_,?_⟩⟩,by simp[intOf]⟩
       ·rw[zZ _ _ hqP,HX.out,Jd.out.1];exact(((Jd.out.2.2.1.keep (.old BR.out.1)).keep (.old dO))).keep fun b hb hlt=>⟨hb.2,hlt,rfl⟩
       ·rw[yC bs en.cs hqP,HX.out,Jd.out.1,Ya.out.2.2];exact h9'.wide (fun b h=>h) (by omega)
      ·obtain rfl:q=0:=by omega
       rw[List.drop_zero]at hQ;obtain⟨Aq,cq,rfl,_⟩:=hQ.out.2.2.form;obtain⟨nq,hnq⟩:∃z,(gV bs en.cs P).length=z:=⟨_,rfl⟩
       rw[hnq]at hQ⊢
       have hnq1:nq<=100000000:=by
        rw[<-hnq];have:=lW (bs:=bs) (cl:=en.cs) P fun y _=>(JD.out.get y).2.1
        rw[HP.out.2.2.2]at this;omega
       have hBV2:Below V2.heap.size V2 wk:=(oL.out.2.trans ((HB4.out.trans (hQ.out.1.mono hz4)).mono (by omega)))
       have kE:Bk wk wl.heap.size 55 #[.int .i64 (lD:Nat),.slice Ag en.cs.length cg,.slice Au en.bars.length cu]:=iy.out.2.2.1.old hBV2
       have hbE:en.bars.length<=1048576:=by
        have:=(JD.out.get k).2.2 en (by rw[HST.out.1,<-Jb.out];exact List.getElem_mem hje);exact this
       have HU:=zH (P8 (iy.out.2.1.keep (.old hBV2)));obtain⟨nu,hnu⟩:∃z,en.bars.length=z:=⟨_,rfl⟩
       have Ql:(ed en.bars).length=nu:=by rw[<-hnu];simp[ed]
       rw[hnu]at kE hbE HU;have JH:=zH (And.intro Ql hnq);have y2:=kE.cell 2;have hwk4:=hQ.out.1.size;have HQB:=zH hQ.out.2.2;clear hnu Ql hnq kE;go_wp2_with fail
       refine HU.out.mono ?_;rintro e w5 ⟨A5,c5,rfl,h5,hb5⟩;rw[JH.out.1]at h5⊢;have hz5:=hb5.size;have H5:=zH (And.intro h5.r (And.intro (HQB.out.old hb5) (And.intro (fun b (hb:(Value.slice Aq nq cq).ownBlock=some b)=>(HQB.out.lt hb).1) hb5)));have kb:Bk w5 V2.heap.size 28 #[.int .i64 (lD:Nat),.int .i64 st.window,.slice none 0 0]:=(((oL.out.1.old HB4.out).old hQ.out.1).old hb5)
       have HKB:=zH kb;have H45:=zH (hQ.out.1.trans (hb5.mono hwk4));clear h5 hb5 y2 HU kb;go_upto_region 22 with(at_builtin;refine kL nC.1 rfl _ _ rfl rfl H5.out.2.1 rfl H5.out.1 (fun b hb hlt=>⟨.inl hb.2,fun e=>by have:=H5.out.2.2.1 b e.symm;omega⟩) (by rw[JH.out.1,JH.out.2];omega) (by omega) ?_;intro A9 c9 w9 h9 uC jG;have Pe:=(oL.out.1.old HB4.out).old (uC _ _ zL (by omega) H45.out);have yb:=Pe.cell 2;have fb:=Pe.frozen 2)
       have NR:=uC _ _ zL (by omega) (hQ.out.1.trans (H5.out.2.2.2.mono hwk4));have Qm:Below wl.heap.size wl w9:=(Ah.trans (HB4.out.mono Ah.size)).trans (NR.mono (by omega));have lX:=Qm.setCell (p:=⟨V2.heap.size,2,none⟩) (by show wl.heap.size<=V2.heap.size;omega) (.slice A9 (nq+nu) c9);have Qn:=(((oL.out.1.old HB4.out).old NR)).put 2 (.slice A9 (nq+nu) c9);have hF:=h9.set (p:=⟨V2.heap.size,2,none⟩) (.slice A9 ((gV bs en.cs P).length+(ed en.bars).length) c9) (fun b hb=>by show b≠V2.heap.size;omega) (by show V2.heap.size<W4.heap.size;omega);rw[JH.out.1,JH.out.2]at hF⊢
       have HM:Hid (W0.grownBy (w9.setCell ⟨V2.heap.size,2,none⟩ (.slice A9 (nq+nu) c9)) (some g3)/\Bk (w9.setCell ⟨V2.heap.size,2,none⟩ (.slice A9 (nq+nu) c9)) g3 25 #[.int .i64 aC,.slice A3 ks.length c3,v]/\Bd (fun q=>q<w.heap.size\/W0.heap.size<=q) W0.heap.size 28 3 (uB d) (eH (ik bs k j)) v (w9.setCell ⟨V2.heap.size,2,none⟩ (.slice A9 (nq+nu) c9))/\Bk (w9.setCell ⟨V2.heap.size,2,none⟩ (.slice A9 (nq+nu) c9)) wo.heap.size 44 #[.int .i64 st.parent,.int .i64 st.type,.bool st.many,.int .i64 st.window,v4,v5,v6,.slice (some ⟨b2,o2,none⟩) m cp]/\Bk (w9.setCell ⟨V2.heap.size,2,none⟩ (.slice A9 (nq+nu) c9)) V2.heap.size 28 #[.int .i64 (lD:Nat),.int .i64 st.window,.slice A9 (nq+nu) c9]/\Below wl.heap.size wl (w9.setCell ⟨V2.heap.size,2,none⟩ (.slice A9 (nq+nu) c9))):=zH
        ⟨fO hJ.out.2.1 (lX.mono (by omega)),hJ.out.2.2.1.old lX,hJ.out.2.2.2.1.old lX,hJ.out.2.2.2.2.old lX,Qn,lX⟩
       have HF:=zH hF;obtain⟨Av,cv,hv,_⟩:=hJ.out.2.2.2.1.form
       have hLn:(eH (ik bs k j)).length<=100000000:=by
        have h1:=vJ (bs:=bs) (fun i=>(JD.out.get i).1) k;have h2:=(JD.out.get k).1;rw[uF];simp[ik];omega
       obtain⟨nL,Uw⟩:∃z,(eH (ik bs k j)).length=z:=⟨_,rfl⟩
       rw[Uw]at hLn hv;subst hv;have hz10:=lX.size;clear h9 uC jG Pe yb fb NR Qm lX Qn hF HQB HKB H5 hQ;generalize w9.setCell ⟨V2.heap.size,2,none⟩ (.slice A9 (nq+nu) c9)=Yd at *;have hV2W:=HM.out.2.2.2.2.1.lt;have z2:=HM.out.2.1.cell 2;have hvl:∀q,(Value.slice Av nL cv).ownBlock=some q->W0.heap.size<=q/\q<wl.heap.size:=fun q hq=>hJ.out.2.2.2.1.lt hq
       have Eo:=zH (And.intro Uw hvl);clear Uw hvl;obtain⟨BT,Ye⟩:∃z:bQ,(⟨lD,st.window,gV bs en.cs P++ed en.bars⟩:bQ)=z:=⟨_,rfl⟩
       have hBP:∀o,uB d (fun q=>(q<w.heap.size\/W0.heap.size<=q)/\some q≠(Value.slice Av nL cv).ownBlock) BT [.int .i64 (lD:Nat),.int .i64 st.window,.slice A9 (nq+nu) c9] (Yd.alloc o):=fun o=>by
        rw[<-Ye];exact⟨_,rfl,(HF.out.Ur (S:=fun q=>(q<w.heap.size\/W0.heap.size<=q)/\some q≠(Value.slice Av nL cv).ownBlock) (fun b hb _=>⟨.inr (by omega),fun e=>by have:=(Eo.out.2 b e.symm).2;omega⟩) (fun b hb _=>⟨by omega,fun e=>by have:=Eo.out.2 b e.symm;omega⟩) (by rw[List.length_append,JH.out.1,JH.out.2];omega)).keep (.old (ba _ _))⟩
       have Yf:=zH (And.intro Ye hBP);clear Ye hBP;obtain⟨L,hL⟩:∃z,eH (ik bs k j)=z:=⟨_,rfl⟩
       rw[hL]at HM Eo;have HL:=zH hL;clear hL
       go_wp2_with (first|(refine aX dH rfl _ rfl rfl [.int .i64 (lD:Nat),.int .i64 st.window,.slice A9 (nq+nu) c9] rfl (fun i v hv=>by rw[Nat.zero_add,HM.out.2.2.2.2.1.cell i];simpa using hv) ?_)|(refine iE dH rfl _ rfl [.int .i64 (lD:Nat),.int .i64 st.window,.slice A9 (nq+nu) c9] rfl rfl ?_)|
        (at_builtin;refine oK dH rfl _ _ rfl rfl (HM.out.2.2.1.old (ba _ _)) rfl [.int .i64 (lD:Nat),.int .i64 st.window,.slice A9 (nq+nu) c9] (Bk.new _ _ _) BT (Yf.out.2 _) (by rw[Eo.out.1];omega) (by simp;omega) ?_;intro y8 c11 Gt h11 Qo vK JI;rw[Eo.out.1]at h11 JI⊢;have k11:=(HM.out.2.1.alloc _).grown vK (HM.out.2.2.1.ne HM.out.2.1 (by decide));have z11:=k11.cell 2;have f11:=k11.frozen 2))
       have JJ:Below W0.heap.size Yd Gt:=Qo _ _ zL (by simp;omega) ((ba _ _).mono (by omega));have hV2:some V2.heap.size≠(Value.slice Av nL cv).ownBlock:=fun e=>by have:=(Eo.out.2 _ e.symm).2;omega
       have kS:=((HM.out.2.2.2.1.alloc _).grown vK (HM.out.2.2.1.ne HM.out.2.2.2.1 (by decide))).far (p:=⟨g3,2,none⟩) (by show wo.heap.size≠g3;omega) (.slice y8 (nL+1) c11);have kB:=((HM.out.2.2.2.2.1.alloc _).grown vK hV2).far (p:=⟨g3,2,none⟩) (by show V2.heap.size≠g3;omega) (.slice y8 (nL+1) c11)
       have hV11:∀q,(Value.slice y8 (nL+1) c11).ownBlock=some q->q<wl.heap.size\/Yd.heap.size<q:=fun q hq=>by
        rcases JI with e|e
        ·rw[e]at hq;exact .inl (Eo.out.2 q hq).2
        ·rw[e]at hq;injection hq with hq;simp at hq;exact .inr (by omega)
       have Xf:uB d (fun q=>(q<w.heap.size\/W0.heap.size<=q)/\some q≠(Value.slice y8 (nL+1) c11).ownBlock) BT [.int .i64 (lD:Nat),.int .i64 st.window,.slice A9 (nq+nu) c9] (Gt.setCell ⟨g3,2,none⟩ (.slice y8 (nL+1) c11)):=CK.keep (fun b hb hlt=>⟨⟨hb.1,fun e=>by
        rcases JI with e2|e2
        ·exact hb.2 (e.trans e2)
        ·rw[e2]at e;injection e with e;omega⟩,by have:=vK.size;simp at this hlt⊢;omega,(Below.heap_setCell Gt _ _ b (by show b≠g3;omega)).trans (vK.block b hlt hb.2)⟩) (Yf.out.2 _)
       have HV11:=zH hV11;have hz11:=JJ.size;have hgz:=vK.size
       have HR4:Hid (W0.grownBy (Gt.setCell ⟨g3,2,none⟩ (.slice y8 (nL+1) c11)) (some g3)/\Bk (Gt.setCell ⟨g3,2,none⟩ (.slice y8 (nL+1) c11)) g3 25 #[.int .i64 aC,.slice A3 ks.length c3,.slice y8 (nL+1) c11]/\Bd (fun q=>q<w.heap.size\/W0.heap.size<=q) W0.heap.size 28 3 (uB d) (nV L BT nL) (.slice y8 (nL+1) c11) (Gt.setCell ⟨g3,2,none⟩ (.slice y8 (nL+1) c11))/\Bk (Gt.setCell ⟨g3,2,none⟩ (.slice y8 (nL+1) c11)) wo.heap.size 44 #[.int .i64 st.parent,.int .i64 st.type,.bool st.many,.int .i64 st.window,v4,v5,v6,.slice (some ⟨b2,o2,none⟩) m cp]/\Bk (Gt.setCell ⟨g3,2,none⟩ (.slice y8 (nL+1) c11)) V2.heap.size 28 #[.int .i64 (lD:Nat),.int .i64 st.window,.slice A9 (nq+nu) c9]/\V1.heap.size<=(Gt.setCell ⟨g3,2,none⟩ (.slice y8 (nL+1) c11)).heap.size/\uB d (fun q=>(q<w.heap.size\/W0.heap.size<=q)/\some q≠(Value.slice y8 (nL+1) c11).ownBlock) BT [.int .i64 (lD:Nat),.int .i64 st.window,.slice A9 (nq+nu) c9] (Gt.setCell ⟨g3,2,none⟩ (.slice y8 (nL+1) c11))):=zH ⟨nS (fO HM.out.1 JJ),k11.put 2 _,by
        have:=h11.set (p:=⟨g3,2,none⟩) (.slice y8 (nL+1) c11) (fun b hb=>by show b≠g3;omega) hgW;rw[<-JB,Eo.out.1]at this
        exact this,kS,kB,by simp at hgz⊢;omega,Xf⟩
       clear h11 Qo vK JI hV11 Xf k11 z11 f11 JJ hV2 kS kB hz11 hgz z2;generalize Gt.setCell ⟨g3,2,none⟩ (.slice y8 (nL+1) c11)=W12 at *
       go_loopw[15] (fun kv wr=>∃q:Nat,q<=nL/\kv=.int .i64 q/\Hid (qi lD L q=qi lD L nL)/\Hid (W0.grownBy wr (some g3)/\Bk wr g3 25 #[.int .i64 aC,.slice A3 ks.length c3,.slice y8 (nL+1) c11]/\Bd (fun q=>q<w.heap.size\/W0.heap.size<=q) W0.heap.size 28 3 (uB d) (nV L BT q) (.slice y8 (nL+1) c11) wr/\Bk wr wo.heap.size 44 #[.int .i64 st.parent,.int .i64 st.type,.bool st.many,.int .i64 st.window,v4,v5,v6,.slice (some ⟨b2,o2,none⟩) m cp]/\Bk wr V2.heap.size 28 #[.int .i64 (lD:Nat),.int .i64 st.window,.slice A9 (nq+nu) c9]/\V1.heap.size<=wr.heap.size/\uB d (fun q=>(q<w.heap.size\/W0.heap.size<=q)/\some q≠(Value.slice y8 (nL+1) c11).ownBlock) BT [.int .i64 (lD:Nat),.int .i64 st.window,.slice A9 (nq+nu) c9] wr)) (fun kv _=>(intOf kv).toNat)
       case atStart=>exact⟨nL,Nat.le_refl _,rfl,zH rfl,HR4⟩
       case round=>
        clear HR4;obtain⟨Je,rfl⟩:∃z:World,z=wr:=⟨_,rfl⟩
        obtain⟨q,hq,rfl,HG4,HR4⟩:=hrel;have hmL:(nV L BT q).length=nL+1:=by rw[Qe L BT (by rw[Eo.out.1];exact hq),Eo.out.1]
        obtain⟨gB,cs0,hA11,hgB0,hgBl,_,_⟩:=HR4.out.2.2.1.elem (k:=0) (by omega);subst hA11;have z2:Je.cell? ⟨g3,2,none⟩=some (.slice (some ⟨gB,0,none⟩) (nL+1) c11):=HR4.out.2.1.cell 2;have b0:Je.cell? ⟨V2.heap.size,0,none⟩=some (.int .i64 (lD:Nat)):=HR4.out.2.2.2.2.1.cell 0;obtain⟨cnd,hcnd⟩:∃z,(decide (0<q)&&decide (lD<(qh L (q-1)).id))=z:=⟨_,rfl⟩
        have HC:=zH hcnd;go_upto_region 24 with fail
        go_cut[109] (fun v wx=>v=.bool cnd/\Hid (Below Je.heap.size Je wx))
        case first=>
         by_cases hq0:q=0
         ·subst hq0;have hc:cnd=false:=by rw[<-hcnd];rfl
          subst hc;clear hcnd HC
          go_quiet (fail)
          have Yg:=zH (below_drewN (Below.refl Je.heap.size Je) nq);go_wp2
          go_meet
          exact⟨rfl,Yg⟩
         ·obtain⟨qq,rfl⟩:∃z,q=z+1:=⟨q-1,by omega⟩
          have Xg:qq<(nV L BT (qq+1)).length:=by omega
          have hqL:qq<L.length:=by rw[Eo.out.1];omega
          obtain⟨g',cs1,hA1,_,_,hP1,hc1⟩:=HR4.out.2.2.1.elem Xg;injection hA1 with hA1
          injection hA1 with hA1
          subst hA1
          have hget:(nV L BT (qq+1))[qq]=qh L qq:=by
           have:=Gm (b:=BT) hqL;rw[List.getElem?_eq_getElem Xg]at this;injection this
          rw[hget]at hP1;obtain⟨_,rfl,_⟩:=hP1;have r0:=hc1 0 _ rfl;rw[Nat.add_zero]at r0;obtain⟨bi,hbi⟩:∃z,(qh L qq).id=z:=⟨_,rfl⟩
          rw[hbi]at r0;have L9:decide (lD<bi)=cnd:=by rw[<-hcnd,<-hbi];simp
          have hp0:(0:Int)<((qq+1:Nat):Int):=by omega
          have hsub:(((qq+1:Nat):Int)-1)=((qq:Nat):Int):=by omega
          clear hcnd HC hbi hget hc1 hq0
          by_cases hgt:lD<bi
          ·have hc:cnd=true:=by rw[<-L9];simp[hgt]
           subst hc;have hgI:((lD:Nat):Int)<((bi:Nat):Int):=by omega
           clear L9 hgt
           go_quiet (fail)
           have Yg:=zH (below_drewN (Below.refl Je.heap.size Je) nq);go_wp2
           go_meet
           exact⟨rfl,Yg⟩
          ·have hc:cnd=false:=by rw[<-L9];simp[hgt]
           subst hc;have hgI:¬((lD:Nat):Int)<((bi:Nat):Int):=by omega
           clear L9 hgt
           go_quiet (fail)
           have Yg:=zH (below_drewN (Below.refl Je.heap.size Je) nq);go_wp2
           go_meet
           exact⟨rfl,Yg⟩
        case rest=>
         obtain⟨rfl,tC⟩:=hcut;obtain⟨W24,hW24⟩:∃z:World,z=wc:=⟨_,rfl⟩
         subst hW24;have hz24:=tC.out.size;cases cnd
         case true=>
          have hc:=HC.out;simp only[Bool.and_eq_true,decide_eq_true_eq]at hc;obtain⟨qq,rfl⟩:∃z,q=z+1:=⟨q-1,by omega⟩
          rw[Nat.add_sub_cancel]at hc;have Qp:W0.heap.size<=Je.heap.size:=HR4.out.1.size;have hqL:qq<L.length:=by rw[Eo.out.1];omega
          have Uu:=HR4.out.2.2.1.old tC.out;have Xg:qq<(nV L BT (qq+1)).length:=by omega
          obtain⟨g',cs1,hA1,_,_,hP1,hc1⟩:=Uu.elem Xg;injection hA1 with hA1
          injection hA1 with hA1
          subst hA1
          have hget:(nV L BT (qq+1))[qq]=qh L qq:=by
           have:=Gm (b:=BT) hqL;rw[List.getElem?_eq_getElem Xg]at this;injection this
          rw[hget]at hP1;have hl1:=CK.len hP1;have H25:=zH (And.intro Uu (And.intro (by omega:qq+1<(nV L BT (qq+1)).length) hP1));have z5:W24.cell? ⟨g3,2,none⟩=some (.slice (some ⟨gB,0,none⟩) (nL+1) c11):=(HR4.out.2.1.old tC.out).cell 2;have hqn:qq<nL+1:=by omega
          have hqn2:qq<=nL:=by omega
          have hqn3:(qq:Int)<(nL:Int)+1:=by omega
          have hqn4:(qq:Int)<=(nL:Int):=by omega
          have hsub:(((qq+1:Nat):Int)-1)=((qq:Nat):Int):=by omega
          clear hP1 Uu hget z2 b0;go_upto_region 25 with fail
          refine wx (fun k=>false) [.is (.pointer (some ⟨g3,2,none⟩)),.is (.slice (some ⟨gB,0,none⟩) (nL+1) c11),.is (.int .i64 ((qq+1:Nat):Int)),.is (.pointer (some ⟨g3,2,none⟩)),.is (.slice (some ⟨gB,0,none⟩) (nL+1) c11),.is (.int .i64 ((qq+1:Nat):Int)),.is (.int .i64 (qq:Nat)),.is (.pointer (some ⟨gB,qq*3,none⟩)),.is (.agg cs1.toArray)] [6,7,8] (by kernel_rfl) (by kernel_rfl) (by kernel_rfl)
           (fun C=>.c (px C rfl (fun _ _=>rfl)) <| .c (px C rfl (fun _ h=>bW (XV (bc h z5)))) <| .c (px C rfl (fun _ _=>rfl)) <| .c (px C rfl (fun _ _=>rfl)) <| .c (px C rfl (fun _ h=>bW (XV (bc h z5)))) <| .c (px C rfl (fun _ _=>rfl)) <|
            .c (pz [5] [] (by kernel_rfl) fun qK qa wr hB qO qF hK=>?_) <| .c (pz [4,6] [] (by kernel_rfl) fun qK qa wr hB qO qF hK=>?_) <| .c (pz [7] [] (by kernel_rfl) fun qK qa wr hB qO qF hK=>?_) .nil) ?_
          ·have e115:=ay qF.1 rfl rfl;clear qO qF;go_simp;exact hK _ _ zR (by show(_:Value)=_;first|rfl|(simp;done)|(simp;omega)|(rw[IntWalk.i64_in _ ⟨by omega,by omega⟩])|(simp;rw[IntWalk.i64_in _ ⟨by omega,by omega⟩]))
          ·have e114:=ay qF.1 rfl rfl;have e116:=ay qF.2.1 rfl rfl;clear qO qF;go_simp;exact hK _ _ zR (by show(_:Value)=_;first|rfl|(simp;done)|(simp;omega)|(rw[IntWalk.i64_in _ ⟨by omega,by omega⟩])|(simp;rw[IntWalk.i64_in _ ⟨by omega,by omega⟩]))
          ·exact fQ dH (.tmp 117) rfl (aK (ay qF.1 rfl rfl)) cs1 hl1 (fun i u hu=>(bc hB (hc1 i u hu))) (hK _ _ zR rfl)
          intro qx W25 Qq hR hS;clear hR hS;simp only[bJ,List.length,List.take,List.drop,List.toList_toArray]
          go_frame
          have H26:=zH (And.intro (H25.out.1.old Qq) (CK.keep (fE.old Qq) H25.out.2.2));have hq2:qq+1<nL+1:=by omega
          go_upto_region 26 with(refine jk dH rfl _ _ rfl H26.out.1 (k:=qq+1) rfl cs1 rfl H25.out.2.1 _ H26.out.2 ?_;intro W26 h26 U9 Gu hs26;go_frame)
          have NS:Below W0.heap.size Je W26:=U9 _ _ zL (by have:=Qq.size;omega) ((tC.out.trans (Qq.mono tC.out.size)).mono Qp);have hbw:Below Je.heap.size Je W25:=tC.out.trans (Qq.mono tC.out.size)
          have hV2b:some V2.heap.size≠some gB:=fun e=>by
           injection e with e
           have:=HV11.out gB rfl;omega
          have k3:=(HR4.out.2.1.old hbw).grown Gu (H26.out.1.ne (HR4.out.2.1.old hbw) (by decide));have kS:=(HR4.out.2.2.2.1.old hbw).grown Gu (H26.out.1.ne (HR4.out.2.2.2.1.old hbw) (by decide));have kB:=(HR4.out.2.2.2.2.1.old hbw).grown Gu hV2b;rw[NK hqL]at h26;have hz26:=NS.size;have hz25:=hbw.size;have HN4:=zH (And.intro (fO HR4.out.1 NS) (And.intro k3 (And.intro h26 (And.intro kS (And.intro kB (And.intro (by have:=HR4.out.2.2.2.2.2.1;omega:V1.heap.size<=W26.heap.size) (CK.keep (fE.fJ Gu fun b hb e=>hb.2 (by rw[e];rfl)) (CK.keep (fE.old hbw) HR4.out.2.2.2.2.2.2))))))))
          have HG5:Hid (qi lD L qq=qi lD L nL):=zH (by
           have:=HG4.out;rw[<-this]
           show _=if lD<(qh L qq).id then qi lD L qq else qq+1
           rw[if_pos hc.2])
          clear h26 U9 Gu hs26 NS hbw hV2b k3 kS kB HR4 HG4 H25 H26 z5 hc;go_wp2_with fail
          go_roundw
          case rel=>exact⟨qq,by omega,by go_num,HG5,HN4⟩
          case measure=>simp[intOf]
         case false=>
          have hc:=HC.out
          have hpos:qi lD L nL=q:=by
           rw[<-HG4.out];cases q with
           |zero=>rfl
           |succ q=>
            show(if lD<(qh L q).id then qi lD L q else q+1)=_
            rw[if_neg (by simpa using hc)]
          have Qp:W0.heap.size<=Je.heap.size:=HR4.out.1.size;have z5:W24.cell? ⟨g3,2,none⟩=some (.slice (some ⟨gB,0,none⟩) (nL+1) c11):=(HR4.out.2.1.old tC.out).cell 2;have hqn2:q<nL+1:=by omega
          have hqn4:(q:Int)<=(nL:Int):=by omega
          have H27:=zH (And.intro (HR4.out.2.2.1.old tC.out) (And.intro (HR4.out.2.2.2.2.1.old tC.out) (And.intro (CK.keep (fE.old tC.out) HR4.out.2.2.2.2.2.2) (by rw[hmL];omega:q<(nV L BT q).length))));clear z2 b0 hc
          go_wp2_with (first|(refine aX dH rfl (.tmp 8) rfl rfl [.int .i64 (lD:Nat),.int .i64 st.window,.slice A9 (nq+nu) c9] rfl (fun i v hv=>by rw[Nat.zero_add,H27.out.2.1.cell i];simpa using hv) ?_)|
           (refine jk dH rfl _ _ rfl H27.out.1 (k:=q) rfl [.int .i64 (lD:Nat),.int .i64 st.window,.slice A9 (nq+nu) c9] rfl H27.out.2.2.2 BT (CK.keep (fun b hb hlt=>⟨⟨hb.1,fun e=>hb.2 (by rw[e];rfl)⟩,hlt,rfl⟩) H27.out.2.2.1) ?_;intro W26 h26 U9 Gu hs26))
          have hins:eH (ik bs k (j+1))=L.take q++BT::L.drop q:=by
           have hS:iw bs k=st:=HST.out.1;have hj2:j<(iw bs k).ends.length:=by rw[hS];exact hje
           have he:(iw bs k).ends[j]=en:=by
            have:=Jb.out;simp only[hS];exact this
           have hbr:Gj bs k en=BT:=by
            rw[<-Yf.out.1];unfold Gj;rw[hS,HP.out.1,Jc.out];rfl
           rw[Ad bs k hj2,Gl,HL.out,he,hbr];unfold Em;rw[show BT.id=lD by rw[<-Yf.out.1],Eo.out.1,hpos]
          rw[Qg L BT (by rw[Eo.out.1];exact hq)]at h26;have NS:Below W0.heap.size Je W26:=U9 _ _ zL (by omega) (tC.out.mono Qp);have hz26:=NS.size;have hs24:=HR4.out.2.2.2.2.2.1;exact⟨⟨j+1,_,hjl,by go_num,zH ⟨by omega,fO HR4.out.1 NS,(HR4.out.2.1.old tC.out).grown Gu (H27.out.1.ne (HR4.out.2.1.old tC.out) (by decide)),by rw[hins];exact h26,(HR4.out.2.2.2.1.old tC.out).grown Gu (H27.out.1.ne (HR4.out.2.2.2.1.old tC.out) (by decide))⟩⟩,by simp[intOf];omega⟩
    ·obtain rfl:j=m:=by omega
     go_wp2_with fail
     have hN1:Hid (W0.grownBy wl (some g3)/\Bk wl g3 25 #[.int .i64 aC,.slice A3 ks.length c3,v]/\Bd (fun q=>q<w.heap.size\/W0.heap.size<=q) W0.heap.size 28 3 (uB d) (eH (zu bs (k+1))) v wl):=zH ⟨hJ.out.2.1,hJ.out.2.2.1,by
      have h1:=hJ.out.2.2.2.1;have h2:=xH bs k;rw[HST.out.1,HM.out]at h2;rw[h2]at h1
      exact h1⟩
     refine⟨?_,by simp[intOf];omega⟩
     repeat apply Exists.intro
     refine⟨?_,rfl⟩;exact⟨k+1,v,hlt,by go_num,hN1⟩
  ·obtain rfl:k=bs.length:=by omega
   obtain⟨Av,cv,rfl,_⟩:=hI.out.2.2.form
   have hul:(eH (zu bs bs.length)).length<=1000000000000:=by
    have h1:=vJ (bs:=bs) (fun i=>(JD.out.get i).1) bs.length;have h2:=nP.out.2.1;rw[uF];omega
   have HT:=zH (XZ (d:=d) (S:=fun _=>True) (aC:=aC) ⟨_,_,rfl,(xh.out.2.2.keep (fE.fJ hI.out.1 fun b hb e=>hb.2 (congrArg some e))).keep fun b _ hlt=>⟨trivial,hlt,rfl⟩,hI.out.2.2.Ur (fun _ _ _=>trivial) (fun _ _ _=>trivial) hul⟩);go_wp2_with (refine iG mQ Qi rfl (.tmp 3) rfl rfl [.int .i64 aC,.slice A3 ks.length c3,.slice Av (eH (zu bs bs.length)).length cv] rfl (fun i v hv=>by rw[Nat.zero_add,hI.out.2.1.cell i];simpa using hv) ?_)
   refine HT.out.mono ?_;rintro e w5 ⟨_,rfl,⟨kv,bv,rfl,hk',hb'⟩,hb5⟩;obtain⟨Ux,Pg,rfl⟩:=hk'.form;obtain⟨Uy,cb',rfl⟩:=hb'.form;have k2:=(xh.out.2.1.grown hI.out.1 (by simp;omega)).old hb5;have hz5:=hb5.size;have H5:=zH (And.intro hk' (And.intro hb' hb5));clear hk' hb' HT;go_wp2_with (refine ae mQ rfl _ _ rfl rfl [.int .i64 aC,.slice Ux ks.length Pg,.slice Uy (eH (zu bs bs.length)).length cb'] rfl k2 rfl rfl rfl ?_;intro w9 p9;have y0:=p9.bk.cell 0;have y1:=p9.bk.cell 1;have y2:=p9.bk.cell 2)
   refine bodyPost_ret (v:=.agg #[.int .i64 aC,.slice Ux ks.length Pg,.slice Uy (eH (zu bs bs.length)).length cb']) (by simp[results,Try.results16,go_sem,y0,y1,y2]) rfl ?_;have hz0:=HB0.out.size;have hlt2:w.heap.size+1<wo.heap.size:=by omega
   exact⟨[_,_,_],rfl,⟨_,_,rfl,(H5.out.1.keep (fE.jC p9 fun b hb=>by omega)).keep fun b hb hlt=>⟨by omega,hlt,rfl⟩,(H5.out.2.1.keep (fE.jC p9 fun b hb=>by omega)).keep fun b hb hlt=>⟨by omega,hlt,rfl⟩⟩,p9.below _ _ ((HB0.out.grown hI.out.1 HB0.out.size fun k hk=>by injection hk with hk;omega).trans (H5.out.2.2.mono (by omega))) (by omega)⟩
end
end Go.Proofs.Ytbjnhllkdilpfaa
