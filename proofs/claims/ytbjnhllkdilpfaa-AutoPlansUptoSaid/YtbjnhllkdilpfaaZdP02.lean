/- Part 2 of the proof. No conditions. -/
import Derived.Test.YtbjnhllkdilpfaaZdP01
import Derived.Test.YtbjnhllkdilpfaaZc47
namespace Go.Proofs.Ytbjnhllkdilpfaa
open Go.RowKit
set_option maxRecDepth 100000
set_option maxHeartbeats 16000000
set_option linter.unusedVariables false
set_option linter.unusedSimpArgs false
theorem Ug {W w:World} {row:Option Nat} {b o:Nat} {v:Value} (hg:W.grownBy w row) (hb:some b≠row) (h:W.cell? ⟨b,o,none⟩=some v):w.cell? ⟨b,o,none⟩=some v:=(World.cell?_of_block (a:=⟨b,o,none⟩) (hg.block b (World.block_lt_of_cell? _ _ h) hb)).trans h
theorem Nv {w:World} {S:Nat->Prop} {A:Option Addr} {g t:Nat} {cs:Array Value} {ns:List au} (h:I8 w S A (ns.flatMap au.cells)) (hk:Bk w g t cs) (hc:cs.size<7):I8 w (fun q=>S q/\q≠g) A (ns.flatMap au.cells):=by
 rcases h with h|⟨b,o,h1,h2,h3,h4⟩
 ·exact .inl h
 ·cases ns with
  |nil=>exact .inl rfl
  |cons n ns=>
   refine .inr ⟨b,o,h1,⟨h2,fun e=>?_⟩,h3,h4⟩;subst e;obtain⟨op,kind,A2,c2,args,vk,vb,pos,a⟩:=n;have:=h4 6 (.int .i64 a) rfl;rw[hk.cell,Array.getElem?_eq_none (by omega)]at this;cases this
theorem Nw {w:World} {S:Nat->Prop} {g t:Nat} {cs:Array Value} (hk:Bk w g t cs) (hc:cs.size<7):∀{d:Nat} {n:au},okS S d n w->okS (fun q=>S q/\q≠g) d n w
 |0,_,h=>h
 |d+1,.mk ..,h=>⟨Nv h.1 hk hc,h.2.1,h.2.2.1,fun x hx=>Nw hk hc (h.2.2.2 x hx)⟩
theorem Nd.off {d:Nat} {S:Nat->Prop} {ts:List T} {v:Value} {w:World} {g t:Nat} {cs:Array Value} (h:Nd d S ts v w) (hk:Bk w g t cs) (hc:cs.size<7):Nd d (fun q=>S q/\q≠g) ts v w:=by
 obtain⟨A,c,ns,h1,h2,h3,h4⟩:=h;exact⟨A,c,ns,h1,Nv h2 hk hc,fun y hy=>Nw hk hc (h3 y hy),h4⟩
theorem WU {w : World} {op : Oper} {a : Act} {Q : Exit → Act → World → Prop} {ts t n by' : Nat} {α : Type} {P : (Nat → Prop) → α → List Value → World → Prop} [CK n P] {S S2 : Nat → Prop} {K : Act → World → Prop} (h : XX ts t n by') (s x : Operand) (hop : op.op = .call { callee := .builtin .append, args := #[s, x], argTypes := #[ts, ts] }) {base : Nat} {xs ys : List α} {v u : Value} (hs : a.eval s = v) (hB : Bd S base t n P xs v w)
  (hx:a.eval x=u) (hY:Uo P S2 ys u w) (hS:∀b,S2 b->b<w.heap.size->S b/\some b≠v.ownBlock) (hl:xs.length+ys.length<=1000000000000) (hb:base<=w.heap.size)
  (hK:∀A' c' w',Bd S base t n P (xs++ys) (.slice A' (xs.length+ys.length) c') w'->w.grownBy w' v.ownBlock->((Value.slice A' (xs.length+ys.length) c').ownBlock=v.ownBlock\/(Value.slice A' (xs.length+ys.length) c').ownBlock=some w.heap.size)->K (a.put op.dst (.slice A' (xs.length+ys.length) c')) w'):op.wp Try.prog a w K Q:=by
 obtain⟨z,h1,h2⟩:=h.inf;obtain⟨i,hi,h0,h3,h4⟩:=info_parts h1;obtain⟨hp,hle,hby⟩:=h.le;obtain⟨ps,h5,h6,h7⟩:=hB;obtain⟨A,c,rfl,qs,h8,h9,h10⟩:=hY;have hlen:(qs.flatMap Prod.snd).length=ys.length*n:=by rw[nT Prod.snd qs fun p hp=>CK.len (h10 p hp),<-h8,List.length_map]
 refine dJ s x ts hop base t i z n by' h.und hi h0 h3 h4 h2 hp v _ _ hs h6 w.heap.size A ys.length c _ hx h9 hlen ?_ (by unfold maxLen;omega) (Nat.le_trans (Nat.mul_le_mul hl hby) (by decide)) hb ?_
 ·intro u hu;obtain⟨p,hp,hu⟩:=List.mem_flatMap.1 hu;exact List.all_eq_true.1 (CK.one (h10 p hp)) u hu
 intro A' c' w' h11 h12 h13
 have hkp:∀{S1:Nat->Prop},(∀b,S1 b->b<w.heap.size->S b/\some b≠v.ownBlock)->fE S1 (fun q=>S q/\some q≠(Value.slice A' (xs.length+ys.length) c').ownBlock) w w':=fun hS1 b hb hlt=>⟨⟨(hS1 b hb hlt).1,by
  rcases h13 with e|e
  ·rw[e];exact(hS1 b hb hlt).2
  ·rw[e];intro he;injection he with he;omega⟩,by have:=h12.size;omega,h12.block b hlt (hS1 b hb hlt).2⟩
 refine hK A' c' w' ⟨ps++qs,by rw[List.map_append,h5,h8],by rw[List.flatMap_append,List.length_append];exact h11,fun p hp=>?_⟩ h12 h13;rcases List.mem_append.1 hp with hp|hp
 ·exact CK.keep (hkp fun b hb _=>hb) (h7 p hp)
 ·exact CK.keep (hkp hS) (h10 p hp)
section
set_option maxRecDepth 100000
set_option maxHeartbeats 16000000
theorem zBn {d:Nat} {S:Nat->Prop} {aC:Int} {ks:List Int} {bs:List lh} {cs:List Value} {w:World} (hg:Qa aC bs) (hsm:SmT bs) (hid:∀b∈zu bs bs.length,b.id<=9223372036854775807) (h:qg d S aC ks bs cs w):Calls Try.prog 15 #[.agg cs.toArray] w fun e w'=>∃cs',e=.returned (.agg cs'.toArray)/\mP d (fun q=>w.heap.size<=q) aC ks (eH (zu bs bs.length)) cs' w'/\Below w.heap.size w w':=by
 have nP:=zH hg;have JD:=zH hsm;have HID:=zH hid;clear hg hsm hid;obtain⟨kv,bv,rfl,hk,hb⟩:=h;obtain⟨Ak,ck,rfl⟩:=hk.form;obtain⟨Ab,cb,hbv,hbl,hb⟩:=hb;subst hbv;have HK:=zH hk;have HR:=zH hb.lo;clear hk hb
 go_enter Try.func15,Try.ntmps15
 go_upto_region 1 with fail
 obtain⟨w0,hw0⟩:∃z,(w.alloc (.cells #[.int .i64 aC,.slice Ak ks.length ck,.slice Ab bs.length cb] 34)).alloc (.cells #[.int .i64 0,.slice none 0 0,.slice none 0 0] 25)=z:=⟨_,rfl⟩
 have k1:Bk w0 w.heap.size 34 #[.int .i64 aC,.slice Ak ks.length ck,.slice Ab bs.length cb]:=hw0▸(Bk.new _ _ _).alloc _;have k2:Bk w0 (w.heap.size+1) 25 #[.int .i64 0,.slice none 0 0,.slice none 0 0]:=hw0▸Bk.newAt (by simp) _ _;have hb0:Below w.heap.size w w0:=hw0▸bel2 w _ _;simp only[hw0];clear hw0;have x0:w0.cell? ⟨w.heap.size,0,none⟩=some (.int .i64 aC):=k1.cell 0;have x1:w0.cell? ⟨w.heap.size,1,none⟩=some (.slice Ak ks.length ck):=k1.cell 1
 refine wx (fun k=>k==6) [.is (.pointer (some ⟨w.heap.size,0,none⟩)),.is (.int .i64 aC),.is (.pointer (some ⟨w.heap.size,1,none⟩)),.is (.slice Ak ks.length ck),
  sS (zo ks.length (Bd (fun _=>False) w0.heap.size 3 1 jV ks) fun A c=>.slice A ks.length c),sS (zo ks.length (Bd (fun _=>False) w0.heap.size 3 1 jV ks) fun A c=>.agg #[.int .i64 aC,.slice A ks.length c,.slice none 0 0]),
  .st (fun v w=>∃g,v=.pointer (some ⟨g,0,none⟩)/\w0.heap.size<=g/\Bk w g 25 #[.int .i64 0,.slice none 0 0,.slice none 0 0]) (fun _ _ _ hb ⟨g,h1,h0,h2⟩=>⟨g,h1,h0,h2.old hb⟩)] [4,5,6] (by kernel_rfl) (by kernel_rfl) (by kernel_rfl)
  (fun C=>.c (px C rfl (fun _ _=>rfl)) <| .c (px C rfl (fun _ h=>bW (lJ (bc h x0)))) <| .c (px C rfl (fun _ _=>rfl)) <| .c (px C rfl (fun _ h=>bW (Eg (bc h x1)))) <|
   .c (pz [3] [] (by kernel_rfl) fun qK qa wr hB qO qF hK=>?_) <| .c (pz [1,4] [] (by kernel_rfl) fun qK qa wr hB qO qF hK=>?_) <| .c (pf [] [] (by kernel_rfl) fun qK qa wr hB qO qF hK=>?_) .nil) ?_
 ·exact zq (.tmp 17) rfl (aK (ay qF.1 rfl rfl)) ((HK.out.keep (.old hb0)).keep (.old hB)) fun A c w' h1 h2=>hK _ _ h2 ⟨A,c,rfl,h1.NH hB.size⟩
 ·have e15:=ay qF.1 rfl rfl;obtain⟨u18,e18,A,c,rfl,hn⟩:=qF.2.1;have e18:qa.tmps[18]? =some (.slice A ks.length c):=e18;clear qO qF;go_simp;exact hK _ _ zR ⟨A,c,rfl,hn⟩
 ·clear qO qF;go_simp;exact hK _ _ (ba _ _) ⟨_,rfl,hB.size,Bk.new _ _ _⟩ ⟨_,rfl,by simp,by simp⟩
 intro qx wr hB hR hS;obtain⟨A3,c3,r5,n5⟩:=hR 5 rfl rfl;obtain⟨g3,r6,hg3,k3⟩:=hR 6 rfl rfl;clear hR hS;simp only[bJ,List.length,List.take,List.drop,List.toList_toArray]
 go_frame
 generalize qx 6=z6 at r6⊢;generalize qx 5=z5 at r5⊢;subst r6 r5;go_upto_region 2 with(refine ae mQ rfl _ _ rfl rfl [.int .i64 aC,.slice A3 ks.length c3,.slice none 0 0] rfl k3 rfl rfl rfl ?_;intro W0 p0;go_frame)
 have hz0:=p0.size;have hzb:=hB.size;have hz1:=k2.lt;have JA:=k3.lt;have hbW:Below w.heap.size w W0:=p0.below _ _ (hb0.trans (hB.mono hb0.size)) (by omega);have xh:Hid (Bk W0 w.heap.size 34 #[.int .i64 aC,.slice Ak ks.length ck,.slice Ab bs.length cb]/\Bk W0 (w.heap.size+1) 25 #[.int .i64 0,.slice none 0 0,.slice none 0 0]/\Sl jV (fun q=>w0.heap.size<=q/\some q≠some g3) ks (.slice A3 ks.length c3) W0):=zH ⟨p0.BQ (k1.old hB) (by omega),p0.BQ (k2.old hB) (by omega),?keys⟩
 case keys=>exact(n5.Ur (S:=fun q=>w0.heap.size<=q/\some q≠some g3) (fun b hb he=>⟨hb,fun e=>n5.ne k3 (by decide) (e.symm.trans he.symm)⟩) (fun b h=>h.elim) HK.out.le).keep (fE.jC p0 fun b hb e=>hb.2 (congrArg some e))
 have HG:=zH p0;have O9:=zH ((HK.out.lo).keep (.old hbW));have HB0:=zH hbW;have HR0:=zH (HR.out.old hbW);have hww:=hb0.size;have hgW:g3<W0.heap.size:=p0.bk.lt;have hwW:w0.heap.size<=W0.heap.size:=by omega
 clear p0 k1 k2 k3 hB hb0 hbW x0 x1 n5 hz0 hzb HK JA;have y2:=xh.out.1.cell 2;go_wp2_with fail
 go_loopw[23] (fun i wr=>∃(k:Nat) (v:Value),k<=bs.length/\i=.int .i64 k/\Hid (W0.grownBy wr (some g3)/\Bk wr g3 25 #[.int .i64 aC,.slice A3 ks.length c3,v]/\Bd (fun q=>W0.heap.size<=q) W0.heap.size 28 3 (uB d) (zu bs k) v wr)) (fun i _=>bs.length-(intOf i).toNat)
 case atStart=>exact⟨0,_,Nat.zero_le _,rfl,zH ⟨World.grownBy.refl _ _,HG.out.bk,Bd.nil zL⟩⟩
 case round=>
  obtain⟨wo,rfl⟩:∃z:World,z=wr:=⟨_,rfl⟩
  obtain⟨k,v,hk,rfl,hI⟩:=hrel;have hwz:=hI.out.1.size
  by_cases hlt:k<bs.length
  ·obtain⟨b,o,cs,hA,hSb,hb,hP,hc⟩:=(HR0.out.keep (fE.fJ hI.out.1 fun b hb=>by omega)).elem hlt;subst hA;have hlen:=CK.len hP;go_upto_region 5 with(first|(refine aX qC rfl _ rfl rfl cs hlen hc ?_)|(refine ae (dE qC.1) rfl _ _ rfl rfl cs rfl (Bk.new _ _ _) hlen rfl (CK.one hP) ?_;intro V1 p1;go_frame))
   obtain⟨v4,v5,v6,v7,rfl,_,_,_,Ap,cp,rfl,hpl,hpr⟩:=hP;have Fv:Below wo.heap.size wo V1:=p1.below _ _ (ba _ _) zL;have hzV:wo.heap.size<V1.heap.size:=by rw[p1.size];simp
   obtain⟨st,hst⟩:∃z,bs[k]=z:=⟨_,rfl⟩
   rw[hst]at hpl hpr p1;have HE0:Hid (Rw (NJ d) (fun q=>S q/\q<w.heap.size) st.ends Ap V1):=zH (hpr.old Fv);have HST:Hid (iw bs k=st/\bs[k]=st):=zH ⟨(vI hlt).trans hst,hst⟩;have HI2:Hid (W0.grownBy V1 (some g3)/\Bk V1 g3 25 #[.int .i64 aC,.slice A3 ks.length c3,v]/\Bd (fun q=>W0.heap.size<=q) W0.heap.size 28 3 (uB d) (ik bs k 0) v V1/\Bk V1 wo.heap.size 44 #[.int .i64 st.parent,.int .i64 st.type,.bool st.many,.int .i64 st.window,v4,v5,v6,.slice Ap st.ends.length cp]):=zH ⟨fO hI.out.1 (Fv.mono hwz),hI.out.2.1.old Fv,by rw[Aa];exact hI.out.2.2.old Fv,p1.bk⟩;have Xd:=zH (fO hI.out.1 (Fv.mono hwz));have x7:=p1.bk.cell 7;obtain⟨m,hm⟩:∃z,st.ends.length=z:=⟨_,rfl⟩
   rw[hm]at x7 hpl HI2;have HM:=zH hm;clear hpr p1 hc hlen hst hI hm;go_wp2_with fail
   clear x7
   go_loopw[31] (fun i wr=>∃(j:Nat) (v:Value),j<=m/\i=.int .i64 j/\Hid (V1.heap.size<=wr.heap.size/\W0.grownBy wr (some g3)/\Bk wr g3 25 #[.int .i64 aC,.slice A3 ks.length c3,v]/\Bd (fun q=>W0.heap.size<=q) W0.heap.size 28 3 (uB d) (ik bs k j) v wr/\Bk wr wo.heap.size 44 #[.int .i64 st.parent,.int .i64 st.type,.bool st.many,.int .i64 st.window,v4,v5,v6,.slice Ap m cp])) (fun i _=>m-(intOf i).toNat)
   case atStart=>exact⟨0,v,Nat.zero_le _,rfl,zH ⟨Nat.le_refl _,HI2.out⟩⟩
   case round=>
    clear HI2;obtain⟨wl,rfl⟩:∃z:World,z=wr:=⟨_,rfl⟩
    obtain⟨j,v,hj,rfl,hJ⟩:=hrel;have hzl:=hJ.out.1
    by_cases hjl:j<m
    ·have hje:j<st.ends.length:=by rw[HM.out];exact hjl
     obtain⟨b2,o2,cs2,hA2,_,hb2,hP2,hc2⟩:=(HE0.out.keep (fE.two Xd.out hJ.out.2.1 fun b hb=>⟨by omega,by omega⟩)).elem hje;subst hA2;have hlen2:=CK.len hP2;go_upto_region 8 with(first|(refine aX qB rfl _ rfl rfl cs2 hlen2 hc2 ?_)|(refine ae (dE qB.1) rfl _ _ rfl rfl cs2 rfl (Bk.new _ _ _) hlen2 rfl (CK.one hP2) ?_;intro V2 p2;go_frame))
     obtain⟨gv,uv,rfl,hg,hu⟩:=hP2;obtain⟨en,hen⟩:∃z,st.ends[j]=z:=⟨_,rfl⟩
     have hbr:=(nP.out.2.2 k hlt).2;rw[HST.out.2]at hbr;have hbr:=hbr j hje;rw[hen]at hg hu p2 hbr;have Jb:=zH hen;obtain⟨Ag,cg,rfl⟩:=hg.form;obtain⟨Au,cu,rfl⟩:=hu.form;obtain⟨lD,JE⟩:∃z:Nat,en.branch=z:=⟨en.branch.toNat,by omega⟩
     rw[JE]at p2;have Jc:=zH JE;have hB2:Below wl.heap.size wl V2:=p2.below _ _ (ba _ _) zL;have hz2:wl.heap.size<V2.heap.size:=by rw[p2.size];simp
     have iy:=zH (And.intro (hg.keep (.old hB2)) (And.intro (hu.keep (.old hB2)) (And.intro p2.bk (And.intro (hJ.out.2.2.2.2.old hB2) hB2))));have y0:=iy.out.2.2.1.cell 0;have y1:=iy.out.2.2.1.cell 1;have z3:=iy.out.2.2.2.1.cell 3;clear JE hen hg hu p2 hc2 hlen2 hbr;go_upto_region 9 with(refine ae (dE dH.1) rfl _ _ rfl rfl [.int .i64 (lD:Nat),.int .i64 st.window,.slice none 0 0] rfl (Bk.new _ _ _) rfl rfl rfl ?_;intro V3 p3;go_frame)
     have hB3:Below V2.heap.size V2 V3:=p3.below _ _ (ba _ _) zL;have hz3:V2.heap.size<V3.heap.size:=by rw[p3.size];simp
     have hg8l:=p3.bk.lt;have oL:=zH (And.intro p3.bk hB3);have Ah:Below wl.heap.size wl V3:=iy.out.2.2.2.2.trans (hB3.mono iy.out.2.2.2.2.size);have kA:Bk V3 w.heap.size 34 #[.int .i64 aC,.slice Ak ks.length ck,.slice (some ⟨b,o,none⟩) bs.length cb]:=(xh.out.1.grown hJ.out.2.1 (by simp;omega)).old Ah;have Qj:Hid (qg d (fun q=>S q/\q<w.heap.size) aC ks bs [.int .i64 aC,.slice Ak ks.length ck,.slice (some ⟨b,o,none⟩) bs.length cb] V3):=zH ⟨_,_,rfl,(O9.out.keep (fE.fJ hJ.out.2.1 fun b hb=>by omega)).keep (.old Ah),_,cb,rfl,hbl,(HR0.out.keep (fE.fJ hJ.out.2.1 fun b hb=>by omega)).keep (.old Ah)⟩;have Gn:=zH (zBe nP.out.2.2 nP.out.2.1 hlt Qj.out);have U8:=zH kA;clear z3 y0 y1 p3 kA hB3 Qj hB2;go_wp2_with (refine iG iY oJ rfl (.tmp 1) rfl rfl [.int .i64 aC,.slice Ak ks.length ck,.slice (some ⟨b,o,none⟩) bs.length cb] rfl (fun i v hv=>by rw[Nat.zero_add,U8.out.cell i];simpa using hv) ?_)
     refine Gn.out.mono ?_;rintro e W4 ⟨Ap4,cp4,rfl,h4,hB4⟩;obtain⟨P,hP⟩:∃z,iF bs k=z:=⟨_,rfl⟩
     have hpl:=qE nP.out.2.2 (k+1) k (by omega) hlt;rw[hP]at h4 hpl⊢;obtain⟨np,Gp⟩:∃z,(ints P).length=z:=⟨_,rfl⟩
     have hnl:P.length=np:=by rw[<-Gp];simp[ints]
     have hk32:k<32:=Nat.lt_of_lt_of_le hlt nP.out.2.1;have hnp32:np<=32:=by omega
     obtain⟨Ap5,cp5,hpe,_,hrw⟩:=h4.Ur (S:=fun b=>V3.heap.size<=b) (fun b hb _=>hb) (fun b hb _=>hb.elim) (by omega);have e1:Ap4=Ap5:=by injection hpe
     subst e1;rw[Gp];have HP:=zH (And.intro hP (And.intro hpl.2 (And.intro Gp hnl)));have Ut:=zH hrw;have HB4:=zH hB4;have hz4:=hB4.size;clear hP hpl h4 hB4 Gp hnl Gn hpe hrw hk32;go_wp2_with fail
     go_loopw[45] (fun i wr=>∃(q:Nat) (xs:List kM) (A:Option Addr) (c:Nat),q<=np/\i=.int .i64 q/\Hid (xs++gV bs en.cs (P.drop q)=gV bs en.cs P)/\Hid (W4.grownBy wr (some V2.heap.size)/\Bk wr V2.heap.size 28 #[.int .i64 (lD:Nat),.int .i64 st.window,.slice A xs.length c]/\Bd (fun b=>W4.heap.size<=b) W4.heap.size 31 4 (Ja d) xs (.slice A xs.length c) wr)) (fun i _=>np-(intOf i).toNat)
     case atStart=>exact⟨0,[],none,0,Nat.zero_le _,rfl,zH rfl,zH ⟨World.grownBy.refl _ _,oL.out.1.old HB4.out,Bd.nil zL⟩⟩
     case round=>
      obtain⟨wk,rfl⟩:∃z:World,z=wr:=⟨_,rfl⟩
      obtain⟨q,xs,Ax,cx,hq,rfl,hX,hQ⟩:=hrel;have hzk:=hQ.out.1.size;have BO:Below V2.heap.size V2 wk:=(oL.out.2.trans (HB4.out.mono (by omega))).grown hQ.out.1 (by omega) (fun b hb=>by injection hb with hb;omega);have Uh:Below wl.heap.size wl wk:=iy.out.2.2.2.2.trans (BO.mono iy.out.2.2.2.2.size)
      by_cases hq0:q<np
      ·have hqP:q<P.length:=by rw[HP.out.2.2.2];exact hq0
       have hqi:q<(ints P).length:=by rw[HP.out.2.2.1];exact hq0
       obtain⟨pg,po,pcs,hpg,_,_,hpp,hpc⟩:=(Ut.out.keep (fE.fJ (S:=fun b=>V3.heap.size<=b) hQ.out.1 fun b hb=>by omega)).elem hqi;subst hpg;obtain rfl:=hpp;have Gq:=hpc 0 _ rfl;rw[Af hqi,Nat.mul_one,Nat.add_zero]at Gq;have hxk:=HP.out.2.1 _ (List.getElem_mem hqP);obtain⟨x,hx⟩:∃z,P[q]=z:=⟨_,rfl⟩
       rw[hx]at Gq hxk;have HX:=zH hx;have hxl:x<bs.length:=by omega
       obtain⟨b9,o9,JF,NP,_,dO,X7,X8⟩:=((HR0.out.keep (fE.fJ hJ.out.2.1 fun b hb=>by omega)).old Uh).elem hxl;injection NP with NP
       injection NP with e1 e2
       subst e1 e2;have qw:=CK.len X7;have kA:Bk wk w.heap.size 34 #[.int .i64 aC,.slice Ak ks.length ck,.slice (some ⟨b,o,none⟩) bs.length cb]:=(U8.out.old HB4.out).grown hQ.out.1 (by simp;omega);have x2:wk.cell? ⟨w.heap.size,2,none⟩=some (.slice (some ⟨b,o,none⟩) bs.length cb):=kA.cell 2;have HKk:=zH kA;have HBk:=zH (And.intro BO Uh);clear hpc hx kA BO Uh;go_upto_region 14 with(first|(refine aX qC rfl _ rfl rfl JF qw X8 ?_)|(refine ae (dE qC.1) rfl _ _ rfl rfl JF rfl (Bk.new _ _ _) qw rfl (CK.one X7) ?_;intro W5 p5;go_frame))
       obtain⟨x4,x5,x6,x7,rfl,i4,i5,i6,i7⟩:=X7;have xI:Below wk.heap.size wk W5:=p5.below _ _ (ba _ _) zL;have hzz:wk.heap.size<W5.heap.size:=p5.bk.lt;obtain⟨sx,hsx⟩:∃z,bs[x]=z:=⟨_,rfl⟩
       have hgs:iw bs x=sx:=(vI hxl).trans hsx;rw[hsx]at i4 i5 i6 p5;obtain⟨A6,c6,rfl⟩:=i6.form;obtain⟨A4,c4,rfl⟩:=i4.form;have Jd:=zH (And.intro hgs (And.intro (i4.keep (.old xI)) (And.intro (i6.keep (.old xI)) xI)));have Ci:=zH p5.bk;have zAd:Below V2.heap.size V2 W5:=HBk.out.1.trans (xI.mono HBk.out.1.size);have kE:Bk W5 wl.heap.size 55 #[.int .i64 (lD:Nat),.slice Ag en.cs.length cg,.slice Au en.bars.length cu]:=iy.out.2.2.1.old zAd;have HCS:=zH (iy.out.1.keep (.old zAd));have y1:W5.cell? ⟨wk.heap.size,1,none⟩=some (.int .i64 sx.type):=Ci.out.cell 1;have y6:W5.cell? ⟨wk.heap.size,6,none⟩=some (.slice A6 sx.gs.length c6):=Ci.out.cell 6;have e1:W5.cell? ⟨wl.heap.size,1,none⟩=some (.slice Ag en.cs.length cg):=kE.cell 1;obtain⟨ng,RZ⟩:∃z,sx.gs.length=z:=⟨_,rfl⟩
       obtain⟨nc,hnc⟩:∃z,en.cs.length=z:=⟨_,rfl⟩
       rw[RZ]at y6;rw[hnc]at e1;have Po:=zH (And.intro RZ hnc);clear hsx hgs i4 i5 i6 i7 p5 X8 Gq x2 qw xI zAd kE RZ hnc
       refine wx (fun k=>k==9) [.is (.pointer (some ⟨wk.heap.size,1,none⟩)),.is (.int .i64 sx.type),.is (.pointer (some ⟨wk.heap.size,6,none⟩)),.is (.slice A6 ng c6),sS (zo ng (Nd d (fun q=>W5.heap.size<=q) sx.gs) fun A c=>.slice A ng c),.is (.pointer (some ⟨wl.heap.size,1,none⟩)),.is (.slice Ag nc cg),sS (zo nc (Nd d (fun q=>W5.heap.size<=q) en.cs) fun A c=>.slice A nc c),
        .st (fun v w=>∃A c A2 c2,v=.agg #[.int .i64 1,.int .i64 sx.type,.slice A ng c,.slice A2 nc c2]/\Nd d (fun q=>W5.heap.size<=q) sx.gs (.slice A ng c) w/\Nd d (fun q=>W5.heap.size<=q) en.cs (.slice A2 nc c2) w) (fun _ _ _ hb ⟨A,c,A2,c2,h1,h2,h3⟩=>⟨A,c,A2,c2,h1,h2.keep (.old hb),h3.keep (.old hb)⟩),
        .st (fun v w=>∃g,v=.pointer (some ⟨g,0,none⟩)/\W5.heap.size<=g/\Bk w g 31 #[.int .i64 0,.int .i64 0,.slice none 0 0,.slice none 0 0]) (fun _ _ _ hb ⟨g,h1,h0,h2⟩=>⟨g,h1,h0,h2.old hb⟩)] [4,7,8,9] (by kernel_rfl) (by kernel_rfl) (by kernel_rfl)
        (fun C=>.c (px C rfl (fun _ _=>rfl)) <| .c (px C rfl (fun _ h=>bW (lJ (bc h y1)))) <| .c (px C rfl (fun _ _=>rfl)) <| .c (px C rfl (fun _ h=>bW (mM (bc h y6)))) <|
         .c (pz [3] [] (by kernel_rfl) fun qK qa wr hB qO qF hK=>?_) <| .c (px C rfl (fun _ _=>rfl)) <| .c (px C rfl (fun _ h=>bW (mM (bc h e1)))) <| .c (pz [6] [] (by kernel_rfl) fun qK qa wr hB qO qF hK=>?_) <|
         .c (pz [1,4,7] [] (by kernel_rfl) fun qK qa wr hB qO qF hK=>?_) <| .c (pf [] [] (by kernel_rfl) fun qK qa wr hB qO qF hK=>?_) .nil) ?_
       ·have e58:=ay qF.1 rfl rfl;clear qO qF;go_simp
        go_at_call 18
        have hh:=Jd.out.2.2.1.keep (.old hB);rw[Po.out.1]at hh;refine(zt hh).mono ?_;rintro e w2 ⟨A,c,rfl,h1,h2⟩;rw[Po.out.1]at h1⊢;exact hK _ _ h2 ⟨A,c,rfl,h1.keep fun q hq hlt=>⟨Nat.le_trans hB.size hq,hlt,rfl⟩⟩
       ·have e61:=ay qF.1 rfl rfl;clear qO qF;go_simp
        go_at_call 18
        have hh:=HCS.out.keep (.old hB);rw[Po.out.2]at hh;refine(zt hh).mono ?_;rintro e w2 ⟨A,c,rfl,h1,h2⟩;rw[Po.out.2]at h1⊢;exact hK _ _ h2 ⟨A,c,rfl,h1.keep fun q hq hlt=>⟨Nat.le_trans hB.size hq,hlt,rfl⟩⟩
       ·have e56:=ay qF.1 rfl rfl;obtain⟨u59,e59,A,c,rfl,h1⟩:=qF.2.1;obtain⟨u62,e62,A2,c2,rfl,h2⟩:=qF.2.2.1;have e59:qa.tmps[59]? =some (.slice A ng c):=e59;have e62:qa.tmps[62]? =some (.slice A2 nc c2):=e62;clear qO qF;go_simp;exact hK _ _ zR ⟨A,c,A2,c2,rfl,h1,h2⟩
       ·clear qO qF;go_simp;exact hK _ _ (ba _ _) ⟨_,rfl,hB.size,Bk.new _ _ _⟩ ⟨_,rfl,by simp,by simp⟩
       intro qx w6 Xe hR hS;obtain⟨Py,Pz,Ac6,cc6,r8,n1,n2⟩:=hR 8 rfl rfl;obtain⟨g13,r9,zAe,k13⟩:=hR 9 rfl rfl;clear hR hS;simp only[bJ,List.length,List.take,List.drop,List.toList_toArray]
       go_frame
       generalize qx 9=z9 at r9⊢;generalize qx 8=z8 at r8⊢;subst r9 r8;go_upto_region 15 with(refine ae (dE nC.1) rfl _ _ rfl rfl [.int .i64 (1:Nat),.int .i64 sx.type,.slice Py ng Pz,.slice Ac6 nc cc6] rfl k13 rfl rfl rfl ?_;intro W6 p6;go_frame)
       have zAf:Below W5.heap.size W5 W6:=p6.below _ _ Xe zAe;have Vy:=zH (And.intro ((n1.off k13 (by decide)).keep (fE.jC p6 fun b hb=>hb.2)) ((n2.off k13 (by decide)).keep (fE.jC p6 fun b hb=>hb.2)));have y2:W6.cell? ⟨wk.heap.size,2,none⟩=some (.bool sx.many):=(Ci.out.old zAf).cell 2;have z0:=p6.bk.cell 0;have zf:=p6.bk.frozen 0;have JG:=zH (And.intro p6.bk zAf);obtain⟨fm,hfm⟩:∃z:Nat,(if sx.many then 2 else 1)=z:=⟨_,rfl⟩
       have HFM:=zH hfm;obtain⟨mb,hmb⟩:∃z,sx.many=z:=⟨_,rfl⟩
       rw[hmb]at y2 hfm;have L8:=p6.bk.lt;clear p6 hmb n1 n2 k13 Xe zAf y1 y6 e1;go_upto_if 65 with fail
       go_cut[] (fun wx=>Hid (Below W5.heap.size W5 wx/\Bk wx g13 31 #[.int .i64 (fm:Nat),.int .i64 sx.type,.slice Py ng Pz,.slice Ac6 nc cc6]/\Nd d (fun q=>W5.heap.size<=q/\q≠g13) sx.gs (.slice Py ng Pz) wx/\Nd d (fun q=>W5.heap.size<=q/\q≠g13) en.cs (.slice Ac6 nc cc6) wx))
       case first=>
        cases mb
        ·have h1:fm=1:=by rw[<-hfm];rfl
         subst h1;go_wp2_with fail
         go_meet
         exact zH ⟨JG.out.2,JG.out.1,Vy.out.1,Vy.out.2⟩
        ·have h1:fm=2:=by rw[<-hfm];rfl
         subst h1;go_wp2_with fail
         go_meet
         exact zH ⟨JG.out.2.setCell zAe _,JG.out.1.put 0 _,Vy.out.1.keep (fE.set fun b hb=>⟨hb,hb.2⟩),Vy.out.2.keep (fE.set fun b hb=>⟨hb,hb.2⟩)⟩
       case rest=>
       have BR:=zH hcut.out;obtain⟨W7,rfl⟩:∃z:World,z=wc:=⟨_,rfl⟩
       clear z0 zf y2 hfm hcut JG Vy;have hz7:=BR.out.1.size;obtain⟨NX,hNX⟩:∃z,uf bs en.cs (P.drop (q+1))=z:=⟨_,rfl⟩
       have En:=zH hNX;go_upto_if 71 with fail
       go_cut[] (fun wx=>∃(A:Option Addr) (c:Nat),Hid (Below W5.heap.size W5 wx/\Bk wx g13 31 #[.int .i64 (fm:Nat),.int .i64 sx.type,.slice Py ng Pz,.slice A NX.length c]/\Nd d (fun q=>W5.heap.size<=q/\q≠g13) sx.gs (.slice Py ng Pz) wx/\Nd d (fun q=>W5.heap.size<=q/\q≠g13) NX (.slice A NX.length c) wx))
       case first=>
        by_cases hl1:q+1<np
        ·have hl2:(q:Int)+1<(np:Int):=by omega
         have hqP1:q+1<P.length:=by rw[HP.out.2.2.2];exact hl1
         have hqi1:q+1<(ints P).length:=by rw[HP.out.2.2.1];exact hl1
         have zAg:Below wk.heap.size wk W7:=Jd.out.2.2.2.trans (BR.out.1.mono (by omega));have hBl7:Below wl.heap.size wl W7:=HBk.out.2.trans (zAg.mono HBk.out.2.size);obtain⟨pg2,po2,pcs2,zAh,_,_,hpp2,hpc2⟩:=((Ut.out.keep (fE.fJ (S:=fun b=>V3.heap.size<=b) hQ.out.1 fun b hb=>by omega)).old zAg).elem hqi1;injection zAh with zAh
         injection zAh with e1 e2
         subst e1 e2;obtain rfl:=hpp2;have zAi:=hpc2 0 _ rfl;rw[Af hqi1,Nat.mul_one,Nat.add_zero]at zAi;have hyk:=HP.out.2.1 _ (List.getElem_mem hqP1);obtain⟨y,hy⟩:∃z,P[q+1]=z:=⟨_,rfl⟩
         rw[hy]at zAi hyk;have hyl:y<bs.length:=by omega
         have hyi:(y:Int)<(bs.length:Int):=by omega
         have zAj:NX=(bs[y]).lv:=by rw[<-hNX,zZ bs en.cs hqP1,hy,vI hyl]
         obtain⟨b8,o8,cs8,hA8,_,hb8,hP8,hc8⟩:=((HR0.out.keep (fE.fJ hJ.out.2.1 fun b hb=>by omega)).old hBl7).elem hyl;injection hA8 with hA8
         injection hA8 with e1 e2
         subst e1 e2;have x27:W7.cell? ⟨w.heap.size,2,none⟩=some (.slice (some ⟨b,o,none⟩) bs.length cb):=(HKk.out.old zAg).cell 2;obtain⟨u4,u5,u6,u7,rfl,_,j5,_,_⟩:=hP8;obtain⟨A5,c5,rfl⟩:=j5.form;rw[<-zAj]at j5;have x5:=hc8 5 _ rfl;rw[<-zAj]at x5;have HJ5:=zH j5;clear hpc2 hc8 j5 zAj hNX hy;go_upto_region 18 with fail
         refine wx (fun k=>false) [.is (.pointer (some ⟨w.heap.size,2,none⟩)),.is (.slice (some ⟨b,o,none⟩) bs.length cb),.is (.slice (some ⟨pg,po,none⟩) np cp4),.is (.int .i64 (q:Nat)),.is (.int .i64 ((q+1:Nat):Int)),.is (.pointer (some ⟨pg,po+(q+1),none⟩)),.is (.int .i64 (y:Nat))] [4,5] (by kernel_rfl) (by kernel_rfl) (by kernel_rfl)
          (fun C=>.c (px C rfl (fun _ _=>rfl)) <| .c (px C rfl (fun _ h=>bW (XU (bc h x27)))) <| .c (px C rfl (fun _ _=>rfl)) <| .c (px C rfl (fun _ _=>rfl)) <|
           .c (pz [3] [] (by kernel_rfl) fun qK qa wr hB qO qF hK=>?_) <| .c (pz [2,4] [] (by kernel_rfl) fun qK qa wr hB qO qF hK=>?_) <| .c (px C rfl (fun _ h=>bW (lJ (bc h zAi)))) .nil) ?_
         ·have e75:=ay qF.1 rfl rfl;clear qO qF;go_simp;exact hK _ _ zR (by show(_:Value)=_;first|rfl|(simp;done)|(simp;omega)|(rw[IntWalk.i64_in _ ⟨by omega,by omega⟩];simp)|(simp;rw[IntWalk.i64_in _ ⟨by omega,by omega⟩]))
         ·have e74:=ay qF.1 rfl rfl;have e76:=ay qF.2.1 rfl rfl;clear qO qF;go_simp;exact hK _ _ zR (by show(_:Value)=_;simp)
         intro qx w8 hB8 hR hS;clear hR hS;simp only[bJ,List.length,List.take,List.drop,List.toList_toArray]
         go_frame
         have x58:=bc hB8 x5;clear x5;go_wp2_with fail
         refine(zt (HJ5.out.keep (.old hB8))).mono ?_;rintro e w9 ⟨A9,c9,rfl,h9,dO⟩;have WV:Below W7.heap.size W7 w9:=hB8.trans (dO.mono hB8.size);have k9:=BR.out.2.1.old WV;have f9:=k9.frozen 3;have z9:=k9.cell 3;have hgl:=BR.out.2.1.lt;have hz8:=hB8.size;have HN9:=zH (And.intro (BR.out.2.2.1.keep (.old WV)) (And.intro h9 (BR.out.1.trans (WV.mono hz7))));clear h9 WV dO x58;go_wp2_with fail
         go_meet
         exact⟨A9,c9,zH ⟨HN9.out.2.2.setCell zAe _,k9.put 3 _,HN9.out.1.keep (fE.set fun b hb=>⟨hb,hb.2⟩),HN9.out.2.1.keep (fE.set fun b hb=>⟨⟨by omega,by show b≠g13;omega⟩,by show b≠g13;omega⟩)⟩⟩
        ·have hl2:¬(q:Int)+1<(np:Int):=by omega
         have hN:NX=en.cs:=by
          rw[<-hNX,List.drop_eq_nil_of_le (by rw[HP.out.2.2.2];omega)];rfl
         go_wp2_with fail
         go_meet
         refine⟨Ac6,cc6,zH ⟨BR.out.1,?_,BR.out.2.2.1,?_⟩⟩
         ·rw[hN,Po.out.2];exact BR.out.2.1
         ·rw[hN,Po.out.2];exact BR.out.2.2.2
       case rest=>
       obtain⟨An,cn,UE⟩:=hcut;obtain⟨W8,rfl⟩:∃z:World,z=wc:=⟨_,rfl⟩
       have hz8:=UE.out.1.size;have WW:Below wk.heap.size wk W8:=Jd.out.2.2.2.trans (UE.out.1.mono (by omega));have HQ8:=zH (And.intro (hQ.out.2.1.old WW) (And.intro (hQ.out.2.2.old WW) (And.intro (Jd.out.2.1.keep (.old UE.out.1)) WW)));have x0:W8.cell? ⟨V2.heap.size,2,none⟩=some (.slice Ax xs.length cx):=HQ8.out.1.cell 2;have X9:W8.cell? ⟨wk.heap.size,4,none⟩=some (.slice A4 sx.bars.length c4):=(Ci.out.old UE.out.1).cell 4;obtain⟨row,hrow⟩:∃z,(Value.slice Ax xs.length cx).ownBlock=z:=⟨_,rfl⟩
       have hrl:∀g,row=some g->W4.heap.size<=g/\g<wk.heap.size:=fun g h=>hQ.out.2.2.lt (hrow.trans h)
       have hne4:∀b,b<W4.heap.size->some b≠row:=fun b hb e=>by have:=hrl b e.symm;omega
       have O5:∀b,wk.heap.size<=b->some b≠row:=fun b hb e=>by have:=hrl b e.symm;omega
       obtain⟨nx,hnx⟩:∃z,xs.length=z:=⟨_,rfl⟩
       obtain⟨nb,hnb⟩:∃z,sx.bars.length=z:=⟨_,rfl⟩
       have Qk:(ed sx.bars).length=nb:=by rw[<-hnb];simp[ed]
       have hnb1:nb<=1048576:=by rw[<-hnb,<-Jd.out.1];exact(JD.out.get x).2.1
       have hnx1:nx<=100000000:=by
        have h1:=congrArg List.length hX.out;have h2:=lW (bs:=bs) (cl:=en.cs) P fun y _=>(JD.out.get y).2.1
        rw[List.length_append,hnx]at h1;rw[HP.out.2.2.2]at h2;omega
       rw[hnx]at x0 hrow HQ8;rw[hnb]at X9 HQ8
       have HPQ:Hid (∀(w':World) (r2:Option Nat),W8.grownBy w' row->(∀b,b<W8.heap.size->some b≠row->some b≠r2)->Ja d (fun q=>W4.heap.size<=q/\some q≠r2) (nU sx NX) [.int .i64 (fm:Nat),.int .i64 sx.type,.slice Py ng Pz,.slice An NX.length cn] w'):=zH fun w' r2 hg h=>
        have hk:fE (fun q=>W5.heap.size<=q/\q≠g13) (fun q=>W4.heap.size<=q/\some q≠r2) W8 w':=fun b hb hlt=>⟨⟨by omega,h b hlt (O5 b (by omega))⟩,Nat.lt_of_lt_of_le hlt hg.size,hg.block b hlt (O5 b (by omega))⟩
        ⟨.slice Py ng Pz,.slice An NX.length cn,by simp only[nU,HFM.out],UE.out.2.2.1.keep hk,UE.out.2.2.2.keep hk⟩
       have xu:=zH (And.intro hnx Qk);clear hnx hnb Qk hNX WW;go_upto_region 19 with fail
       refine Go.Proofs.Ytbjnhllkdilpfaa.wk (fun k=>k==7) 5 row [.is (.pointer (some ⟨V2.heap.size,2,none⟩)),.is (.slice Ax nx cx),.is (.pointer (some ⟨wk.heap.size,4,none⟩)),.is (.slice A4 nb c4),
        sS (zo nb (Bd (fun b=>W8.heap.size<=b) W8.heap.size 31 4 (Ja d) (ed sx.bars)) fun A c=>.slice A nb c),
        .st (fun v w=>∃A c,v=.slice A (nx+nb) c/\Bd (fun b=>W4.heap.size<=b) W4.heap.size 31 4 (Ja d) (xs++ed sx.bars) (.slice A (nx+nb) c) w/\((Value.slice A (nx+nb) c).ownBlock=row\/∃g,(Value.slice A (nx+nb) c).ownBlock=some g/\W8.heap.size<=g)) (fun _ _ _ hb ⟨A,c,h1,h2,h3⟩=>⟨A,c,h1,h2.old hb,h3⟩),
        .is (.agg #[.int .i64 (fm:Nat),.int .i64 sx.type,.slice Py ng Pz,.slice An NX.length cn]),.st (fun v w=>∃g,v=.slice (some ⟨g,0,none⟩) 1 1/\W8.heap.size<=g/\Bk w g 31 #[.int .i64 (fm:Nat),.int .i64 sx.type,.slice Py ng Pz,.slice An NX.length cn]) (fun _ _ _ hb ⟨g,h1,h0,h2⟩=>⟨g,h1,h0,h2.old hb⟩)] [4,5,6,7] (by kernel_rfl) (by kernel_rfl) (by kernel_rfl)
        (fun C=>.c (ah.x (rG _) C rfl (fun _ _=>rfl)) <| .c (ah.x (rG _) C rfl (fun _ h=>bW (Cc (Ug h (hne4 _ (by omega)) x0)))) <| .c (ah.x (rG _) C rfl (fun _ _=>rfl)) <| .c (ah.x (rG _) C rfl (fun _ h=>bW (Ju (Ug h (O5 _ zL) X9)))) <|
         .c (ah.z (rG _) [3] [] (by kernel_rfl) fun qK qa wr hB qO qF hK=>?_) <| .c (ah.gk [1,4] [] (by kernel_rfl) fun qK qa wr hB qO qF hK=>?_) <| .c (ah.a (rG _) [] [13] (by kernel_rfl) fun qK qa wr hG qO qF hK=>?_) <| .c (ah.kept (rG _) [6] [] (by kernel_rfl) fun qK qa wr hG qO qF hK=>?_) .nil) ?_
       ·have e87:=ay qF.1 rfl rfl;clear qO qF;go_simp
        go_at_call 25
        refine(Xb (HQ8.out.2.2.1.keep (fE.old hB))).mono ?_;rintro e w2 ⟨A,c,rfl,h1,h2⟩;rw[xu.out.2]at h1⊢;exact hK _ _ h2 ⟨A,c,rfl,h1.wide (fun b hb=>Nat.le_trans hB.size hb) hB.size⟩
       ·have e85:=ay qF.1 rfl rfl;obtain⟨u88,e88,A,c,rfl,h1⟩:=qF.2.1;have hBz:=hB.size;refine WU nC.1 (.tmp 85) (.tmp 88) rfl (aK e85) (HQ8.out.2.1.old hB) (aK e88) h1.r (fun b hb hlt=>⟨by omega,by rw[hrow];exact O5 b (by omega)⟩) (by rw[xu.out.1,xu.out.2];omega) (by omega) ?_;intro A' c' w' h3 hg hw;rw[xu.out.1,xu.out.2]at h3 hw⊢;rw[hrow]at hg hw;refine hK _ _ ((below_grown hB row).trans hg) hg.size (fun j hj u hu=>?_) ⟨A',c',rfl,h3,hw.imp id fun e=>⟨_,e,hBz⟩⟩;obtain rfl:j=7:=by simpa using hj
        obtain⟨g,hu1,hu2,hu3⟩:=hu;exact⟨g,hu1,hu2,hu3.grown hg (O5 g (by omega))⟩
       ·exact fQ nC (.tmp 13) rfl (aK (qO.1.trans rfl)) [.int .i64 (fm:Nat),.int .i64 sx.type,.slice Py ng Pz,.slice An NX.length cn] rfl (fun i u hu=>by rw[Nat.zero_add];refine Ug hG (O5 g13 (by omega)) ?_;rw[UE.out.2.1.cell i];simpa using hu) (hK _ zR)
       ·obtain⟨b7,qF⟩:=qF;have e90:=Ee qF.1 rfl rfl;exact Eh nC (.tmp 90) rfl [.int .i64 (fm:Nat),.int .i64 sx.type,.slice Py ng Pz,.slice An NX.length cn] (aK e90) rfl (hK _ _ (ba _ _) ⟨_,rfl,hG.size,Bk.new _ _ _⟩)
       intro qx W9 hG hR;obtain⟨A9,c9,r5,h5,o5⟩:=hR 5 rfl rfl;obtain⟨g7,r7,Xm,k7⟩:=hR 7 rfl rfl;clear hR;simp only[bJ,List.length,List.take,List.drop,List.toList_toArray]
       go_frame
       generalize qx 7=z7 at r7⊢;generalize qx 5=z5 at r5⊢;subst r7 r5;have hz9:=hG.size
       have H9:=zH (And.intro h5 (And.intro (HPQ.out W9 (Value.slice A9 (nx+nb) c9).ownBlock hG (fun b hb hne e=>by
        rcases o5 with h|⟨g,h,hg⟩
        ·exact hne (e.trans h)
        ·rw[h]at e;injection e with e;omega)) (HQ8.out.1.grown hG (hne4 _ (by omega)))))
       have UD:∀g,(Value.slice A9 (nx+nb) c9).ownBlock=some g->W4.heap.size<=g:=fun g h=>(h5.lt h).1
       have Jm:=zH (And.intro UD k7);clear h5 UD o5 k7 x0 X9;go_wp2_with (at_builtin;refine oK nC rfl _ _ rfl rfl H9.out.1 rfl [.int .i64 (fm:Nat),.int .i64 sx.type,.slice Py ng Pz,.slice An NX.length cn] Jm.out.2 (nU sx NX) H9.out.2.1 (by rw[List.length_append,xu.out.1,xu.out.2];omega) (by omega) ?_;intro y8 c11 Gt h11 Qo vK JI;have k11:=(H9.out.2.2).grown vK (fun e=>by have:=Jm.out.1 _ e.symm;omega);have z11:=k11.cell 2;have f11:=k11.frozen 2)
       have JJ:Below W4.heap.size wk Gt:=(((HQ8.out.2.2.2).mono hzk).grown hG (by omega) (fun g hg=>(hrl g hg).1)).grown vK (by omega) (fun g hg=>Jm.out.1 g hg);have hlen:(xs++ed sx.bars++[nU sx NX]).length=xs.length+(ed sx.bars).length+1:=by simp;omega
       rw[List.length_append]at h11;refine⟨⟨q+1,xs++ed sx.bars++[nU sx NX],y8,c11,by omega,by go_num,zH ?_,zH ⟨nS (fO hQ.out.1 JJ),?_,?_⟩⟩,by simp[intOf];omega⟩
       ·have:=hX.out;rw[yC bs en.cs hqP,HX.out,Jd.out.1,En.out]at this;rw[<-this];simp[List.append_assoc]
       ·rw[hlen];exact k11.put 2 _
       ·rw[hlen];exact h11.set (p:=⟨V2.heap.size,2,none⟩) _ (fun b hb=>by show b≠V2.heap.size;omega) (by show V2.heap.size<W4.heap.size;omega)
      ·obtain rfl:q=np:=by omega
       have hXe:xs=gV bs en.cs P:=by
        have:=hX.out;rw[List.drop_eq_nil_of_le (by rw[HP.out.2.2.2];exact Nat.le_refl _)]at this
        simpa[gV]using this
       subst hXe;obtain⟨nx,hnx⟩:∃z,(gV bs en.cs P).length=z:=⟨_,rfl⟩
       have hnx1:nx<=100000000:=by
        have h2:=lW (bs:=bs) (cl:=en.cs) P fun y _=>(JD.out.get y).2.1
        rw[HP.out.2.2.2,hnx]at h2;omega
       rw[hnx]at hQ;have kE:Bk wk wl.heap.size 55 #[.int .i64 (lD:Nat),.slice Ag en.cs.length cg,.slice Au en.bars.length cu]:=iy.out.2.2.1.old BO;have hnu1:en.bars.length<=1048576:=(JD.out.get k).2.2 en (by rw[HST.out.1,<-Jb.out];exact List.getElem_mem hje);have hU:=iy.out.2.1.keep (.old BO);obtain⟨nu,hnu⟩:∃z,en.bars.length=z:=⟨_,rfl⟩
       have Ql:(ed en.bars).length=nu:=by rw[<-hnu];simp[ed]
       rw[hnu]at kE hnu1 hU;have HU:=zH hU;have JH:=zH (And.intro Ql hnx);have y2:wk.cell? ⟨wl.heap.size,2,none⟩=some (.slice Au nu cu):=kE.cell 2;have x0:wk.cell? ⟨V2.heap.size,2,none⟩=some (.slice Ax nx cx):=hQ.out.2.1.cell 2;have HBk:=zH (And.intro BO Uh);clear hnu Ql hnx kE hU BO Uh;go_upto_region 21 with fail
       refine wx (fun k=>false) [.is (.pointer (some ⟨V2.heap.size,2,none⟩)),.is (.slice Ax nx cx),.is (.pointer (some ⟨wl.heap.size,2,none⟩)),.is (.slice Au nu cu),
        sS (zo nu (Bd (fun b=>wk.heap.size<=b) wk.heap.size 31 4 (Ja d) (ed en.bars)) fun A c=>.slice A nu c)] [4] (by kernel_rfl) (by kernel_rfl) (by kernel_rfl)
        (fun C=>.c (px C rfl (fun _ _=>rfl)) <| .c (px C rfl (fun _ h=>bW (Cc (bc h x0)))) <| .c (px C rfl (fun _ _=>rfl)) <| .c (px C rfl (fun _ h=>bW (Ju (bc h y2)))) <|
         .c (pz [3] [] (by kernel_rfl) fun qK qa wr hB qO qF hK=>?_) .nil) ?_
       ·have e98:=ay qF.1 rfl rfl;clear qO qF;go_simp
        go_at_call 25
        refine(Xb (HU.out.keep (fE.old hB))).mono ?_;rintro e w2 ⟨A,c,rfl,h1,h2⟩;rw[JH.out.1]at h1⊢;exact hK _ _ h2 ⟨A,c,rfl,h1.wide (fun b hb=>Nat.le_trans hB.size hb) hB.size⟩
       intro qx w5 Uu hR hS;obtain⟨A5,c5,r4,h5⟩:=hR 4 rfl rfl;clear hR hS;simp only[bJ,List.length,List.take,List.drop,List.toList_toArray]
       go_frame
       generalize qx 4=z4 at r4⊢;subst r4;have hz5:=Uu.size;have H5:=zH (And.intro h5.r (And.intro (hQ.out.2.2.old Uu) (And.intro (fun b (hb:(Value.slice Ax nx cx).ownBlock=some b)=>(hQ.out.2.2.lt hb)) (hQ.out.2.1.old Uu))));clear h5 x0 y2;go_upto_region 22 with(at_builtin;refine kL nC.1 rfl _ _ rfl rfl H5.out.2.1 rfl H5.out.1 (fun b hb hlt=>⟨by omega,fun e=>by have:=H5.out.2.2.1 b e.symm;omega⟩) (by rw[JH.out.1,JH.out.2];omega) (by omega) ?_;intro A9 c9 w9 h9 uC jG;have Pe:=H5.out.2.2.2.grown jG (fun e=>by have:=H5.out.2.2.1 _ e.symm;omega);have yb:=Pe.cell 2;have fb:=Pe.frozen 2)
       have NR:Below W4.heap.size wk w9:=uC _ _ zL (by omega) (Uu.mono hzk);have Qm:Below wl.heap.size wl w9:=HBk.out.2.trans (NR.mono (by omega));have lX:=Qm.setCell (p:=⟨V2.heap.size,2,none⟩) (by show wl.heap.size<=V2.heap.size;omega) (.slice A9 (nx+nu) c9);have Qn:=Pe.put 2 (.slice A9 (nx+nu) c9);rw[JH.out.1,JH.out.2]at h9⊢;have hF:=h9.set (p:=⟨V2.heap.size,2,none⟩) (.slice A9 (nx+nu) c9) (fun b hb=>by show b≠V2.heap.size;omega) (by show V2.heap.size<W4.heap.size;omega)
       have HM:Hid (W0.grownBy (w9.setCell ⟨V2.heap.size,2,none⟩ (.slice A9 (nx+nu) c9)) (some g3)/\Bk (w9.setCell ⟨V2.heap.size,2,none⟩ (.slice A9 (nx+nu) c9)) g3 25 #[.int .i64 aC,.slice A3 ks.length c3,v]/\Bd (fun q=>W0.heap.size<=q) W0.heap.size 28 3 (uB d) (ik bs k j) v (w9.setCell ⟨V2.heap.size,2,none⟩ (.slice A9 (nx+nu) c9))/\Bk (w9.setCell ⟨V2.heap.size,2,none⟩ (.slice A9 (nx+nu) c9)) wo.heap.size 44 #[.int .i64 st.parent,.int .i64 st.type,.bool st.many,.int .i64 st.window,v4,v5,v6,.slice (some ⟨b2,o2,none⟩) m cp]/\Bk (w9.setCell ⟨V2.heap.size,2,none⟩ (.slice A9 (nx+nu) c9)) V2.heap.size 28 #[.int .i64 (lD:Nat),.int .i64 st.window,.slice A9 (nx+nu) c9]/\Below wl.heap.size wl (w9.setCell ⟨V2.heap.size,2,none⟩ (.slice A9 (nx+nu) c9))):=zH
        ⟨fO hJ.out.2.1 (lX.mono (by omega)),hJ.out.2.2.1.old lX,hJ.out.2.2.2.1.old lX,hJ.out.2.2.2.2.old lX,Qn,lX⟩
       have HF:=zH hF;obtain⟨Av,cv,hv,_⟩:=hJ.out.2.2.2.1.form
       have hLn:(ik bs k j).length<=100000000:=by
        have h1:=vJ (bs:=bs) (fun i=>(JD.out.get i).1) k;have h2:=(JD.out.get k).1;have h3:k<32:=Nat.lt_of_lt_of_le hlt nP.out.2.1;simp[ik];omega
       obtain⟨nL,Uw⟩:∃z,(ik bs k j).length=z:=⟨_,rfl⟩
       rw[Uw]at hLn hv;subst hv;have hz10:=lX.size;have hvl:∀q,(Value.slice Av nL cv).ownBlock=some q->W0.heap.size<=q/\q<wl.heap.size:=fun q hq=>hJ.out.2.2.2.1.lt hq
       clear h9 uC jG Pe yb fb NR Qm lX Qn hF H5 hQ hX;generalize w9.setCell ⟨V2.heap.size,2,none⟩ (.slice A9 (nx+nu) c9)=Yd at *;have hV2W:=HM.out.2.2.2.2.1.lt;have z2:=HM.out.2.1.cell 2;have Eo:=zH (And.intro Uw hvl);clear Uw hvl;obtain⟨BT,Ye⟩:∃z:bQ,(⟨lD,st.window,gV bs en.cs P++ed en.bars⟩:bQ)=z:=⟨_,rfl⟩
       have hBP:∀o,uB d (fun q=>(W0.heap.size<=q)/\some q≠(Value.slice Av nL cv).ownBlock) BT [.int .i64 (lD:Nat),.int .i64 st.window,.slice A9 (nx+nu) c9] (Yd.alloc o):=fun o=>by
        rw[<-Ye];exact⟨_,rfl,(HF.out.Ur (S:=fun q=>(W0.heap.size<=q)/\some q≠(Value.slice Av nL cv).ownBlock) (fun b hb _=>⟨by omega,fun e=>by have:=(Eo.out.2 b e.symm).2;omega⟩) (fun b hb _=>⟨by omega,fun e=>by have:=Eo.out.2 b e.symm;omega⟩) (by rw[List.length_append,JH.out.1,JH.out.2];omega)).keep (.old (ba _ _))⟩
       have Yf:=zH (And.intro Ye hBP);clear Ye hBP
       go_wp2_with (first|(refine aX dH rfl _ rfl rfl [.int .i64 (lD:Nat),.int .i64 st.window,.slice A9 (nx+nu) c9] rfl (fun i v hv=>by rw[Nat.zero_add,HM.out.2.2.2.2.1.cell i];simpa using hv) ?_)|(refine iE dH rfl _ rfl [.int .i64 (lD:Nat),.int .i64 st.window,.slice A9 (nx+nu) c9] rfl rfl ?_)|
        (at_builtin;refine oK dH rfl _ _ rfl rfl (HM.out.2.2.1.old (ba _ _)) rfl [.int .i64 (lD:Nat),.int .i64 st.window,.slice A9 (nx+nu) c9] (Bk.new _ _ _) BT (Yf.out.2 _) (by rw[Eo.out.1];omega) (by simp;omega) ?_;intro y8 c11 Gt h11 Qo vK JI;rw[Eo.out.1]at h11 JI⊢;have k11:=(HM.out.2.1.alloc _).grown vK (HM.out.2.2.1.ne HM.out.2.1 (by decide));have z11:=k11.cell 2;have f11:=k11.frozen 2))
       have JJ:Below W0.heap.size Yd Gt:=Qo _ _ zL (by simp;omega) ((ba _ _).mono (by omega));have kS:=((HM.out.2.2.2.1.alloc _).grown vK (HM.out.2.2.1.ne HM.out.2.2.2.1 (by decide))).far (p:=⟨g3,2,none⟩) (by show wo.heap.size≠g3;omega) (.slice y8 (nL+1) c11);have hF11:=h11.set (p:=⟨g3,2,none⟩) (.slice y8 (nL+1) c11) (fun b hb=>by show b≠g3;omega) hgW;have hgz:=vK.size;have hz9:=HM.out.2.2.2.2.2.size
       have hdone:ik bs k (j+1)=ik bs k j++[BT]:=by
        have hS:iw bs k=st:=HST.out.1;have hj2:j<(iw bs k).ends.length:=by rw[hS];exact hje
        have he:(iw bs k).ends[j]=en:=by
         have:=Jb.out;simp only[hS];exact this
        have hbr:Gj bs k en=BT:=by
         rw[<-Yf.out.1];unfold Gj;rw[hS,HP.out.1,Jc.out];rfl
        rw[Ad bs k hj2,he,hbr]
       exact⟨⟨j+1,_,hjl,by go_num,zH ⟨by simp at hgz⊢;omega,nS (fO HM.out.1 JJ),k11.put 2 _,by rw[hdone];exact hF11,kS⟩⟩,by simp[intOf];omega⟩
    ·obtain rfl:j=m:=by omega
     go_wp2_with fail
     have hN1:Hid (W0.grownBy wl (some g3)/\Bk wl g3 25 #[.int .i64 aC,.slice A3 ks.length c3,v]/\Bd (fun q=>W0.heap.size<=q) W0.heap.size 28 3 (uB d) (zu bs (k+1)) v wl):=zH ⟨hJ.out.2.1,hJ.out.2.2.1,by
      have h1:=hJ.out.2.2.2.1;have h2:=xH bs k;rw[HST.out.1,HM.out]at h2;rw[h2]at h1
      exact h1⟩
     refine⟨?_,by simp[intOf];omega⟩
     repeat apply Exists.intro
     refine⟨?_,rfl⟩;exact⟨k+1,v,hlt,by go_num,hN1⟩
  ·obtain rfl:k=bs.length:=by omega
   obtain⟨Av,cv,rfl,_⟩:=hI.out.2.2.form
   have hul:(zu bs bs.length).length<=1000000000000:=by
    have h1:=vJ (bs:=bs) (fun i=>(JD.out.get i).1) bs.length;have h2:=nP.out.2.1;omega
   have HT:=zH (sortB hI.out.2.2 hul HID.out);have z2:=hI.out.2.1.cell 2;go_wp2_with fail
   refine HT.out.mono ?_;rintro e w5 ⟨rfl,h5,hg5⟩;have k3:=hI.out.2.1.grown hg5 (hI.out.2.2.ne hI.out.2.1 (by decide));have hown:∀q,(Value.slice Av (zu bs bs.length).length cv).ownBlock=some q->W0.heap.size<=q:=fun q hq=>(hI.out.2.2.lt hq).1
   have k2:=(xh.out.2.1.grown hI.out.1 (by simp;omega)).grown hg5 (fun e=>by have:=hown _ e.symm;omega);have hz5:=hg5.size;have H5:=zH (And.intro k3 (And.intro h5 (And.intro hown hg5)));clear k3 h5 hown hg5 HT z2
   go_wp2_with (first|(refine iG mQ Qi rfl (.tmp 3) rfl rfl [.int .i64 aC,.slice A3 ks.length c3,.slice Av (zu bs bs.length).length cv] rfl (fun i v hv=>by rw[Nat.zero_add,H5.out.1.cell i];simpa using hv) ?_)|
    (refine ae mQ rfl _ _ rfl rfl [.int .i64 aC,.slice A3 ks.length c3,.slice Av (zu bs bs.length).length cv] rfl k2 rfl rfl rfl ?_;intro w9 p9;have y0:=p9.bk.cell 0;have y1:=p9.bk.cell 1;have y2:=p9.bk.cell 2))
   refine bodyPost_ret (v:=.agg #[.int .i64 aC,.slice A3 ks.length c3,.slice Av (zu bs bs.length).length cv]) (by simp[results,Try.results15,go_sem,y0,y1,y2]) rfl ?_;have hz0:=HB0.out.size;refine⟨[_,_,_],rfl,⟨_,_,rfl,?_,?_⟩,p9.below _ _ ((HB0.out.grown hI.out.1 HB0.out.size fun k hk=>by injection hk with hk;omega).grown H5.out.2.2.2 (by omega) fun k hk=>by have:=H5.out.2.2.1 k hk;omega) (by omega)⟩
   ·refine(xh.out.2.2.lo.keep (S':=fun q=>w0.heap.size<=q) fun b hb hlt=>⟨hb.1.1,?_,?_⟩).keep (S':=fun q=>w.heap.size<=q) fun b hb hlt=>⟨by omega,by rw[p9.size];exact hlt,p9.other b (by omega)⟩
    ·have:=hI.out.1.size;omega
    ·exact(H5.out.2.2.2.block b (by have:=hI.out.1.size;omega) (fun e=>by have:=H5.out.2.2.1 b e.symm;omega)).trans (hI.out.1.block b hlt hb.1.2)
   ·exact((H5.out.2.1.Ur (S:=fun q=>W0.heap.size<=q) (fun b hb _=>hb) (fun b hb _=>hb) (by rw[uF];exact hul)).keep (fE.jC p9 fun b hb=>by omega)).keep fun b hb hlt=>⟨by omega,hlt,rfl⟩
end
end Go.Proofs.Ytbjnhllkdilpfaa
