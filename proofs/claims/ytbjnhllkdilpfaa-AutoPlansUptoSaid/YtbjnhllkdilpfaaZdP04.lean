/- Part 4 of the proof. No conditions. -/
import Derived.Test.YtbjnhllkdilpfaaZc45
namespace Go.Proofs.Ytbjnhllkdilpfaa
open Go.RowKit
set_option maxRecDepth 100000
set_option maxHeartbeats 16000000
set_option linter.unusedVariables false
set_option linter.unusedSimpArgs false
def yX (aC:Int) (ks:List Int) (bs:List bQ):yx×Int:=
 match wY bs []with
 |none=>(⟨0,[],[]⟩,4)
 |some dF=>(⟨aC,ks,dF⟩,0)
theorem Bd.kept {α:Type} {n:Nat} {P:(Nat->Prop)->α->List Value->World->Prop} [CK n P] {S S':Nat->Prop} {base t:Nat} {xs:List α} {v:Value} {w w':World} {row:Option Nat} (h:Bd S base t n P xs v w) (hg:w.grownBy w' row) (hne:v.ownBlock=none\/v.ownBlock≠row) (hS:∀b,S b->some b≠v.ownBlock->b<w.heap.size->S' b/\some b≠row):Bd S' base t n P xs v w':=by
 obtain⟨ps,h1,h2,h3⟩:=h;exact⟨ps,h1,h2.kept hg hne,fun p hp=>CK.keep (fun b hb hlt=>⟨⟨(hS b hb.1 hb.2 hlt).1,hb.2⟩,Nat.lt_of_lt_of_le hlt hg.size,hg.block b hlt (hS b hb.1 hb.2 hlt).2⟩) (h3 p hp)⟩
theorem Bd.apart {α β:Type} {n m:Nat} {P:(Nat->Prop)->α->List Value->World->Prop} {P':(Nat->Prop)->β->List Value->World->Prop} [CK n P] [CK m P'] {S S':Nat->Prop} {base base' t t':Nat} {xs:List α} {ys:List β} {v v':Value} {w:World} (h:Bd S base t n P xs v w) (h':Bd S' base' t' m P' ys v' w) (hne:t≠t'):v.ownBlock=none\/v.ownBlock≠v'.ownBlock:=by
 obtain⟨ps,h1,h2,h3⟩:=h;obtain⟨qs,h4,h5,h6⟩:=h';exact own_ne h2 h5 hne
theorem zB5 {β:Type} {n:Nat} (f:β->List Value):∀(l:List β) (hf:∀a∈l,(f a).length=n) (i:Nat) (hi:i<l.length) (z:β) (j:Nat) (u:Value),f z=(f l[i]).set j u->j<n->(l.set i z).flatMap f=(l.flatMap f).set (i*n+j) u
 |a::l,hf,0,_,z,j,u,hz,hj=>by
  have ha:=hf a (by simp);have hz:f z=(f a).set j u:=hz;rw[List.set_cons_zero,List.flatMap_cons,List.flatMap_cons,hz,Nat.zero_mul,Nat.zero_add,List.set_append_left _ _ (by omega)]
 |a::l,hf,i+1,hi,z,j,u,hz,hj=>by
  have ha:=hf a (by simp);have ih:=zB5 f l (fun b hb=>hf b (by simp[hb])) i (by simpa using hi) z j u (by simpa using hz) hj;rw[List.set_cons_succ,List.flatMap_cons,List.flatMap_cons,ih,List.set_append_right _ _ (by rw[ha,Nat.succ_mul];omega),ha,show(i+1)*n+j-n=i*n+j by rw[Nat.succ_mul];omega]
theorem Bd.VX {α : Type} {n : Nat} {P : (Nat → Prop) → α → List Value → World → Prop} [CK n P] {S : Nat → Prop} {base t : Nat} {xs : List α} {g len c : Nat} {w : World} (h : Bd S base t n P xs (.slice (some ⟨g, 0, none⟩) len c) w) {k : Nat} (hk : k < xs.length) {j : Nat} (hj : j < n) (u : Value) (hu : u.oneCell' = true) :
  ∃cs,P (fun q=>S q/\q≠g) xs[k] cs w/\(∀i v,cs[i]? =some v->w.cell? ⟨g,k*n+i,none⟩=some v)/\∀e,P (fun q=>S q/\q≠g) e (cs.set j u) w->Bd S base t n P (xs.set k e) (.slice (some ⟨g,0,none⟩) len c) (w.setCell ⟨g,k*n+j,none⟩ u):=by
 obtain⟨ps,rfl,h2,h3⟩:=h;rw[List.length_map]at hk;have hl:∀p∈ps,(Prod.snd p).length=n:=fun p hp=>CK.len (h3 p hp)
 have hm:=h3 _ (List.getElem_mem hk);have hS:∀b,(S b/\some b≠(Value.slice (some ⟨g,0,none⟩) len c).ownBlock)<->(S b/\b≠g):=fun b=>⟨fun h=>⟨h.1,fun e=>h.2 (by rw[e];rfl)⟩,fun h=>⟨h.1,fun e=>h.2 (by injection e)⟩⟩
 refine⟨ps[k].2,CK.keep (fun b hb hlt=>⟨(hS b).1 hb,hlt,rfl⟩) (by simpa using hm),fun i v hv=>?_,fun e he=>?_⟩
 ·have hi:i<n:=by rw[<-hl _ (List.getElem_mem hk)];exact(List.getElem?_eq_some_iff.1 hv).1
  have:=h2.cells (g:=g) rfl (k*n+i) v (by rw[zW Prod.snd ps hl k i hk hi];exact hv)
  rwa [L6]at this
 ·have hn:(ps[k].2.set j u).length=n:=by rw[List.length_set];exact hl _ (List.getElem_mem hk)
  have hfl:=zB5 Prod.snd ps hl k hk (e,ps[k].2.set j u) j u rfl hj;have hkb:fE (fun q=>S q/\some q≠(Value.slice (some ⟨g,0,none⟩) len c).ownBlock) (fun q=>S q/\some q≠(Value.slice (some ⟨g,0,none⟩) len c).ownBlock) w (w.setCell ⟨g,k*n+j,none⟩ u):=fE.set fun b hb=>⟨hb,((hS b).1 hb).2⟩
  refine⟨ps.set k (e,ps[k].2.set j u),by rw[List.map_set],?_,fun q hq=>?_⟩
  ·obtain⟨hlen,h0|⟨g',cap,cur,hv,hb,hh,hn1,hn2,hn3,hn4⟩⟩:=h2
   ·have:=h0.2;rw[List.length_map]at this;omega
   ·injection hv with e1 e2 e3
    injection e1 with e1
    injection e1 with e1
    subst e1 e3;have hbk:Bk w g t cur:=hh;rw[List.length_map]at hn1 hn4 hlen e2;subst e2;refine⟨by rw[hfl,List.length_set,List.length_set,List.length_map];exact hlen,.inr ⟨g,c,cur.setIfInBounds (k*n+j) u,by rw[List.length_set,List.length_map],hb,hbk.put _ u,by rw[List.length_set,List.length_map];exact hn1,hn2,by simpa using hn3,?_⟩⟩;rw[hfl,List.length_set,List.length_map,<-hn4];simp only[Array.toList_setIfInBounds];rw[List.take_set]
  ·rcases List.mem_or_eq_of_mem_set hq with hq|rfl
   ·exact CK.keep hkb (h3 q hq)
   ·exact CK.keep hkb (CK.keep (fun b hb hlt=>⟨(hS b).2 hb,hlt,rfl⟩) he)
theorem Bd.zB8 {α:Type} {n:Nat} {P:(Nat->Prop)->α->List Value->World->Prop} [CK n P] {S S2:Nat->Prop} {base t:Nat} {xs:List α} {v:Value} {w:World} (h:Bd S base t n P xs v w) (hS:∀b,S b->S2 b):Bd S2 base t n P xs v w:=h.wide hS zL
theorem zCk (x0 x1 x3:Int) (b:Bool) (A4 A5 A6:Option Addr) (n4 n5 n6 c4 c5 c6:Nat) (w:World):(Instr.build 44 #[(0,.int .i64 x0),(1,.int .i64 x1),(2,.bool b),(3,.int .i64 x3),(4,.slice A4 n4 c4),(5,.slice A5 n5 c5),(6,.slice A6 n6 c6)]).run Try.prog w=.ok (.agg #[.int .i64 x0,.int .i64 x1,.bool b,.int .i64 x3,.slice A4 n4 c4,.slice A5 n5 c5,.slice A6 n6 c6,.slice none 0 0]) w:=by kernel_rfl
theorem zCw {w : World} {o : Oper} {a : Act} {K : Act → World → Prop} {Q : Exit → Act → World → Prop} {x0 x1 x3 : Int} {b : Bool} {A4 A5 A6 : Option Addr} {n4 n5 n6 c4 c5 c6 : Nat} (p0 p1 p2 p3 p4 p5 p6 : Operand) (ho : o.op = .build 44 #[(0, p0), (1, p1), (2, p2), (3, p3), (4, p4), (5, p5), (6, p6)])
  (h0:a.eval p0=.int .i64 x0) (h1:a.eval p1=.int .i64 x1) (h2:a.eval p2=.bool b) (h3:a.eval p3=.int .i64 x3) (h4:a.eval p4=.slice A4 n4 c4) (h5:a.eval p5=.slice A5 n5 c5) (h6:a.eval p6=.slice A6 n6 c6)
  (h:K (a.put o.dst (.agg #[.int .i64 x0,.int .i64 x1,.bool b,.int .i64 x3,.slice A4 n4 c4,.slice A5 n5 c5,.slice A6 n6 c6,.slice none 0 0])) w):o.wp Try.prog a w K Q:=by
 unfold Oper.wp execOp;simp only[ho,List.map_toArray,List.map_cons,List.map_nil,h0,h1,h2,h3,h4,h5,h6,Sem.run_bind,zCk,Result.andThen_ok,Sem.run_pure];exact h
def StQ (d:Nat) (S:Nat->Prop) (s:lh) (cs:List Value) (w:World):Prop:=StP d S s cs w/\(s.ends=[]->cs[7]? =some (.slice none 0 0))
instance (d:Nat):CK 8 (StQ d) where
 pos:=by decide
 keep:=fun hk h=>⟨CK.keep hk h.1,h.2⟩
 len:=fun h=>CK.len h.1
 one:=fun h=>CK.one h.1
theorem Bd.bk {α:Type} {n:Nat} {P:(Nat->Prop)->α->List Value->World->Prop} [CK n P] {S:Nat->Prop} {base t:Nat} {xs:List α} {g len c:Nat} {w:World} (h:Bd S base t n P xs (.slice (some ⟨g,0,none⟩) len c) w):∃cur,Bk w g t cur:=by
 obtain⟨ps,rfl,h2,h3⟩:=h;rcases h2.2 with⟨hv,h0⟩|⟨g',cap,cur,hv,hb,hh,_⟩
 ·cases hv
 ·injection hv with e1
  injection e1 with e1
  injection e1 with e1
  subst e1;exact⟨cur,hh⟩
theorem zCb {l:List lh} {i:Nat} (h:i<l.length) (f:lh->lh):l.modify i f=l.set i (f l[i]):=by
 apply List.ext_getElem?
 intro j;rw[List.getElem?_modify,List.getElem?_set]
 by_cases hij:i=j
 ·subst hij;simp[h]
 ·simp[hij]
structure BdK (d:Nat) (W0 W1:World) (g4 gb:Nat) (aC:Int) (kv:Value) (cb:List Value) (x:BdT) (A A2:Option Addr) (c c2:Nat) (lv:Value) (w:World):Prop where
 sz:W1.heap.size<=w.heap.size
 gr:W0.grownBy w (some g4)
 k4:Bk w g4 34 #[.int .i64 aC,kv,.slice A x.dF.length c]
 kb:Bk w gb 28 cb.toArray
 dF:Bd (fun q=>W0.heap.size<=q/\some q≠(Value.slice A2 x.bars.length c2).ownBlock) W0.heap.size 44 8 (StQ d) x.dF (.slice A x.dF.length c) w
 bar:Bd (fun q=>W0.heap.size<=q/\some q≠(Value.slice A x.dF.length c).ownBlock) W0.heap.size 52 2 (yZ d) x.bars (.slice A2 x.bars.length c2) w
 lvs:Nd d (fun q=>W0.heap.size<=q/\some q≠(Value.slice A x.dF.length c).ownBlock/\some q≠(Value.slice A2 x.bars.length c2).ownBlock) x.lv lv w
 emp:0<=x.parent->(iw x.dF x.parent.toNat).ends=[]
theorem BdK.old {d:Nat} {W0 W1:World} {g4 gb:Nat} {aC:Int} {kv:Value} {cb:List Value} {x:BdT} {A A2:Option Addr} {c c2:Nat} {lv:Value} {w w':World} (h:BdK d W0 W1 g4 gb aC kv cb x A A2 c c2 lv w) (hb:Below w.heap.size w w'):BdK d W0 W1 g4 gb aC kv cb x A A2 c c2 lv w':=
 ⟨Nat.le_trans h.sz hb.size,fO h.gr (hb.mono h.gr.size),h.k4.old hb,h.kb.old hb,h.dF.old hb,h.bar.old hb,h.lvs.keep (.old hb),h.emp⟩
section
set_option maxRecDepth 100000
set_option maxHeartbeats 16000000
theorem zC6 {d:Nat} {S:Nat->Prop} {aC:Int} {ks:List Int} {bs:List bQ} {cs:List Value} {w:World} (h:mP d S aC ks bs cs w):Calls Try.prog 6 #[.agg cs.toArray] w fun e w'=>∃cs':List Value,e=.returned (.tuple #[.agg cs'.toArray,.int .i64 (yX aC ks bs).2])/\qg d (fun q=>w.heap.size<=q) (yX aC ks bs).1.aP (yX aC ks bs).1.keys (yX aC ks bs).1.states cs' w'/\Below w.heap.size w w':=by
 obtain⟨kv,bv,rfl,hk,hb⟩:=h;obtain⟨Ak,ck,rfl⟩:=hk.form;obtain⟨Ab,cb,hbv,hbl,hb⟩:=hb;subst hbv;have HK:=zH hk;have HR:=zH hb.lo;clear hk hb
 go_enter Try.func6,Try.ntmps6
 go_upto_region 1 with fail
 obtain⟨w0,hw0⟩:∃z,(w.alloc (.cells #[.int .i64 aC,.slice Ak ks.length ck,.slice Ab bs.length cb] 25)).alloc (.cells #[.int .i64 0,.slice none 0 0,.slice none 0 0] 34)=z:=⟨_,rfl⟩
 have k1:Bk w0 w.heap.size 25 #[.int .i64 aC,.slice Ak ks.length ck,.slice Ab bs.length cb]:=hw0▸(Bk.new _ _ _).alloc _;have k2:Bk w0 (w.heap.size+1) 34 #[.int .i64 0,.slice none 0 0,.slice none 0 0]:=hw0▸Bk.newAt (by simp) _ _;have hb0:Below w.heap.size w w0:=hw0▸bel2 w _ _;simp only[hw0];clear hw0;have x0:w0.cell? ⟨w.heap.size,0,none⟩=some (.int .i64 aC):=k1.cell 0;have x1:w0.cell? ⟨w.heap.size,1,none⟩=some (.slice Ak ks.length ck):=k1.cell 1
 refine wx (fun k=>k==6) [.is (.pointer (some ⟨w.heap.size,0,none⟩)),.is (.int .i64 aC),.is (.pointer (some ⟨w.heap.size,1,none⟩)),.is (.slice Ak ks.length ck),
  sS (zo ks.length (Bd (fun _=>False) w0.heap.size 3 1 jV ks) fun A c=>.slice A ks.length c),sS (zo ks.length (Bd (fun _=>False) w0.heap.size 3 1 jV ks) fun A c=>.agg #[.int .i64 aC,.slice A ks.length c,.slice none 0 0]),
  .st (fun v w=>∃g,v=.pointer (some ⟨g,0,none⟩)/\w0.heap.size<=g/\Bk w g 34 #[.int .i64 0,.slice none 0 0,.slice none 0 0]) (fun _ _ _ hb ⟨g,h1,h0,h2⟩=>⟨g,h1,h0,h2.old hb⟩)] [4,5,6] (by kernel_rfl) (by kernel_rfl) (by kernel_rfl)
  (fun C=>.c (px C rfl (fun _ _=>rfl)) <| .c (px C rfl (fun _ h=>bW (lJ (bc h x0)))) <| .c (px C rfl (fun _ _=>rfl)) <| .c (px C rfl (fun _ h=>bW (Eg (bc h x1)))) <|
   .c (pz [3] [] (by kernel_rfl) fun qK qa wr hB qO qF hK=>?_) <| .c (pz [1,4] [] (by kernel_rfl) fun qK qa wr hB qO qF hK=>?_) <| .c (pf [] [] (by kernel_rfl) fun qK qa wr hB qO qF hK=>?_) .nil) ?_
 ·exact zq (.tmp 16) rfl (aK (ay qF.1 rfl rfl)) ((HK.out.keep (.old hb0)).keep (.old hB)) fun A c w' h1 h2=>hK _ _ h2 ⟨A,c,rfl,h1.NH hB.size⟩
 ·have e14:=ay qF.1 rfl rfl;obtain⟨u17,e17,A,c,rfl,hn⟩:=qF.2.1;have e17:qa.tmps[17]? =some (.slice A ks.length c):=e17;clear qO qF;go_simp;exact hK _ _ zR ⟨A,c,rfl,hn⟩
 ·clear qO qF;go_simp;exact hK _ _ (ba _ _) ⟨_,rfl,hB.size,Bk.new _ _ _⟩ ⟨_,rfl,by simp,by simp⟩
 intro qx wr hB hR hS;obtain⟨A3,c3,r5,n5⟩:=hR 5 rfl rfl;obtain⟨g4,r6,hg4,k4⟩:=hR 6 rfl rfl;clear hR hS;simp only[bJ,List.length,List.take,List.drop,List.toList_toArray]
 go_frame
 generalize qx 6=z6 at r6⊢;generalize qx 5=z5 at r5⊢;subst r6 r5;go_upto_region 2 with(refine ae iY rfl _ _ rfl rfl [.int .i64 aC,.slice A3 ks.length c3,.slice none 0 0] rfl k4 rfl rfl rfl ?_;intro W0 p0;go_frame)
 have hz0:=p0.size;have hzb:=hB.size;have hz1:=k2.lt;have hg4l:=k4.lt;have hbW:Below w.heap.size w W0:=p0.below _ _ (hb0.trans (hB.mono hb0.size)) (by omega);have xh:Hid (Bk W0 w.heap.size 25 #[.int .i64 aC,.slice Ak ks.length ck,.slice Ab bs.length cb]/\Bk W0 (w.heap.size+1) 34 #[.int .i64 0,.slice none 0 0,.slice none 0 0]/\Sl jV (fun q=>w0.heap.size<=q/\some q≠some g4) ks (.slice A3 ks.length c3) W0):=zH ⟨p0.BQ (k1.old hB) (by omega),p0.BQ (k2.old hB) (by omega),?keys⟩
 case keys=>exact(n5.Ur (S:=fun q=>w0.heap.size<=q/\some q≠some g4) (fun b hb he=>⟨hb,fun e=>n5.ne k4 (by decide) (e.symm.trans he.symm)⟩) (fun b h=>h.elim) HK.out.le).keep (fE.jC p0 fun b hb e=>hb.2 (congrArg some e))
 have HG:=zH p0;have HB0:=zH hbW;have HR0:=zH (HR.out.old hbW);have hww:=hb0.size;have hgW:g4<W0.heap.size:=p0.bk.lt;have hwW:w0.heap.size<=W0.heap.size:=by omega
 clear p0 k1 k2 k4 hB hb0 hbW x0 x1 n5 hz0 hzb HK hg4l;have y2:=xh.out.1.cell 2;obtain⟨R,hR⟩:∃z,wY bs []=z:=⟨_,rfl⟩
 have aG:=zH hR;go_wp2_with fail
 go_loopw[22] (fun i wr=>∃(k:Nat) (dF:List lh) (A:Option Addr) (c:Nat),k<=bs.length/\i=.int .i64 k/\dF.length<=32/\Hid (wY (bs.drop k) dF=R)/\Hid (W0.grownBy wr (some g4)/\Bk wr g4 34 #[.int .i64 aC,.slice A3 ks.length c3,.slice A dF.length c]/\Bd (fun q=>W0.heap.size<=q) W0.heap.size 44 8 (StQ d) dF (.slice A dF.length c) wr)) (fun i _=>bs.length-(intOf i).toNat)
 case atStart=>exact⟨0,[],none,0,Nat.zero_le _,rfl,by simp,aG,zH ⟨World.grownBy.refl _ _,HG.out.bk,Bd.nil zL⟩⟩
 case round=>
  obtain⟨wo,rfl⟩:∃z:World,z=wr:=⟨_,rfl⟩
  obtain⟨k,zB9,A0,c0,hk,rfl,hs0,hX0,hI⟩:=hrel;have hwz:=hI.out.1.size
  by_cases hlt:k<bs.length
  ·obtain⟨b,o,cs,hA,hSb,hb,hP,hc⟩:=(HR0.out.keep (fE.fJ hI.out.1 fun b hb=>by omega)).elem hlt;subst hA;have hlen:=CK.len hP;go_upto_region 5 with(first|(refine aX dH rfl _ rfl rfl cs hlen hc ?_)|(refine ae (dE dH.1) rfl _ _ rfl rfl cs rfl (Bk.new _ _ _) hlen rfl (CK.one hP) ?_;intro V1 p1;go_frame))
   obtain⟨_,rfl,Ap,cp,rfl,hpl,hpr⟩:=hP;have Fv:Below wo.heap.size wo V1:=p1.below _ _ (ba _ _) zL;have hzV:wo.heap.size<V1.heap.size:=by rw[p1.size];simp
   obtain⟨bt,hbt⟩:∃z,bs[k]=z:=⟨_,rfl⟩
   rw[hbt]at hpl hpr p1;have HE0:Hid (Rw (Ja d) (fun q=>S q/\q<w.heap.size) bt.ps Ap V1):=zH (hpr.old Fv);have Yf:=zH hbt;obtain⟨m,hm⟩:∃z,bt.ps.length=z:=⟨_,rfl⟩
   rw[hm]at hpl p1;have HM:=zH hm
   have HK2:Hid (BdK d W0 V1 g4 wo.heap.size aC (.slice A3 ks.length c3) [.int .i64 bt.id,.int .i64 bt.window,.slice Ap m cp] ⟨-1,[],[],zB9⟩ A0 none c0 0 (.slice none 0 0) V1):=zH
    ⟨Nat.le_refl _,fO hI.out.1 (Fv.mono hwz),hI.out.2.1.old Fv,p1.bk,(hI.out.2.2.old Fv).zB8 (fun b hb=>⟨hb,by simp[Value.ownBlock]⟩),Bd.nil (by omega),Nd.nil _ _ _,fun hp=>absurd hp (by simp)⟩
   have Xd:=zH (fO hI.out.1 (Fv.mono hwz));have x7:V1.cell? ⟨wo.heap.size,2,none⟩=some (.slice Ap m cp):=p1.bk.cell 2;clear hpr p1 hc hlen hbt hI hm;obtain⟨R2,hR2⟩:∃z,ny bt.window bt.ps ⟨-1,[],[],zB9⟩=z:=⟨_,rfl⟩
   have HR2:=zH hR2;clear hR2;go_wp2_with fail
   clear x7
   go_loopw[7,8,9,29] (fun pv bv lv i wr=>∃(j:Nat) (x:BdT) (A A2:Option Addr) (c c2:Nat),j<=m/\i=.int .i64 j/\pv=.int .i64 x.parent/\bv=.slice A2 x.bars.length c2/\x.dF.length<=32/\x.bars.length<=j/\(-1<=x.parent/\x.parent<x.dF.length)/\Hid (ny bt.window (bt.ps.drop j) x=R2)/\Hid (BdK d W0 V1 g4 wo.heap.size aC (.slice A3 ks.length c3) [.int .i64 bt.id,.int .i64 bt.window,.slice Ap m cp] x A A2 c c2 lv wr)) (fun _ _ _ i _=>m-(intOf i).toNat)
   case atStart=>exact⟨0,⟨-1,[],[],zB9⟩,A0,none,c0,0,Nat.zero_le _,rfl,rfl,rfl,hs0,Nat.le_refl _,⟨by show(-1:Int)<= -1;omega,by show(-1:Int)<_;omega⟩,HR2,HK2⟩
   case round=>
    clear HK2;obtain⟨wl,rfl⟩:∃z:World,z=wr:=⟨_,rfl⟩
    obtain⟨j,x,A,A2,c,c2,hj,rfl,rfl,rfl,hs1,hbl1,hpa,hX,hJ⟩:=hrel;have hzl:=hJ.out.sz
    by_cases hjl:j<m
    ·obtain⟨Al,cl,rfl⟩:=hJ.out.lvs.form;have hje:j<bt.ps.length:=by rw[HM.out];exact hjl
     obtain⟨b2,o2,cs2,hA2,_,hb2,hP2,hc2⟩:=(HE0.out.keep (fE.two Xd.out hJ.out.gr fun b hb=>⟨by omega,by omega⟩)).elem hje;subst hA2;have hlen2:=CK.len hP2;go_upto_region 11 with(first|(refine aX nC rfl _ rfl rfl cs2 hlen2 hc2 ?_)|(refine ae (dE nC.1) rfl _ _ rfl rfl cs2 rfl (Bk.new _ _ _) hlen2 rfl (CK.one hP2) ?_;intro V2 p2;go_frame))
     obtain⟨gv,cv,rfl,hg,hcv⟩:=hP2;obtain⟨pt,hpt⟩:∃z,bt.ps[j]=z:=⟨_,rfl⟩
     rw[hpt]at hg hcv p2;obtain⟨Ag,cg,rfl⟩:=hg.form;obtain⟨Ac,cc,rfl⟩:=hcv.form;have hB2:Below wl.heap.size wl V2:=p2.below _ _ (ba _ _) zL;have hz2:wl.heap.size<V2.heap.size:=by rw[p2.size];simp
     have HV:=zH (And.intro (hg.keep (.old hB2)) (And.intro (hcv.keep (.old hB2)) p2.bk));have HJ2:=zH (hJ.out.old hB2);have xm:=zH hpt;have hvl:∀g,(Value.slice A x.dF.length c).ownBlock=some g->W0.heap.size<=g/\g<wl.heap.size:=fun g h=>hJ.out.dF.lt h
     have hbl:∀g,(Value.slice A2 x.bars.length c2).ownBlock=some g->W0.heap.size<=g/\g<wl.heap.size:=fun g h=>hJ.out.bar.lt h
     obtain⟨ng,RZ⟩:∃z,pt.gs.length=z:=⟨_,rfl⟩
     rw[RZ]at HV;have Po:=zH RZ;have y1:V2.cell? ⟨wl.heap.size,1,none⟩=some (.int .i64 pt.type):=HV.out.2.2.cell 1;have y2':V2.cell? ⟨wl.heap.size,2,none⟩=some (.slice Ag ng cg):=HV.out.2.2.cell 2;have y0:V2.cell? ⟨wl.heap.size,0,none⟩=some (.int .i64 (pt.form:Nat)):=HV.out.2.2.cell 0;clear hpt hg hcv p2 hc2 hlen2 RZ
     by_cases hf:pt.form=3
     ·rw[hf]at y0;go_upto_region 12 with fail
      refine wx (fun k=>false) [.is (.slice A2 x.bars.length c2),.is (.pointer (some ⟨wl.heap.size,1,none⟩)),.is (.int .i64 pt.type),.is (.pointer (some ⟨wl.heap.size,2,none⟩)),.is (.slice Ag ng cg),
       sS (zo ng (Nd d (fun q=>V2.heap.size<=q) pt.gs) fun A c=>.slice A ng c),sS (zo ng (Nd d (fun q=>V2.heap.size<=q) pt.gs) fun A c=>.agg #[.int .i64 pt.type,.slice A ng c]),sS (ExB 52 ng (Nd d (fun q=>V2.heap.size<=q) pt.gs) fun A c=>#[.int .i64 pt.type,.slice A ng c])] [5,6,7] (by kernel_rfl) (by kernel_rfl) (by kernel_rfl)
       (fun C=>.c (px C rfl (fun _ _=>rfl)) <| .c (px C rfl (fun _ _=>rfl)) <| .c (px C rfl (fun _ h=>bW (lJ (bc h y1)))) <| .c (px C rfl (fun _ _=>rfl)) <| .c (px C rfl (fun _ h=>bW (mM (bc h y2')))) <|
        .c (pz [4] [] (by kernel_rfl) fun qK qa wr hB qO qF hK=>?_) <| .c (pz [2,5] [] (by kernel_rfl) fun qK qa wr hB qO qF hK=>?_) <| .c (pz [6] [] (by kernel_rfl) fun qK qa wr hB qO qF hK=>?_) .nil) ?_
      ·have e40:=ay qF.1 rfl rfl;clear qO qF;go_simp
       go_at_call 18
       refine(zt (HV.out.1.keep (.old hB))).mono ?_;rintro e w2 ⟨A,c,rfl,h1,h2⟩;rw[Po.out]at h1⊢;exact hK _ _ h2 ⟨A,c,rfl,h1.keep fun q hq hlt=>⟨Nat.le_trans hB.size hq,hlt,rfl⟩⟩
      ·have e38:=ay qF.1 rfl rfl;obtain⟨u41,e41,A,c,rfl,hn⟩:=qF.2.1;have e41:qa.tmps[41]? =some (.slice A ng c):=e41;clear qO qF;go_simp;exact hK _ _ zR ⟨A,c,rfl,hn⟩
      ·obtain⟨u42,e42,A,c,rfl,hn⟩:=qF.1;exact Eh vF (.tmp 42) rfl [.int .i64 pt.type,.slice A ng c] (aK e42) rfl (hK _ _ (ba _ _) ⟨_,A,c,rfl,Bk.new _ _ _,hn.keep (.old (ba _ _))⟩)
      intro qx w8 hB8 hR hS;obtain⟨gq,Aq,cq,r7,kq,hq⟩:=hR 7 rfl rfl;clear hR hS;simp only[bJ,List.length,List.take,List.drop,List.toList_toArray]
      go_frame
      generalize qx 7=z7 at r7⊢;subst r7;have hz8:=hB8.size;have Jg:=zH (HJ2.out.old hB8);have HPB:Hid (yZ d (fun q=>(W0.heap.size<=q/\some q≠(Value.slice A x.dF.length c).ownBlock)/\some q≠(Value.slice A2 x.bars.length c2).ownBlock) (⟨pt.type,pt.gs⟩:Ce) [.int .i64 pt.type,.slice Aq ng cq] w8):=zH ⟨_,rfl,hq.keep fun b hb hlt=>⟨⟨⟨by omega,fun e=>by have:=hvl b e.symm;omega⟩,fun e=>by have:=hbl b e.symm;omega⟩,hlt,rfl⟩⟩;have HKQ:=zH kq;clear hq kq y0 y1 y2';go_wp2_with (at_builtin;refine oK vF rfl _ _ rfl rfl Jg.out.bar rfl [.int .i64 pt.type,.slice Aq ng cq] HKQ.out (⟨pt.type,pt.gs⟩:Ce) HPB.out (by omega) (by omega) ?_;intro A9 c9 w9 h9 uC jG hw9)
      have dO:Below W0.heap.size w8 w9:=uC _ _ zL (by omega) zR
      have hne9:∀b,b<w8.heap.size->some b≠(Value.slice A2 x.bars.length c2).ownBlock->some b≠(Value.slice A9 (x.bars.length+1) c9).ownBlock:=fun b hlt hne e=>by
       rcases hw9 with h|h
       ·exact hne (e.trans h)
       ·rw[h]at e;injection e with e;omega
      have qw:(x.bars++[(⟨pt.type,pt.gs⟩:Ce)]).length=x.bars.length+1:=by simp
      have hz9:=jG.size;refine⟨⟨j+1,{x with bars:=x.bars++[(⟨pt.type,pt.gs⟩:Ce)]},A,A9,c,c9,hjl,by go_num,rfl,by show _=Value.slice A9 (x.bars++[(⟨pt.type,pt.gs⟩:Ce)]).length c9;rw[qw],hs1,by show(x.bars++[(⟨pt.type,pt.gs⟩:Ce)]).length<=_;rw[qw];omega,hpa,zH ?_,zH ⟨by omega,fO Jg.out.gr dO,Jg.out.k4.below dO hgW,Jg.out.kb.grown jG (Jg.out.bar.ne Jg.out.kb (by decide)),?_,?_,?_,Jg.out.emp⟩⟩,by simp[intOf];omega⟩
      ·have:=hX.out;rw[List.drop_eq_getElem_cons hje,xm.out]at this
       simpa[ny,rF,hf]using this
      ·show Bd (fun q=>W0.heap.size<=q/\some q≠(Value.slice A9 (x.bars++[(⟨pt.type,pt.gs⟩:Ce)]).length c9).ownBlock) _ _ _ _ _ _ _
       rw[qw];exact Jg.out.dF.kept jG (Jg.out.dF.apart Jg.out.bar (by decide)) fun b hb _ hlt=>⟨⟨hb.1,hne9 b hlt hb.2⟩,hb.2⟩
      ·show Bd _ _ _ _ _ (x.bars++[(⟨pt.type,pt.gs⟩:Ce)]) (Value.slice A9 (x.bars++[(⟨pt.type,pt.gs⟩:Ce)]).length c9) _
       rw[qw];exact h9
      ·show Nd d (fun q=>W0.heap.size<=q/\some q≠(Value.slice A x.dF.length c).ownBlock/\some q≠(Value.slice A9 (x.bars++[(⟨pt.type,pt.gs⟩:Ce)]).length c9).ownBlock) x.lv (.slice Al x.lv.length cl) w9
       rw[qw];exact Jg.out.lvs.keep fun b hb hlt=>⟨⟨hb.1,hb.2.1,hne9 b hlt hb.2.2⟩,Nat.lt_of_lt_of_le hlt hz9,jG.block b hlt hb.2.2⟩
     ·have hfI:¬((pt.form:Nat):Int)=3:=by omega
      have hfB:(((pt.form:Nat):Int)==3)=false:=by rw[beq_eq_false_iff_ne];exact hfI
      have z2:V2.cell? ⟨g4,2,none⟩=some (.slice A x.dF.length c):=HJ2.out.k4.cell 2;obtain⟨ns,hns⟩:∃z,x.dF.length=z:=⟨_,rfl⟩
      rw[hns]at z2 hvl;have hns1:ns<=32:=by omega
      by_cases h32:ns=32
      ·subst h32;have k2:Bk V2 (w.heap.size+1) 34 #[.int .i64 0,.slice none 0 0,.slice none 0 0]:=(xh.out.2.1.grown HJ2.out.gr (by simp;omega))
       go_wp2_with (refine ae iY rfl _ _ rfl rfl [.int .i64 0,.slice none 0 0,.slice none 0 0] rfl k2 rfl rfl rfl ?_;intro w9 p9;have v0:=p9.bk.cell 0;have v1:=p9.bk.cell 1;have v2:=p9.bk.cell 2)
       have hR2:R2=none:=by
        rw[<-hX.out,List.drop_eq_getElem_cons hje,xm.out];simp[ny,rF,hf,hns]
       have hRR:yX aC ks bs=(⟨0,[],[]⟩,4):=by
        unfold yX;rw[aG.out,<-hX0.out,List.drop_eq_getElem_cons hlt,Yf.out,wY,HR2.out,hR2]
       rw[hRR];refine bodyPost_ret (v:=.tuple #[.agg #[.int .i64 0,.slice none 0 0,.slice none 0 0],.int .i64 4]) (by simp[results,Try.results6,go_sem,v0,v1,v2]) rfl ?_;have hz0:=HB0.out.size;have hz9:=HJ2.out.gr.size;refine⟨[_,_,_],rfl,⟨_,_,rfl,⟨none,0,rfl,by simp,Rw.nil⟩,⟨none,0,rfl,by simp,Rw.nil⟩⟩,p9.below _ _ (HB0.out.grown HJ2.out.gr HB0.out.size fun k hk=>by injection hk with hk;omega) (by omega)⟩
      ·have h32I:¬((ns:Nat):Int)=32:=by omega
       have h32B:(((ns:Nat):Int)==32)=false:=by rw[beq_eq_false_iff_ne];exact h32I
       have hb1:V2.cell? ⟨wo.heap.size,1,none⟩=some (.int .i64 bt.window):=HJ2.out.kb.cell 1;obtain⟨nb,hnb⟩:∃z,x.bars.length=z:=⟨_,rfl⟩
       obtain⟨nl,hnl⟩:∃z,x.lv.length=z:=⟨_,rfl⟩
       rw[hnb]at hbl;have HN:=zH (And.intro hns (And.intro hnb hnl));rw[hnb,hnl];clear hns hnb hnl;go_upto_region 15 with fail
       refine wx (fun k=>false) [.is (.pointer (some ⟨g4,2,none⟩)),.is (.slice A ns c),.is (.int .i64 x.parent),.is (.pointer (some ⟨wl.heap.size,1,none⟩)),.is (.int .i64 pt.type),.is (.pointer (some ⟨wl.heap.size,0,none⟩)),.is (.int .i64 (pt.form:Nat)),.is (.bool (pt.form==2)),.is (.pointer (some ⟨wo.heap.size,1,none⟩)),.is (.int .i64 bt.window),.is (.slice A2 nb c2),.is (.slice Al nl cl),.is (.pointer (some ⟨wl.heap.size,2,none⟩)),.is (.slice Ag ng cg),
        sS (zo ng (Nd d (fun q=>V2.heap.size<=q) pt.gs) fun A c=>.slice A ng c),sS (zo ng (Nd d (fun q=>V2.heap.size<=q) pt.gs) fun A' c'=>.agg #[.int .i64 x.parent,.int .i64 pt.type,.bool (pt.form==2),.int .i64 bt.window,.slice A2 nb c2,.slice Al nl cl,.slice A' ng c',.slice none 0 0]),
        sS (ExB 44 ng (Nd d (fun q=>V2.heap.size<=q) pt.gs) fun A' c'=>#[.int .i64 x.parent,.int .i64 pt.type,.bool (pt.form==2),.int .i64 bt.window,.slice A2 nb c2,.slice Al nl cl,.slice A' ng c',.slice none 0 0])] [7,14,15,16] (by kernel_rfl) (by kernel_rfl) (by kernel_rfl)
        (fun C=>.c (px C rfl (fun _ _=>rfl)) <| .c (px C rfl (fun _ h=>bW (XU (bc h z2)))) <| .c (px C rfl (fun _ _=>rfl)) <| .c (px C rfl (fun _ _=>rfl)) <| .c (px C rfl (fun _ h=>bW (lJ (bc h y1)))) <| .c (px C rfl (fun _ _=>rfl)) <| .c (px C rfl (fun _ h=>bW (lJ (bc h y0)))) <| .c (pz [6] [] (by kernel_rfl) fun qK qa wr hB qO qF hK=>?_) <|
         .c (px C rfl (fun _ _=>rfl)) <| .c (px C rfl (fun _ h=>bW (ld2 (bc h hb1)))) <| .c (px C rfl (fun _ _=>rfl)) <| .c (px C rfl (fun _ _=>rfl)) <| .c (px C rfl (fun _ _=>rfl)) <| .c (px C rfl (fun _ h=>bW (mM (bc h y2')))) <|
         .c (pz [13] [] (by kernel_rfl) fun qK qa wr hB qO qF hK=>?_) <| .c (pz [2,4,7,9,10,11,14] [] (by kernel_rfl) fun qK qa wr hB qO qF hK=>?_) <| .c (pz [15] [] (by kernel_rfl) fun qK qa wr hB qO qF hK=>?_) .nil) ?_
       ·have e56:=ay qF.1 rfl rfl;clear qO qF;go_simp;exact hK _ _ zR (by show(_:Value)=_;first|rfl|exact congrArg Value.bool (Ef pt.form 2)|(simp;exact Ef pt.form 2)|(simp;omega))
       ·have e63:=ay qF.1 rfl rfl;clear qO qF;go_simp
        go_at_call 18
        refine(zt (HV.out.1.keep (.old hB))).mono ?_;rintro e w2 ⟨A,c,rfl,h1,h2⟩;rw[Po.out]at h1⊢;exact hK _ _ h2 ⟨A,c,rfl,h1.keep fun q hq hlt=>⟨Nat.le_trans hB.size hq,hlt,rfl⟩⟩
       ·have e52:=ay qF.1 rfl rfl;have e54:=ay qF.2.1 rfl rfl;have e57:=ay qF.2.2.1 rfl rfl;have e59:=ay qF.2.2.2.1 rfl rfl;have e60:=ay qF.2.2.2.2.1 rfl rfl;have e61:=ay qF.2.2.2.2.2.1 rfl rfl;obtain⟨u64,e64,A',c',rfl,hn⟩:=qF.2.2.2.2.2.2.1;exact zCw (.tmp 52) (.tmp 54) (.tmp 57) (.tmp 59) (.tmp 60) (.tmp 61) (.tmp 64) rfl (aK e52) (aK e54) (aK e57) (aK e59) (aK e60) (aK e61) (aK e64) (hK _ _ zR ⟨A',c',rfl,hn⟩)
       ·obtain⟨u65,e65,A',c',rfl,hn⟩:=qF.1;exact Eh qC (.tmp 65) rfl [.int .i64 x.parent,.int .i64 pt.type,.bool (pt.form==2),.int .i64 bt.window,.slice A2 nb c2,.slice Al nl cl,.slice A' ng c',.slice none 0 0] (aK e65) rfl (hK _ _ (ba _ _) ⟨_,A',c',rfl,Bk.new _ _ _,hn.keep (.old (ba _ _))⟩)
       intro qx w8 hB8 hR hS;obtain⟨gq,Aq,cq,r16,kq,hq⟩:=hR 16 rfl rfl;clear hR hS;simp only[bJ,List.length,List.take,List.drop,List.toList_toArray]
       go_frame
       generalize qx 16=z16 at r16⊢;subst r16;have hz8:=hB8.size;have Jg:=HJ2.out.old hB8;have HJ4:=zH Jg
       have hap:∀g,(Value.slice A2 nb c2).ownBlock=some g->some g≠(Value.slice A ns c).ownBlock:=fun g hg e=>by
        have h1:=Jg.bar.apart Jg.dF (by decide);rw[HN.out.1,HN.out.2.1]at h1;rcases h1 with h|h
        ·rw[h]at hg;cases hg
        ·exact h (hg.trans e)
       have hnb1:nb<=1000000000000:=by have:=HN.out.2.1;omega
       obtain⟨st,hst⟩:∃z:lh,(⟨x.parent,pt.type,pt.form==2,bt.window,x.bars,x.lv,pt.gs,[]⟩:lh)=z:=⟨_,rfl⟩
       have hPS:StQ d (fun q=>W0.heap.size<=q/\some q≠(Value.slice A ns c).ownBlock) st [.int .i64 x.parent,.int .i64 pt.type,.bool (pt.form==2),.int .i64 bt.window,.slice A2 nb c2,.slice Al nl cl,.slice Aq ng cq,.slice none 0 0] w8:=by
        have h1:=Jg.bar;have h2:=Jg.lvs;rw[HN.out.1,HN.out.2.1]at h1;rw[HN.out.1,HN.out.2.1,HN.out.2.2]at h2;rw[<-hst];exact⟨⟨_,_,_,_,rfl,h1.Ur (fun b hb he=>⟨hb,hap b he⟩) (fun b hb _=>hb) (by rw[HN.out.2.1];exact hnb1),h2.keep fun b hb hlt=>⟨⟨hb.1,hb.2.1⟩,hlt,rfl⟩,hq.keep fun b hb hlt=>⟨⟨by omega,fun e=>by have:=hvl b e.symm;omega⟩,hlt,rfl⟩,⟨none,0,rfl,by simp,Rw.nil⟩⟩,fun _=>rfl⟩
       have hBS:Bd (fun q=>W0.heap.size<=q) W0.heap.size 44 8 (StQ d) x.dF (.slice A ns c) w8:=by
        have h1:=Jg.dF;rw[HN.out.1]at h1;exact h1.zB8 fun b hb=>hb.1
       have h4:Bk w8 g4 34 #[.int .i64 aC,.slice A3 ks.length c3,.slice A ns c]:=by
        have h1:=Jg.k4
        rwa [HN.out.1]at h1
       have HS3:=zH (And.intro hPS (And.intro hBS (And.intro h4 kq)));have HST:=zH hst;clear hPS hBS h4 kq hst Jg hap y0 y1 y2' hb1 z2;go_upto_region 16 with(at_builtin;refine oK qC rfl _ _ rfl rfl HS3.out.2.1 rfl [.int .i64 x.parent,.int .i64 pt.type,.bool (pt.form==2),.int .i64 bt.window,.slice A2 nb c2,.slice Al nl cl,.slice Aq ng cq,.slice none 0 0] HS3.out.2.2.2 st HS3.out.1 (by rw[HN.out.1];omega) (by omega) ?_;intro A9 c9 w9 h9 uC jG hw9;rw[HN.out.1]at h9 hw9⊢;have k9:=HS3.out.2.2.1.grown jG (HS3.out.2.1.ne HS3.out.2.2.1 (by decide));have z9:=k9.cell 2;have f9:=k9.frozen 2)
       have dO:Below W0.heap.size w8 w9:=uC _ _ zL (by omega) zR;have hz9:=jG.size;have hkb9:Bk (w9.setCell ⟨g4,2,none⟩ (.slice A9 (ns+1) c9)) wo.heap.size 28 #[.int .i64 bt.id,.int .i64 bt.window,.slice (some ⟨b2,o2,none⟩) m cp]:=(HJ4.out.kb.grown jG (HS3.out.2.1.ne HJ4.out.kb (by decide))).far (by show wo.heap.size≠g4;omega) _;have hkp9:Bk (w9.setCell ⟨g4,2,none⟩ (.slice A9 (ns+1) c9)) wl.heap.size 31 #[.int .i64 (pt.form:Nat),.int .i64 pt.type,.slice Ag ng cg,.slice Ac pt.cs.length cc]:=((HV.out.2.2.old hB8).grown jG (HS3.out.2.1.ne (HV.out.2.2.old hB8) (by decide))).far (by show wl.heap.size≠g4;omega) _;have hcs9:Nd d (fun q=>S q/\q<w.heap.size) pt.cs (.slice Ac pt.cs.length cc) (w9.setCell ⟨g4,2,none⟩ (.slice A9 (ns+1) c9)):=((HV.out.2.1.keep (.old hB8)).keep fun b hb hlt=>⟨hb,Nat.lt_of_lt_of_le hlt hz9,dO.block b (by omega)⟩).keep (fE.set fun b hb=>⟨hb,by show b≠g4;omega⟩);have hs9:=h9.set (p:=⟨g4,2,none⟩) (.slice A9 (ns+1) c9) (fun b hb=>by show b≠g4;omega) hgW;have hgr9:=nS (v:=.slice A9 (ns+1) c9) (i:=2) (fO HJ4.out.gr dO);have HW:=zH (And.intro hgr9 (And.intro (k9.put 2 (.slice A9 (ns+1) c9)) (And.intro hkb9 (And.intro hs9 (And.intro hcs9 hkp9)))));have hzz:(w9.setCell ⟨g4,2,none⟩ (.slice A9 (ns+1) c9)).heap.size=w9.heap.size:=by simp
       clear h9 uC jG hw9 k9 z9 f9 dO hkb9 hkp9 hcs9 hs9 hgr9 HJ2 HS3;generalize w9.setCell ⟨g4,2,none⟩ (.slice A9 (ns+1) c9)=W9 at *;have z4:W9.cell? ⟨g4,2,none⟩=some (.slice A9 (ns+1) c9):=HW.out.2.1.cell 2;have z3:W9.cell? ⟨wl.heap.size,3,none⟩=some (.slice Ac pt.cs.length cc):=HW.out.2.2.2.2.2.cell 3;go_wp2_with fail
       refine(zt HW.out.2.2.2.2.1).mono ?_;rintro e w12 ⟨A12,c12,rfl,h12,zCm⟩;have hz12:=zCm.size;go_wp2_with fail
       have qw:(x.dF++[st]).length=ns+1:=by rw[List.length_append,HN.out.1];rfl
       refine⟨⟨j+1,⟨ns,[],pt.cs,x.dF++[st]⟩,A9,none,c9,0,hjl,by go_num,by first|rfl|(simp;done)|(show _=Value.int .i64 (ns:Nat);rw[show(((ns+1:Nat):Int)-1)=ns by omega])|(simp;omega)|go_num,rfl,by show(x.dF++[st]).length<=32;rw[qw];have:=HN.out.1;omega,Nat.zero_le _,⟨by show(-1:Int)<=ns;omega,by show(ns:Int)<((x.dF++[st]).length:Nat);rw[qw];omega⟩,zH ?_,zH ⟨by omega,fO HW.out.1 (zCm.mono HW.out.1.size),?_,HW.out.2.2.1.old zCm,?_,Bd.nil (by have:=HW.out.1.size;omega),?_,fun _=>?_⟩⟩,by simp[intOf];omega⟩
       ·have:=hX.out;rw[List.drop_eq_getElem_cons hje,xm.out]at this;have h1:¬x.dF.length=32:=by rw[HN.out.1];exact h32
        rw[ny,rF,if_neg hf,if_neg h1,HN.out.1]at this;rw[<-HST.out];exact this
       ·show Bk _ _ _ #[.int .i64 aC,.slice A3 ks.length c3,.slice A9 (x.dF++[st]).length c9]
        rw[qw];exact HW.out.2.1.old zCm
       ·show Bd _ _ _ _ _ (x.dF++[st]) (.slice A9 (x.dF++[st]).length c9) _
        rw[qw];exact(HW.out.2.2.2.1.old zCm).zB8 fun b hb=>⟨hb,by simp[Value.ownBlock]⟩
       ·show Nd d (fun q=>W0.heap.size<=q/\some q≠(Value.slice A9 (x.dF++[st]).length c9).ownBlock/\_) pt.cs _ _
        rw[qw];exact h12.keep fun b hb hlt=>⟨⟨by have:=HW.out.1.size;omega,fun e=>by have:=(HW.out.2.2.2.1.lt e.symm).2;omega,by simp[Value.ownBlock]⟩,hlt,rfl⟩
       ·show(iw (x.dF++[st]) ((ns:Nat):Int).toNat).ends=[]
        rw[Int.toNat_natCast];unfold iw;rw[List.getElem?_append_right (by rw[HN.out.1];exact Nat.le_refl _),HN.out.1,Nat.sub_self,<-HST.out];rfl
    ·obtain⟨Al,cl,rfl⟩:=hJ.out.lvs.form;obtain rfl:j=m:=by omega
     have hXe:some x=R2:=by
      have:=hX.out
      rwa [List.drop_eq_nil_of_le (by rw[HM.out];exact Nat.le_refl _)]at this
     have hRe:wY (bs.drop (k+1)) (IP bt.id x)=R:=by
      have:=hX0.out;rw[List.drop_eq_getElem_cons hlt,Yf.out,wY,HR2.out,<-hXe]at this;exact this
     have HRE:=zH hRe;clear hXe hRe
     by_cases hp:0<=x.parent
     ·obtain⟨pn,hpn⟩:∃pn:Nat,x.parent=pn:=⟨x.parent.toNat,by omega⟩
      have hpl:pn<x.dF.length:=by omega
      have hemp:=hJ.out.emp hp;rw[hpn,Int.toNat_natCast]at hemp
      obtain⟨gS,hA⟩:∃gS,A=some ⟨gS,0,none⟩:=by
       obtain⟨g,_,hA,_⟩:=hJ.out.dF.elem hpl;exact⟨g,hA⟩
      subst hA;have hpI:(pn:Int)<((x.dF.length:Nat):Int):=by omega
      obtain⟨sp,hsp⟩:∃z,x.dF[pn]=z:=⟨_,rfl⟩
      have hge:iw x.dF pn=sp:=(vI hpl).trans hsp;rw[hge]at hemp;obtain⟨ns,hns⟩:∃z,x.dF.length=z:=⟨_,rfl⟩
      obtain⟨nb,hnb⟩:∃z,x.bars.length=z:=⟨_,rfl⟩
      obtain⟨nl,hnl⟩:∃z,x.lv.length=z:=⟨_,rfl⟩
      have HN:=zH (And.intro hns (And.intro hnb hnl));have hpl2:pn<ns:=by omega
      have z2:wl.cell? ⟨g4,2,none⟩=some (.slice (some ⟨gS,0,none⟩) x.dF.length c):=hJ.out.k4.cell 2;have x0:wl.cell? ⟨wo.heap.size,0,none⟩=some (.int .i64 bt.id):=hJ.out.kb.cell 0;obtain⟨cs8,hP8,hc8,_⟩:=hJ.out.dF.VX hpl (j:=7) (by decide) (.slice none 0 0) rfl;rw[hsp]at hP8;have hx7:=hc8 7 _ (hP8.2 hemp);rw[hns]at z2 hpI;rw[hpn,hnb,hnl];have Nj:=zH (And.intro hsp hemp);have hnb1:nb<=1000000000000:=by omega
      have hap:∀g,(Value.slice A2 nb c2).ownBlock=some g->some g≠some gS:=fun g hg e=>by
       have h1:=hJ.out.bar.apart hJ.out.dF (by decide);rw[HN.out.2.1]at h1;rcases h1 with h|h
       ·rw[h]at hg;cases hg
       ·exact h (hg.trans e)
      have UU:W0.heap.size<=gS/\gS<wl.heap.size:=hJ.out.dF.lt rfl
      have Jb:Hid (NJ d (fun q=>W0.heap.size<=q/\q≠gS) ⟨bt.id,x.lv,x.bars⟩ [.int .i64 bt.id,.slice Al nl cl,.slice A2 nb c2] wl):=zH (by
       have h1:=hJ.out.bar;have h2:=hJ.out.lvs;rw[HN.out.1,HN.out.2.1]at h1;rw[HN.out.1,HN.out.2.1,HN.out.2.2]at h2
       exact⟨_,_,rfl,h2.keep fun b hb hlt=>⟨⟨hb.1,fun e=>hb.2.1 (by rw[e];rfl)⟩,hlt,rfl⟩,h1.Ur (fun b hb he=>⟨hb,fun e=>hap b he (by rw[e])⟩) (fun b hb _=>⟨hb.1,fun e=>hb.2 (by rw[e];rfl)⟩) (by rw[HN.out.2.1];exact hnb1)⟩)
      clear hP8 hc8 hsp hge hemp hns hnb hnl hap;go_upto_region 21 with fail
      refine wx (fun k=>false) [.is (.pointer (some ⟨gS,pn*8,none⟩)),.is (.pointer (some ⟨gS,pn*8,none⟩)),.is (.pointer (some ⟨gS,pn*8,none⟩)),.is (.pointer (some ⟨gS,pn*8+7,none⟩)),.is (.slice none 0 0),.is (.pointer (some ⟨wo.heap.size,0,none⟩)),.is (.int .i64 bt.id),.is (.slice Al nl cl),.is (.slice A2 nb c2),.is (.agg #[.int .i64 bt.id,.slice Al nl cl,.slice A2 nb c2]),
       .st (fun v w=>∃g,v=.slice (some ⟨g,0,none⟩) 1 1/\Bk w g 55 #[.int .i64 bt.id,.slice Al nl cl,.slice A2 nb c2]) (fun _ _ _ hb ⟨g,h1,h2⟩=>⟨g,h1,h2.old hb⟩),
       sS (zo 1 (Bd (fun q=>W0.heap.size<=q/\q≠gS) wl.heap.size 55 3 (NJ d) [(⟨bt.id,x.lv,x.bars⟩:PZ)]) fun A c=>.slice A 1 c)] [9,10,11] (by kernel_rfl) (by kernel_rfl) (by kernel_rfl)
       (fun C=>.c (px C rfl (fun _ _=>rfl)) <| .c (px C rfl (fun _ _=>rfl)) <| .c (px C rfl (fun _ _=>rfl)) <| .c (px C rfl (fun _ _=>rfl)) <| .c (px C rfl (fun _ h=>bW (Jv (bc h hx7)))) <| .c (px C rfl (fun _ _=>rfl)) <| .c (px C rfl (fun _ h=>bW (lJ (bc h x0)))) <| .c (px C rfl (fun _ _=>rfl)) <| .c (px C rfl (fun _ _=>rfl)) <|
        .c (pz [6,7,8] [] (by kernel_rfl) fun qK qa wr hB qO qF hK=>?_) <| .c (pz [9] [] (by kernel_rfl) fun qK qa wr hB qO qF hK=>?_) <| .c (pz [4,10] [] (by kernel_rfl) fun qK qa wr hB qO qF hK=>?_) .nil) ?_
      ·have e89:=ay qF.1 rfl rfl;have e90:=ay qF.2.1 rfl rfl;have e91:=ay qF.2.2.1 rfl rfl;clear qO qF;go_simp;exact hK _ _ zR rfl
      ·have e92:=ay qF.1 rfl rfl;exact Eh qB (.tmp 92) rfl [.int .i64 bt.id,.slice Al nl cl,.slice A2 nb c2] (aK e92) rfl (hK _ _ (ba _ _) ⟨_,rfl,Bk.new _ _ _⟩)
      ·have e87:=ay qF.1 rfl rfl;obtain⟨u93,e93,g,rfl,k1⟩:=qF.2.1;refine Gh (S:=fun q=>W0.heap.size<=q/\q≠gS) (base:=wl.heap.size) qB (.tmp 87) (.tmp 93) rfl (aK e87) (Bd.nil hB.size) (aK e93) [.int .i64 bt.id,.slice Al nl cl,.slice A2 nb c2] k1 (⟨bt.id,x.lv,x.bars⟩:PZ) (CK.keep (fun b hb hlt=>⟨⟨hb,by simp[Value.ownBlock]⟩,Nat.lt_of_lt_of_le hlt hB.size,hB.block b hlt⟩) Jb.out) (by simp) hB.size ?_;intro A' c' w' h3 hf hg;simp only[List.length_nil,Nat.zero_add,List.nil_append]at h3⊢;exact hK _ _ (JC hg) ⟨A',c',rfl,h3⟩
      intro qx w8 hB8 hR hS;obtain⟨A9,c9,r11,h9⟩:=hR 11 rfl rfl;clear hR hS;simp only[bJ,List.length,List.take,List.drop,List.toList_toArray]
      go_frame
      generalize qx 11=z11 at r11⊢;subst r11;have hz8:=hB8.size;have HJ8:=hJ.out.old hB8;have hS8:=HJ8.dF.zB8 (S2:=fun q=>W0.heap.size<=q) fun b hb=>hb.1
      rw[HN.out.1]at hS8;obtain⟨cur,jh⟩:=hS8.bk;have x7:=bc hB8 hx7;have f7:=jh.frozen (pn*8+7);have PX:=zH (And.intro h9 (And.intro HJ8.gr (And.intro HJ8.k4 (And.intro hS8 (by rw[HN.out.1];exact hpl2:pn<x.dF.length)))));clear h9 HJ8 hS8 jh hx7 x0 z2;go_wp2_with fail
      obtain⟨JF,X7,_,hput⟩:=PX.out.2.2.2.1.VX PX.out.2.2.2.2 (j:=7) (by decide) (.slice A9 1 c9) rfl
      have hend:IP bt.id x=x.dF.set pn {sp with ends:=[⟨bt.id,x.lv,x.bars⟩]}:=by
       unfold IP;rw[if_pos hp,hpn,Int.toNat_natCast,zCb PX.out.2.2.2.2,Nj.out.1,Nj.out.2];rfl
      have hnew:=hput {sp with ends:=[⟨bt.id,x.lv,x.bars⟩]} (by
       rw[Nj.out.1]at X7;obtain⟨⟨v4,v5,v6,v7,rfl,i4,i5,i6,i7⟩,_⟩:=X7
       exact⟨⟨v4,v5,v6,.slice A9 1 c9,rfl,i4,i5,i6,PX.out.1.Ur (fun b hb _=>⟨by omega,by omega⟩) (fun b hb _=>hb) (by simp)⟩,fun h=>by cases h⟩)
      have hbel:Below W0.heap.size w8 (w8.setCell ⟨gS,pn*8+7,none⟩ (.slice A9 1 c9)):=zR.setCell UU.1 _;have hlen:(IP bt.id x).length=ns:=by rw[hend,List.length_set,HN.out.1]
      refine⟨?_,by simp[intOf];omega⟩
      repeat apply Exists.intro
      refine⟨?_,rfl⟩;refine⟨k+1,IP bt.id x,some ⟨gS,0,none⟩,c,hlt,by go_num,by rw[hlen,<-HN.out.1];exact hs1,HRE,zH ⟨fO PX.out.2.1 hbel,?_,?_⟩⟩
      ·rw[hlen,<-HN.out.1];exact PX.out.2.2.1.below hbel hgW
      ·rw[hlen,hend];exact hnew
     ·have hend:IP bt.id x=x.dF:=by
       unfold IP;rw[if_neg hp]
      rw[hend]at HRE;go_wp2_with fail
      refine⟨?_,by simp[intOf];omega⟩
      repeat apply Exists.intro
      refine⟨?_,rfl⟩;exact⟨k+1,x.dF,A,c,hlt,by go_num,hs1,HRE,zH ⟨hJ.out.gr,hJ.out.k4,hJ.out.dF.zB8 fun b hb=>hb.1⟩⟩
  ·obtain rfl:k=bs.length:=by omega
   have hRe:some zB9=R:=by
    have:=hX0.out
    rwa [List.drop_eq_nil_of_le zL]at this
   have hRR:yX aC ks bs=(⟨aC,ks,zB9⟩,0):=by
    unfold yX;rw[aG.out,<-hRe]
   have k2:Bk wo (w.heap.size+1) 34 #[.int .i64 0,.slice none 0 0,.slice none 0 0]:=xh.out.2.1.grown hI.out.1 (by simp;omega)
   go_wp2_with (first|(refine iG iY oJ rfl (.tmp 4) rfl rfl [.int .i64 aC,.slice A3 ks.length c3,.slice A0 zB9.length c0] rfl (fun i v hv=>by rw[Nat.zero_add,hI.out.2.1.cell i];simpa using hv) ?_)|
    (refine ae iY rfl _ _ rfl rfl [.int .i64 aC,.slice A3 ks.length c3,.slice A0 zB9.length c0] rfl k2 rfl rfl rfl ?_;intro w9 p9;have v0:=p9.bk.cell 0;have v1:=p9.bk.cell 1;have v2:=p9.bk.cell 2))
   rw[hRR];refine bodyPost_ret (v:=.tuple #[.agg #[.int .i64 aC,.slice A3 ks.length c3,.slice A0 zB9.length c0],.int .i64 0]) (by simp[results,Try.results6,go_sem,v0,v1,v2]) rfl ?_;have hz0:=HB0.out.size;have hzo:=hI.out.1.size;refine⟨[_,_,_],rfl,⟨_,_,rfl,?_,?_⟩,p9.below _ _ (HB0.out.grown hI.out.1 HB0.out.size fun k hk=>by injection hk with hk;omega) (by omega)⟩
   ·exact((xh.out.2.2.keep (fE.fJ hI.out.1 fun b hb e=>hb.2 (congrArg some e))).keep (fE.jC p9 fun b hb=>by omega)).keep fun b hb hlt=>⟨by omega,hlt,rfl⟩
   ·have h1:=(hI.out.2.2.Ur (S:=fun q=>W0.heap.size<=q) (fun b hb _=>hb) (fun b hb _=>hb) (by omega)).keep (fE.jC p9 fun b hb=>by omega);obtain⟨A',c',hv,hl,ps,h2,h3,h4⟩:=h1;exact⟨A',c',hv,hl,ps,h2,h3.keep fun b hb hlt=>⟨by omega,hlt,rfl⟩,fun p hp=>CK.keep (fun b hb hlt=>⟨by omega,hlt,rfl⟩) (h4 p hp).1⟩
end
def zC1 (aC:Int) (bs:List lh):Prop:=(1<=aC/\aC<=3)/\bs.length<=32/\∀(i:Nat) (h:i<bs.length),(-1<=bs[i].parent/\bs[i].parent<i)/\0<=bs[i].type/\(0<=bs[i].window/\bs[i].window<=1152921504606846976)/\∀(j:Nat) (h:j<bs[i].ends.length),0<=bs[i].ends[j].branch
section
set_option maxRecDepth 100000
set_option maxHeartbeats 8000000
theorem zDh {d:Nat} {S:Nat->Prop} {aC:Int} {ks:List Int} {bs:List lh} {cs:List Value} {w:World} (h:qg d S aC ks bs cs w) (hg:zC1 aC bs):Calls Try.prog 8 #[.agg cs.toArray] w (Yes w):=by
 obtain⟨kv,bv,rfl,hk,Ab,cb,rfl,hbl,hb⟩:=h;obtain⟨Ak,ck,rfl⟩:=hk.form;have HGW:=zH hg.2.2;have q1:¬aC<1:=by have:=hg.1.1;omega
 have q2:¬3<aC:=by have:=hg.1.2;omega
 obtain⟨n,hn⟩:∃z,bs.length=z:=⟨_,rfl⟩
 have hn32:n<=32:=by rw[<-hn];exact hg.2.1
 have q3:¬(32:Int)<(n:Int):=by omega
 go_enter Try.func8,Try.ntmps8
 go_upto_region 1 with fail
 rw[hn]at hbl⊢;have k1:=Bk.new w 34 #[.int .i64 aC,.slice Ak ks.length ck,.slice Ab n cb];have hb0:=ba w (.cells #[.int .i64 aC,.slice Ak ks.length ck,.slice Ab n cb] 34);generalize w.alloc (.cells #[.int .i64 aC,.slice Ak ks.length ck,.slice Ab n cb] 34)=w0 at *;have HR:=zH (hb.old hb0);have HB:=zH hb0;have HN:=zH hn;have x0:=k1.cell 0;have x2:=k1.cell 2;clear k1 hb0 hk hb hn hg;go_wp2_with fail
 clear x0 x2
 go_loopw[24] (fun i wr=>∃(k:Nat),k<=n/\i=.int .i64 k/\Hid (Below w0.heap.size w0 wr)) (fun i _=>n-(intOf i).toNat)
 case atStart=>exact⟨0,Nat.zero_le _,rfl,zH zR⟩
 case round=>
  obtain⟨wo,rfl⟩:∃z:World,z=wr:=⟨_,rfl⟩
  obtain⟨k,hk,rfl,hI⟩:=hrel
  by_cases hlt:k<n
  ·have hlb:k<bs.length:=by rw[HN.out];exact hlt
   obtain⟨b,o,cs,rfl,_,hb,hP,hc⟩:=(HR.out.old hI.out).elem hlb;have hlen:=CK.len hP;have hG:=HGW.out k hlb;go_upto_region 6 with(first|(refine aX qC rfl _ rfl rfl cs hlen hc ?_)|(refine ae (dE qC.1) rfl _ _ rfl rfl cs rfl (Bk.new _ _ _) hlen rfl (CK.one hP) ?_;intro W1 p1;go_frame))
   obtain⟨v4,v5,v6,v7,rfl,_,_,_,Ap,cp,rfl,hel,he⟩:=hP;have hBW:Below wo.heap.size wo W1:=p1.below _ _ (ba _ _) zL;have HE:=zH (he.old hBW);have yH:=zH (hI.out.trans (hBW.mono hI.out.size));have HX:=zH p1.bk;obtain⟨st,hst⟩:∃z,bs[k]=z:=⟨_,rfl⟩
   rw[hst]at HE HX hel hG;obtain⟨⟨g1,g2⟩,g3,⟨g4,g5⟩,g6⟩:=hG;have XG:=zH g6;have r1:¬st.parent< -1:=by omega
   have r2:¬(k:Int)<=st.parent:=by omega
   have r3:¬st.type<0:=by omega
   have r4:¬st.window<0:=by omega
   have r5:¬1152921504606846976<st.window:=by omega
   have x0:=HX.out.cell 0;have x1:=HX.out.cell 1;have x3:=HX.out.cell 3;have x7:=HX.out.cell 7;obtain⟨m,hm⟩:∃z,st.ends.length=z:=⟨_,rfl⟩
   rw[hm]at x7 hel;have HM:=zH hm;clear p1 hc hlen hst he g1 g2 g3 g4 g5 g6 hm;go_wp2_with fail
   clear x0 x1 x3 x7
   go_loopw[56] (fun i wr=>∃(j:Nat),j<=m/\i=.int .i64 j/\Hid (Below W1.heap.size W1 wr)) (fun i _=>m-(intOf i).toNat)
   case atStart=>exact⟨0,Nat.zero_le _,rfl,zH zR⟩
   case round=>
    obtain⟨wl,rfl⟩:∃z:World,z=wr:=⟨_,rfl⟩
    obtain⟨j,hj,rfl,hJ⟩:=hrel
    by_cases hjl:j<m
    ·have hjb:j<st.ends.length:=by rw[HM.out];exact hjl
     obtain⟨e,f,cs2,rfl,_,_,hP2,hd⟩:=(HE.out.old hJ.out).elem hjb;have hlen2:=CK.len hP2;have hbr:=XG.out j hjb;go_upto_region 11 with(first|(refine aX qB rfl _ rfl rfl cs2 hlen2 hd ?_)|(refine ae (dE qB.1) rfl _ _ rfl rfl cs2 rfl (Bk.new _ _ _) hlen2 rfl (CK.one hP2) ?_;intro W2 p2;go_frame))
     obtain⟨v,u,rfl,_,_⟩:=hP2;have hB2:Below wl.heap.size wl W2:=p2.below _ _ (ba _ _) zL;have HB2:=zH (hJ.out.trans (hB2.mono hJ.out.size));have r0:=p2.bk.cell 0;have r6:¬st.ends[j].branch<0:=by omega
     clear p2 hd hlen2 hB2;go_wp2_with fail
     exact⟨⟨j+1,hjl,by go_num,HB2⟩,by simp[intOf];omega⟩
    ·obtain rfl:j=m:=by omega
     go_wp2_with fail
     exact⟨⟨k+1,hlt,by go_num,zH (yH.out.trans (hJ.out.mono yH.out.size))⟩,by simp[intOf];omega⟩
  ·obtain rfl:k=n:=by omega
   go_wp2_with fail
   go_ret
   exact⟨rfl,HB.out.trans (hI.out.mono HB.out.size)⟩
end
theorem rowI {w:World} {B:Nat} {v:Value} {ks:List Int} (h:w.ownsRow B 3 1 v ks.length (aU ks)) (hl:ks.length<=1000000000000):Sl jV (fun _=>True) ks v w:=by
 obtain⟨A,c,rfl,_⟩:=bg h
 have hc:∀l:List Int,(l.map fun k=>(k,[Value.int .i64 k])).flatMap Prod.snd=aU l:=fun l=>by
  induction l with
  |nil=>rfl
  |cons k l ih=>rw[List.map_cons,List.flatMap_cons,ih];rfl
 exact⟨A,c,rfl,hl,ks.map fun k=>(k,[.int .i64 k]),by rw[List.map_map];exact List.map_id _,by rw[hc];exact(rM h).keep fun b _ hlt=>⟨trivial,hlt,rfl⟩,fun p hp=>by obtain⟨k,_,rfl⟩:=List.mem_map.1 hp;rfl⟩
def plK (t:oC):Bool:=decide (t.keys.length<=1000000000000)&&(decide (t.branches.length<=1000000000000)&&t.branches.all fun b=>decide (b.ps.length<=1000000000000)&&b.ps.all fun p=>decide (p.gs.length<=1048576)&&decide (p.cs.length<=1048576))
theorem iq.row {D B:Nat} {t:oC} {v:Value} {W:World} (h:iq D B t v W) (hb:plK t=true):∃cs:List Value,v=.agg cs.toArray/\mP D (fun _=>True) t.aP t.keys t.branches cs W:=by
 obtain⟨kv,bv,bs,hv,hk,hp,ht⟩:=h;unfold plK at hb;simp only[Bool.and_eq_true,decide_eq_true_eq,List.all_eq_true]at hb;have hbl:bs.length=t.branches.length:=by rw[<-ht];simp
 have hmem:∀b∈bs,mJ D b∈t.branches:=fun b hb'=>by rw[<-ht];exact List.mem_map.2 ⟨b,hb',rfl⟩
 have lF:=hp.dI;obtain⟨Ab,cb,rfl,_⟩:=bg lF;refine⟨[_,_,_],hv,_,_,rfl,rowI hk hb.1,Ab,cb,by rw[hbl],hb.2.1,bs.map fun b=>(mJ D b,b.cells),by rw[List.map_map,<-ht];rfl,?_,fun q hq=>?_⟩
 ·rw[List.flatMap_map];exact(rM lF).keep fun b _ hlt=>⟨trivial,hlt,rfl⟩
 obtain⟨b,hb',rfl⟩:=List.mem_map.1 hq;have h1:=hp.prt b hb';obtain⟨Ap,cp,hpv,_⟩:=bg h1;rw[hpv]at h1
 have hpl:b.ps.length<=1000000000000:=by
  have:=(hb.2.2 _ (hmem b hb')).1
  simpa[mJ]using this
 refine⟨b.parts,rfl,Ap,cp,by rw[hpv];show _=Value.slice Ap (b.ps.map (partT D)).length cp;rw[List.length_map],by show(b.ps.map (partT D)).length<=_;rw[List.length_map];exact hpl,b.ps.map fun p=>(partT D p,p.cells),by rw[List.map_map];rfl,?_,fun q hq=>?_⟩
 ·rw[List.flatMap_map];exact(rM h1).keep fun b _ hlt=>⟨trivial,hlt,rfl⟩
 obtain⟨p,hp',rfl⟩:=List.mem_map.1 hq;have hm:=(hb.2.2 _ (hmem b hb')).2 (partT D p) (List.mem_map.2 ⟨p,hp',rfl⟩);have hz:∀z∈qf p,z∈dU bs:=fun z hz=>List.mem_flatMap.2 ⟨b,hb',List.mem_flatMap.2 ⟨p,hp',hz⟩⟩
 have key:∀z∈qf p,z.2.length<=1048576->Nd D (fun _=>True) (z.2.map (bz D)) z.1 W:=fun z hz' hl=>by
  have h1:=hp.Cf z (hz z hz');obtain⟨A,c,hv,_⟩:=bg h1;rw[hv]at h1;exact⟨A,c,z.2,hv,(rM h1).keep fun b _ hlt=>⟨trivial,hlt,rfl⟩,fun y hy=>(hp.kids z (hz z hz') y hy).keep fun b _ hlt=>⟨trivial,hlt,rfl⟩,rfl,hl⟩
 exact⟨p.g,p.c,rfl,key (p.g,p.gs) (by simp[qf]) (by simpa[partT]using hm.1),key (p.c,p.cs) (by simp[qf]) (by simpa[partT]using hm.2)⟩
def zCc (l:List lh):List (Int×Int×Bool×Int×Nat×List (Int×Nat×Nat)):=l.map fun s=>(s.parent,s.type,s.many,s.window,s.bars.length,s.ends.map fun e=>(e.branch,e.cs.length,e.bars.length))
theorem pk14 (h:Nat):plK (pV (jB h) CX).1=true:=by kernel_rfl
theorem sk14 (h:Nat):zCc (yX 3 (pV (jB h) CX).1.keys (pV (jB h) CX).1.branches).1.states=[(-1,0,false,9,0,[]),(0,1,true,9,1,[(0,1,1)])]:=by kernel_rfl
theorem ek14 (h:Nat):(yX 3 (pV (jB h) CX).1.keys (pV (jB h) CX).1.branches).2=0:=by kernel_rfl
theorem gk14 (h:Nat):(yX 3 (pV (jB h) CX).1.keys (pV (jB h) CX).1.branches).1.aP=3:=by kernel_rfl
theorem zDi {l:List lh} (h:zCc l=[(-1,0,false,9,0,[]),(0,1,true,9,1,[(0,1,1)])]):∃s0 s1 e,l=[s0,s1]/\s1.parent=0/\s1.bars.length=1/\s1.ends=[e]/\e.cs.length=1/\e.bars.length=1/\zC1 3 l:=by
 unfold zCc at h;have hl2:l.length=2:=by simpa using congrArg List.length h
 obtain⟨s0,s1,rfl⟩:∃s0 s1,l=[s0,s1]:=by
  match l,hl2 with
  |[x,y],_=>exact⟨x,y,rfl⟩
 simp only[List.map_cons,List.map_nil,List.cons.injEq,and_true,Prod.mk.injEq,List.map_eq_nil_iff]at h;obtain⟨⟨a1,a2,a3,a4,a5,a6⟩,b1,b2,b3,b4,b5,b6⟩:=h
 obtain⟨e,hse⟩:∃e,s1.ends=[e]:=by
  have hl1:s1.ends.length=1:=by simpa using congrArg List.length b6
  match hx:s1.ends,hl1 with
  |[x],_=>exact⟨x,rfl⟩
 rw[hse]at b6;simp only[List.map_cons,List.map_nil,List.cons.injEq,and_true,Prod.mk.injEq]at b6;refine⟨s0,s1,e,rfl,b1,b5,hse,b6.2.1,b6.2.2,by decide,by simp,fun i hi=>?_⟩
 match i,hi with
 | 0, _ => exact ⟨by show -1 ≤ s0.parent ∧ s0.parent < 0; omega, by show 0 ≤ s0.type; omega, by show 0 ≤ s0.window ∧ s0.window ≤ _; omega, fun j hj => by
   have hj:j<s0.ends.length:=hj;rw[a6]at hj
   cases hj⟩
 | 1, _ => exact ⟨by show -1 ≤ s1.parent ∧ s1.parent < 1; omega, by show 0 ≤ s1.type; omega, by show 0 ≤ s1.window ∧ s1.window ≤ _; omega, fun j hj => by
   have hj2:j<s1.ends.length:=hj
   have:∀x∈s1.ends,0<=x.branch:=fun x hx=>by
    rw[hse]at hx;simp only[List.mem_cons,List.not_mem_nil,or_false]at hx;subst hx;omega
   exact this _ (List.getElem_mem hj2)⟩
theorem zB6 (w:World):Calls Try.prog 7 #[] w (Yes w):=by
 have Sz:Hid (∀W:World,Calls Try.prog 20 #[] W fun r w'=>r=.returned (.agg #[.slice (jB W.heap.size).ta 3 (jB W.heap.size).tc,.slice (jB W.heap.size).sa 1 (jB W.heap.size).sc])/\(jB W.heap.size).ok w' w'.heap.size/\Below W.heap.size W w'):=zH fun W=>Uj W
 go_enter Try.func7,Try.ntmps7
 go_wp2_with fail
 refine(Sz.out w).mono ?_;rintro r w1 ⟨rfl,hs1,hb1⟩;obtain⟨h,hh⟩:∃z,w.heap.size=z:=⟨_,rfl⟩
 rw[hh]at hs1;have Pq:=zH (Tz 200 zL (jB h) ⟨CX.toArray⟩ w1 hs1 (fun _=>zBq (by rw[ByteArray.toList_eq];exact qb14)));rw[ByteArray.toList_eq]at Pq;have HB1:=zH hb1;have HH:=zH hh;clear hs1 hb1 Sz;rw[hh];go_wp2_with fail
 refine Pq.out.mono ?_;rintro r w2 ⟨pv,rfl,hpr,hb2⟩;have hok:=ok14 h;have hst:=st14 h;obtain⟨cs,hv,hpp⟩:=hpr.row (pk14 h);rw[hst]at hpp;have hsh:=sk14 h;have hbe:=ek14 h;have hgs:=gk14 h;obtain⟨⟨t,Vz⟩,ht⟩:∃z,pV (jB h) CX=z:=⟨_,rfl⟩
 rw[ht]at hok hsh hbe hgs hpr hpp⊢;simp only at hok hsh hbe hgs hpr hpp⊢;subst hok hv;obtain⟨kv,bv,rfl,hk,hb⟩:=hpp;obtain⟨Ak,ck,rfl⟩:=hk.form;obtain⟨Ab,cb,rfl⟩:=hb.form;have HB2:=zH (HB1.out.trans (hb2.mono HB1.out.size));have HFX:=zH (And.intro hsh (And.intro hbe hgs));have HKB:=zH (And.intro hk hb);clear hk hb hb2 hpr Pq HB1 HH hsh hbe hgs hst ht hh;go_upto_region 2 with(refine ae mQ rfl _ _ rfl rfl [.int .i64 (3:Nat),.slice Ak t.keys.length ck,.slice Ab t.branches.length cb] rfl (Bk.new _ _ _) rfl rfl rfl ?_;intro w3 p3;go_frame)
 have hb3:Below w2.heap.size w2 w3:=p3.below _ _ (ba _ _) zL;have HB3:=zH (HB2.out.trans (hb3.mono HB2.out.size));have hbd:=zC6 (d:=200) (S:=fun _=>True) (aC:=3) (ks:=t.keys) (bs:=t.branches) (cs:=[.int .i64 3,.slice Ak t.keys.length ck,.slice Ab t.branches.length cb]) (w:=w3) ⟨_,_,rfl,HKB.out.1.keep (.old hb3),HKB.out.2.keep (.old hb3)⟩;rw[HFX.out.2.1,HFX.out.2.2]at hbd;have Fz:=zH hbd;have HK3:=zH p3.bk;clear p3 hb3 hbd HKB HB2;go_wp2_with (refine iG mQ Qi rfl (.tmp 1) rfl rfl [.int .i64 3,.slice Ak t.keys.length ck,.slice Ab t.branches.length cb] rfl (fun i v hv=>by rw[Nat.zero_add,HK3.out.cell i];simpa using hv) ?_)
 refine Fz.out.mono ?_;rintro r w4 ⟨cs4,rfl,har,hb4⟩;obtain⟨s0,s1,e1,hl,f1,f2,f3,f4,f5,hgw⟩:=zDi HFX.out.1;rw[hl]at har hgw;obtain⟨Jl,bv4,rfl,hk4,AS,cS,rfl,hbl4,hrw⟩:=har;obtain⟨Ak4,ck4,rfl⟩:=hk4.form;obtain⟨gS,oS,cs1,rfl,_,UU,hP1,hc1⟩:=hrw.elem (k:=1) (by simp);obtain⟨v4,v5,v6,v7,rfl,i4,_,_,A7,c7,rfl,_,i7⟩:=hP1;obtain⟨ge,oe,cs2,rfl,_,hge,hP2,hc2⟩:=i7.elem (k:=0) (by show 0<s1.ends.length;rw[f3];simp);obtain⟨u1,u2,rfl,j1,j2⟩:=hP2;obtain⟨B4,d4,rfl⟩:=i4.form;obtain⟨B1,d1,rfl⟩:=j1.form;obtain⟨B2,d2,rfl⟩:=j2.form
 have E8:w4.cell? ⟨gS,oS+8,none⟩=some (.int .i64 0):=by
  have h:w4.cell? ⟨gS,oS+8,none⟩=some (.int .i64 s1.parent):=hc1 0 _ rfl
  rwa [f1]at h
 have E12:w4.cell? ⟨gS,oS+8+4,none⟩=some (.slice B4 1 d4):=by
  have h:w4.cell? ⟨gS,oS+8+4,none⟩=some (.slice B4 s1.bars.length d4):=hc1 4 _ rfl
  rwa [f2]at h
 have E15:w4.cell? ⟨gS,oS+8+7,none⟩=some (.slice (some ⟨ge,oe,none⟩) 1 c7):=by
  have h:w4.cell? ⟨gS,oS+8+7,none⟩=some (.slice (some ⟨ge,oe,none⟩) s1.ends.length c7):=hc1 7 _ rfl
  rwa [f3]at h
 obtain⟨e2,he2⟩:∃z,([s0,s1][1]).ends[0]'(by show 0<s1.ends.length;rw[f3];simp)=z:=⟨_,rfl⟩
 have he3:e2=e1:=by
  rw[<-he2];have:s1.ends[0]'(by rw[f3];simp)=e1:=by simp[f3]
  exact this
 subst he3
 have F1:w4.cell? ⟨ge,oe+1,none⟩=some (.slice B1 1 d1):=by
  have h:=hc2 1 _ rfl;rw[he2,f4,Nat.zero_mul,Nat.add_zero]at h;exact h
 have F2:w4.cell? ⟨ge,oe+2,none⟩=some (.slice B2 1 d2):=by
  have h:=hc2 2 _ rfl;rw[he2,f5,Nat.zero_mul,Nat.add_zero]at h;exact h
 have HB4:=zH (HB3.out.trans (hb4.mono HB3.out.size));obtain⟨kk,hkk⟩:∃z,(yX 3 t.keys t.branches).fst.keys=z:=⟨_,rfl⟩
 rw[hkk]at hk4⊢;obtain⟨nk,hnk⟩:∃z,kk.length=z:=⟨_,rfl⟩
 have II:Hid (∀W,Below w4.heap.size w4 W->Calls Try.prog 8 #[.agg #[.int .i64 3,.slice Ak4 nk ck4,.slice (some ⟨gS,oS,none⟩) 2 cS]] W (Yes W)):=zH fun W hW=>by
  have h1:=hk4.keep (.old hW);rw[<-hnk];exact zDh (ks:=kk) (cs:=[_,_,_]) ⟨_,_,rfl,h1,some ⟨gS,oS,none⟩,cS,rfl,by simp,hrw.old hW⟩ hgw
 rw[hnk];have hgS':gS<w4.heap.size:=UU;clear hk4 hrw i4 i7 j1 j2 hc1 hc2 hgw hbl4 hkk hnk HFX Fz HB3;go_wp2_with (first|(refine ae iY rfl _ _ rfl rfl [.int .i64 3,.slice Ak4 nk ck4,.slice (some ⟨gS,oS,none⟩) 2 cS] rfl (Bk.new w4 _ _) rfl rfl rfl ?_;intro w5 p5;refine Hid.out ?_))
 refine zH ?_;have hb5:Below w4.heap.size w4 w5:=p5.below _ _ (ba _ _) zL;have a0:=p5.bk.cell 0;have a1:=p5.bk.cell 1;have a2:=p5.bk.cell 2;simp only[List.getElem?_toArray,List.getElem?_cons_zero,List.getElem?_cons_succ]at a0 a1 a2;have zBs:=bc hb5 E8;have G12:=bc hb5 E12;have G15:=bc hb5 E15;have H1:=bc hb5 F1;have H2:=bc hb5 F2;have HG5:=zH (II.out w5 hb5);have RH:=zH (HB4.out.trans (hb5.mono HB4.out.size));obtain⟨g4,hg4⟩:∃z,w4.heap.size=z:=⟨_,rfl⟩
 rw[hg4]at a0 a1 a2⊢;clear p5 hb5 E8 E12 E15 F1 F2 UU hge hgS' hg4 II HB4;go_wp2_with fail
 refine HG5.out.mono ?_;rintro r w6 ⟨rfl,hb6⟩;have HF:=zH (RH.out.trans (hb6.mono RH.out.size));clear hb6 HG5 RH a0 a1 a2 zBs G12 G15 H1 H2;go_wp2_with fail
 go_ret
 exact⟨rfl,HF.out⟩
end Go.Proofs.Ytbjnhllkdilpfaa
