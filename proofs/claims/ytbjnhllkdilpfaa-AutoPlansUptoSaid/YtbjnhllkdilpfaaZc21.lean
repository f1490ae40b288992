/- Part 21 of the proof. No conditions. -/
import Derived.Test.YtbjnhllkdilpfaaZc19
import Derived.Test.YtbjnhllkdilpfaaZc20
namespace Go.Proofs.Ytbjnhllkdilpfaa
open Go.RowKit
set_option maxRecDepth 100000
set_option maxHeartbeats 16000000
set_option linter.unusedVariables false
set_option linter.unusedSimpArgs false
def yZ (d:Nat) (S:Nat->Prop) (b:Ce) (cs:List Value) (w:World):Prop:=∃v,cs=[.int .i64 b.type,v]/\Nd d S b.gs v w
def NJ (d:Nat) (S:Nat->Prop) (e:PZ) (cs:List Value) (w:World):Prop:=∃v u,cs=[.int .i64 e.branch,v,u]/\Nd d S e.cs v w/\Sl (yZ d) S e.bars u w
def StP (d:Nat) (S:Nat->Prop) (s:lh) (cs:List Value) (w:World):Prop:=∃v4 v5 v6 v7,cs=[.int .i64 s.parent,.int .i64 s.type,.bool s.many,.int .i64 s.window,v4,v5,v6,v7]/\Sl (yZ d) S s.bars v4 w/\Nd d S s.lv v5 w/\Nd d S s.gs v6 w/\Sl (NJ d) S s.ends v7 w
def Ja (d:Nat) (S:Nat->Prop) (p:kM) (cs:List Value) (w:World):Prop:=∃v u,cs=[.int .i64 p.form,.int .i64 p.type,v,u]/\Nd d S p.gs v w/\Nd d S p.cs u w
def uB (d:Nat) (S:Nat->Prop) (b:bQ) (cs:List Value) (w:World):Prop:=∃v,cs=[.int .i64 b.id,.int .i64 b.window,v]/\Sl (Ja d) S b.ps v w
instance (d:Nat):CK 2 (yZ d) where
 pos:=by decide
 keep:=fun hk ⟨v,h1,h2⟩=>⟨v,h1,h2.keep hk⟩
 len:=fun⟨v,h1,h2⟩=>by rw[h1];rfl
 one:=fun⟨v,h1,h2⟩=>by subst h1;simp only[List.all_cons,List.all_nil,h2.one];rfl
instance (d:Nat):CK 3 (NJ d) where
 pos:=by decide
 keep:=fun hk ⟨v,u,h1,h2,h3⟩=>⟨v,u,h1,h2.keep hk,h3.keep hk⟩
 len:=fun⟨v,u,h1,_⟩=>by rw[h1];rfl
 one:=fun⟨v,u,h1,h2,h3⟩=>by subst h1;simp only[List.all_cons,List.all_nil,h2.one,h3.one];rfl
instance (d:Nat):CK 8 (StP d) where
 pos:=by decide
 keep:=fun hk ⟨v4,v5,v6,v7,h1,h2,h3,h4,h5⟩=>⟨v4,v5,v6,v7,h1,h2.keep hk,h3.keep hk,h4.keep hk,h5.keep hk⟩
 len:=fun⟨v4,v5,v6,v7,h1,_⟩=>by rw[h1];rfl
 one:=fun⟨v4,v5,v6,v7,h1,h2,h3,h4,h5⟩=>by subst h1;simp only[List.all_cons,List.all_nil,h2.one,h3.one,h4.one,h5.one];rfl
instance (d:Nat):CK 4 (Ja d) where
 pos:=by decide
 keep:=fun hk ⟨v,u,h1,h2,h3⟩=>⟨v,u,h1,h2.keep hk,h3.keep hk⟩
 len:=fun⟨v,u,h1,_⟩=>by rw[h1];rfl
 one:=fun⟨v,u,h1,h2,h3⟩=>by subst h1;simp only[List.all_cons,List.all_nil,h2.one,h3.one];rfl
instance (d:Nat):CK 3 (uB d) where
 pos:=by decide
 keep:=fun hk ⟨v,h1,h2⟩=>⟨v,h1,h2.keep hk⟩
 len:=fun⟨v,h1,h2⟩=>by rw[h1];rfl
 one:=fun⟨v,h1,h2⟩=>by subst h1;simp only[List.all_cons,List.all_nil,h2.one];rfl
theorem vF:I9 41 52 2 32:=⟨⟨Try.underlying41,⟨.agg #[.int .i64 0,.slice none 0 0],by kernel_rfl,rfl⟩,by decide⟩,fun w=>by simp[isAgg,go_sem]⟩
theorem qB:I9 42 55 3 56:=⟨⟨Try.underlying42,⟨.agg #[.int .i64 0,.slice none 0 0,.slice none 0 0],by kernel_rfl,rfl⟩,by decide⟩,fun w=>by simp[isAgg,go_sem]⟩
theorem qC:I9 32 44 8 128:=⟨⟨Try.underlying32,⟨.agg #[.int .i64 0,.int .i64 0,.bool false,.int .i64 0,.slice none 0 0,.slice none 0 0,.slice none 0 0,.slice none 0 0],by kernel_rfl,rfl⟩,by decide⟩,fun w=>by simp[isAgg,go_sem]⟩
theorem nC:I9 26 31 4 64:=⟨⟨Try.underlying26,⟨.agg #[.int .i64 0,.int .i64 0,.slice none 0 0,.slice none 0 0],by kernel_rfl,rfl⟩,by decide⟩,fun w=>by simp[isAgg,go_sem]⟩
theorem dH:I9 23 28 3 40:=⟨⟨Try.underlying23,⟨.agg #[.int .i64 0,.int .i64 0,.slice none 0 0],by kernel_rfl,rfl⟩,by decide⟩,fun w=>by simp[isAgg,go_sem]⟩
theorem LY {d:Nat} {S:Nat->Prop} {ns:List au} {ts:List T} {w w':World} {e:Ending} (h4:ns.length<=1048576) (h2:∀y∈ns,okS S d y w) (h3:ns.map (bz d)=ts) (h:uz d ns w e w'):Rt ts.length (Nd d (fun q=>w.heap.size<=q) ts) w e w':=by
 obtain⟨A',c',l',rfl,h5,h6,h7,h8,h9⟩:=h;subst h3;rw[List.length_map];refine⟨_,_,rfl,⟨A',c',l',by rw[h5],rM h7,fun y hy=>(h8 y hy).keep fun b hb hlt=>⟨hb.1,hlt,rfl⟩,?_,by omega⟩,h9⟩
 apply List.ext_getElem (by simpa using h5)
 intro i h10 h11;simp only[List.length_map]at h10 h11;rw[List.getElem_map,List.getElem_map];exact(Ei (h2 _ (List.getElem_mem h11)).n (h8 _ (List.getElem_mem h10)).n (h6 i _ _ (List.getElem?_eq_getElem h11) (List.getElem?_eq_getElem h10))).symm
theorem xG {d:Nat} {S:Nat->Prop} {ts:List T} {v:Value} {w:World} (h:Nd d S ts v w):Calls Try.prog 23 #[v] w (Rt ts.length (Nd d (fun q=>w.heap.size<=q) ts) w):=by
 obtain⟨A,c,ns,rfl,h1,h2,h3,h4⟩:=h;refine(twin_any d ns A c w (fun x hx=>(h2 x hx).n) h1.rd h4).mono ?_;exact fun e w' h5=>LY h4 h2 h3 h5
theorem Gi {d:Nat} {S:Nat->Prop} {bs:List Ce} {v:Value} {w:World} (h:Sl (yZ d) S bs v w):Calls Try.prog 22 #[v] w (Rt bs.length (Sl (yZ d) (fun q=>w.heap.size<=q) bs) w):=by
 obtain⟨A,c,rfl,hl,h⟩:=h;have HR:=zH h;clear h
 go_enter Try.func22,Try.ntmps22
 go_wp2_with fail
 go_loopw[3,8] (fun vs i wr=>∃k:Nat,k<=bs.length/\i=.int .i64 k/\Hid (Below w.heap.size w wr/\Bd (fun q=>w.heap.size<=q) w.heap.size 52 2 (yZ d) (bs.take k) vs wr)) (fun _ i _=>bs.length-(intOf i).toNat)
 case atStart=>exact⟨0,Nat.zero_le _,rfl,zH ⟨Below.refl _ _,Bd.nil zL⟩⟩
 case round=>
  obtain⟨k,hk,rfl,hI⟩:=hrel;obtain⟨Av,cv,rfl,_⟩:=hI.out.2.form;rw[List.length_take,Nat.min_eq_left hk]at hI⊢
  by_cases hlt:k<bs.length
  ·obtain⟨b,o,cs,rfl,_,hb,hP,hc⟩:=(HR.out.old hI.out.1).elem hlt;have hlen:=CK.len hP;go_upto_region 5 with(first|(refine aX vF rfl _ rfl rfl cs hlen hc ?_)|(refine ae (dE vF.1) rfl _ _ rfl rfl cs rfl (Bk.new _ _ _) hlen rfl (CK.one hP) ?_;intro W pW;go_frame))
   obtain⟨g,rfl,hg⟩:=hP;have x1:=pW.bk.cell 1;have hBW:Below wr.heap.size wr W:=pW.below _ _ (zR.alloc zL _) zL;go_wp2_with fail
   refine(xG (hg.keep (.old hBW))).mono ?_;rintro e w1 ⟨A1,c1,rfl,hu,hb1⟩;have k1:=pW.bk.old hb1;have f1:=k1.frozen 1;have x1:=k1.cell 1;have k2:=k1.put 1 (.slice A1 bs[k].gs.length c1);have hB2:Below wr.heap.size wr (w1.setCell ⟨wr.heap.size,1,none⟩ (.slice A1 bs[k].gs.length c1)):=(hBW.trans (hb1.mono hBW.size)).setCell zL _;have hI2:=hI.out.2.old hB2;have hz:=hI.out.1.size;have hzW:W.heap.size=wr.heap.size+1:=by rw[pW.size];simp
   have hz2:wr.heap.size<=w1.heap.size:=by simpa using hB2.size
   have hu2:=hu.keep (S':=fun q=>w.heap.size<=q/\some q≠(Value.slice Av k cv).ownBlock) (fE.set (p:=⟨wr.heap.size,1,none⟩) (v:=.slice A1 bs[k].gs.length c1) fun b hb=>⟨⟨by omega,fun e=>by have:=(hI.out.2.lt e.symm).2;omega⟩,by show b≠wr.heap.size;omega⟩);go_wp2_with (first|(refine aX vF rfl _ rfl rfl [.int .i64 bs[k].type,.slice A1 bs[k].gs.length c1] rfl (fun j v hv=>by rw[Nat.zero_add,k2.cell j];simpa using hv) ?_)|(refine iE vF rfl _ rfl [.int .i64 bs[k].type,.slice A1 bs[k].gs.length c1] rfl rfl ?_)|(at_builtin;refine gU vF rfl _ _ rfl rfl (hI2.old (ba _ _)) rfl [.int .i64 bs[k].type,.slice A1 bs[k].gs.length c1] (Bk.newAt (by simp) _ _) hlt ⟨_,rfl,hu2.keep (.old (ba _ _))⟩ hl (by simp;omega) ?_;intro A9 c9 w9 h9 uC jG))
   exact⟨⟨k+1,hlt,by go_num,zH ⟨uC _ _ zL (by simp;omega) ((hI.out.1.trans (hB2.mono hz)).alloc (by simp;omega) _),h9⟩⟩,by simp[intOf];omega⟩
  ·obtain rfl:k=bs.length:=by omega
   rw[List.take_length]at hI;go_wp2_with fail
   go_ret
   exact⟨_,_,rfl,hI.out.2.sl (fun _ h=>h) hl,hI.out.1⟩
def Ro {α:Type} (S:Nat->Prop) (t n:Nat) (P:(Nat->Prop)->α->List Value->World->Prop) (xs:List α) (w:World) (e:Ending) (w':World):Prop:=∃A c,e=.returned (.slice A xs.length c)/\Bd S w.heap.size t n P xs (.slice A xs.length c) w'/\Below w.heap.size w w'
def ed (l:List Ce):List kM:=l.map fun b=>⟨3,b.type,b.gs,[]⟩
theorem Nd.nil (d:Nat) (S:Nat->Prop) (w:World):Nd d S [] (.slice none 0 0) w:=⟨none,0,[],rfl,.inl rfl,fun y hy=>absurd hy (by simp),rfl,by decide⟩
theorem P8 {d:Nat} {S:Nat->Prop} {bs:List Ce} {v:Value} {w:World} (h:Sl (yZ d) S bs v w):Calls Try.prog 29 #[v] w (Ro S 31 4 (Ja d) (ed bs) w):=by
 obtain⟨A,c,rfl,hl,h⟩:=h;have HR:=zH h.lo;obtain⟨NT,hnt⟩:∃z,ed bs=z:=⟨_,rfl⟩
 have hnl:NT.length=bs.length:=by rw[<-hnt];simp[ed]
 have HN:=zH hnt;rw[hnt];clear h hnt
 go_enter Try.func29,Try.ntmps29
 go_wp2_with fail
 go_loopw[3,8] (fun vs i wr=>∃k:Nat,k<=bs.length/\i=.int .i64 k/\Hid (Below w.heap.size w wr/\Bd S w.heap.size 31 4 (Ja d) (NT.take k) vs wr)) (fun _ i _=>bs.length-(intOf i).toNat)
 case atStart=>exact⟨0,Nat.zero_le _,rfl,zH ⟨Below.refl _ _,Bd.nil zL⟩⟩
 case round=>
  obtain⟨k,hk,rfl,hI⟩:=hrel;obtain⟨Av,cv,rfl,_⟩:=hI.out.2.form;rw[List.length_take,Nat.min_eq_left (by omega)]at hI⊢
  by_cases hlt:k<bs.length
  ·obtain⟨b,o,cs,rfl,_,hb,hP,hc⟩:=(HR.out.old hI.out.1).elem hlt;have hlen:=CK.len hP;go_upto_region 5 with(first|(refine aX vF rfl _ rfl rfl cs hlen hc ?_)|(refine ae (dE vF.1) rfl _ _ rfl rfl cs rfl (Bk.new _ _ _) hlen rfl (CK.one hP) ?_;intro W pW;go_frame))
   obtain⟨g,rfl,hg⟩:=hP;obtain⟨A2,c2,rfl⟩:=hg.form;have hz:=hI.out.1.size;have hBW:Below wr.heap.size wr W:=pW.below _ _ (ba _ _) zL;have hzW:=hBW.size;have x0:=pW.bk.cell 0;have x1:=pW.bk.cell 1;have hI2:=hI.out.2.old hBW;have hN:NT[k]=⟨3,bs[k].type,bs[k].gs,[]⟩:=by simp[<-HN.out,ed]
   have hg2:=(hg.keep (.old hBW)).keep (S':=fun q=>S q/\some q≠(Value.slice Av k cv).ownBlock) fun q hq hlt=>⟨⟨hq.1,fun e=>by have:=(hI.out.2.lt e.symm).1;omega⟩,hlt,rfl⟩
   go_wp2_with (first|(refine iE nC rfl _ rfl [.int .i64 (3:Nat),.int .i64 bs[k].type,.slice A2 bs[k].gs.length c2,.slice none 0 0] rfl rfl ?_)|(at_builtin;refine gU nC rfl _ _ rfl rfl (hI2.old (ba _ _)) rfl [.int .i64 (3:Nat),.int .i64 bs[k].type,.slice A2 bs[k].gs.length c2,.slice none 0 0] (Bk.newAt (by simp) _ _) (by omega:k<NT.length) (by rw[hN];exact⟨_,_,rfl,hg2.keep (.old (ba _ _)),Nd.nil _ _ _⟩) (by omega) (by simp;omega) ?_;intro A9 c9 w9 h9 uC jG))
   exact⟨⟨k+1,hlt,by go_num,zH ⟨uC _ _ zL (by simp;omega) ((hI.out.1.trans (hBW.mono hz)).alloc (by omega) _),h9⟩⟩,by simp[intOf];omega⟩
  ·obtain rfl:k=bs.length:=by omega
   rw[show NT.take bs.length=NT by rw[<-hnl,List.take_length]]at hI;go_wp2_with fail
   go_ret
   exact⟨Av,cv,by rw[hnl];rfl,by rw[hnl];exact hI.out.2,hI.out.1⟩
theorem zt {d:Nat} {S:Nat->Prop} {ts:List T} {v:Value} {w:World} (h:Nd d S ts v w):Calls Try.prog 18 #[v] w (Rt ts.length (Nd d (fun q=>w.heap.size<=q) ts) w):=by
 obtain⟨A,c,ns,rfl,h1,h2,h3,h4⟩:=h;refine(xC d ns A c w (fun x hx=>(h2 x hx).n) h1.rd h4).mono ?_;exact fun e w' h5=>LY h4 h2 h3 h5
theorem Xb {d:Nat} {S:Nat->Prop} {bs:List Ce} {v:Value} {w:World} (h:Sl (yZ d) S bs v w):Calls Try.prog 25 #[v] w (Ro (fun q=>w.heap.size<=q) 31 4 (Ja d) (ed bs) w):=by
 obtain⟨A,c,rfl,hl,h⟩:=h;have HR:=zH h;obtain⟨NT,hnt⟩:∃z,ed bs=z:=⟨_,rfl⟩
 have hnl:NT.length=bs.length:=by rw[<-hnt];simp[ed]
 have HN:=zH hnt;rw[hnt];clear h hnt
 go_enter Try.func25,Try.ntmps25
 go_wp2_with fail
 go_loopw[3,8] (fun vs i wr=>∃k:Nat,k<=bs.length/\i=.int .i64 k/\Hid (Below w.heap.size w wr/\Bd (fun q=>w.heap.size<=q) w.heap.size 31 4 (Ja d) (NT.take k) vs wr)) (fun _ i _=>bs.length-(intOf i).toNat)
 case atStart=>exact⟨0,Nat.zero_le _,rfl,zH ⟨Below.refl _ _,Bd.nil zL⟩⟩
 case round=>
  obtain⟨k,hk,rfl,hI⟩:=hrel;obtain⟨Av,cv,rfl,_⟩:=hI.out.2.form;rw[List.length_take,Nat.min_eq_left (by omega)]at hI⊢
  by_cases hlt:k<bs.length
  ·obtain⟨b,o,cs,rfl,_,hb,hP,hc⟩:=(HR.out.old hI.out.1).elem hlt;have hlen:=CK.len hP;go_upto_region 5 with(first|(refine aX vF rfl _ rfl rfl cs hlen hc ?_)|(refine ae (dE vF.1) rfl _ _ rfl rfl cs rfl (Bk.new _ _ _) hlen rfl (CK.one hP) ?_;intro W pW;go_frame))
   obtain⟨g,rfl,hg⟩:=hP;obtain⟨A2,c2,rfl⟩:=hg.form;have hz:=hI.out.1.size;have hBW:Below wr.heap.size wr W:=pW.below _ _ (ba _ _) zL;have hzW:=hBW.size;have x0:W.cell? ⟨wr.heap.size,0,none⟩=some (.int .i64 bs[k].type):=pW.bk.cell 0;have x1:W.cell? ⟨wr.heap.size,1,none⟩=some (.slice A2 bs[k].gs.length c2):=pW.bk.cell 1;have HG:=zH (hg.keep (.old hBW))
   refine wx (fun k=>false) [.is (.slice Av k cv),.is (.pointer (some ⟨wr.heap.size,0,none⟩)),.is (.int .i64 bs[k].type),.is (.pointer (some ⟨wr.heap.size,1,none⟩)),.is (.slice A2 bs[k].gs.length c2),
    sS (zo bs[k].gs.length (Nd d (fun q=>W.heap.size<=q) bs[k].gs) fun A c=>.slice A bs[k].gs.length c),
    sS (zo bs[k].gs.length (Nd d (fun q=>W.heap.size<=q) bs[k].gs) fun A c=>.agg #[.int .i64 3,.int .i64 bs[k].type,.slice A bs[k].gs.length c,.slice none 0 0]),
    sS (ExB 31 bs[k].gs.length (Nd d (fun q=>W.heap.size<=q) bs[k].gs) fun A c=>#[.int .i64 3,.int .i64 bs[k].type,.slice A bs[k].gs.length c,.slice none 0 0])] [5,6,7] (by kernel_rfl) (by kernel_rfl) (by kernel_rfl)
    (fun C=>.c (px C rfl (fun _ _=>rfl)) <| .c (px C rfl (fun _ _=>rfl)) <| .c (px C rfl (fun _ h=>bW (lJ (bc h x0)))) <| .c (px C rfl (fun _ _=>rfl)) <| .c (px C rfl (fun _ h=>bW (mM (bc h x1)))) <|
     .c (pz [4] [] (by kernel_rfl) fun qK qa wr hB qO qF hK=>?_) <| .c (pz [2,5] [] (by kernel_rfl) fun qK qa wr hB qO qF hK=>?_) <| .c (pz [6] [] (by kernel_rfl) fun qK qa wr hB qO qF hK=>?_) .nil) ?_
   ·have e16:=ay qF.1 rfl rfl;clear qO qF;go_simp
    go_at_call 18
    refine(zt (HG.out.keep (.old hB))).mono ?_;rintro e w2 ⟨A,c,rfl,h1,h2⟩;exact hK _ _ h2 ⟨A,c,rfl,h1.keep fun q hq hlt=>⟨Nat.le_trans hB.size hq,hlt,rfl⟩⟩
   ·have e14:=ay qF.1 rfl rfl;obtain⟨u17,e17,A,c,rfl,hn⟩:=qF.2.1;have e17:qa.tmps[17]? =some (.slice A bs[k].gs.length c):=e17;clear qO qF;go_simp;exact hK _ _ zR ⟨A,c,rfl,hn⟩
   ·obtain⟨u18,e18,A,c,rfl,hn⟩:=qF.1;clear qO qF;refine Eh nC (.tmp 18) rfl _ (aK e18) rfl ?_;exact hK _ _ (ba _ _) ⟨_,A,c,rfl,Bk.new _ _ _,hn.keep (.old (ba _ _))⟩
   intro qx wr' hB hR hS;obtain⟨g,A,c,r7,k7,n7⟩:=hR 7 rfl rfl;clear hR hS;simp only[bJ,List.length,List.take,List.drop,List.toList_toArray]
   go_frame
   generalize qx 7=z7 at r7⊢;subst r7;have hN:NT[k]=⟨3,bs[k].type,bs[k].gs,[]⟩:=by simp[<-HN.out,ed]
   have hB2:=hBW.trans (hB.mono hzW);have hz2:=hB2.size;have hg2:=n7.keep (S':=fun q=>w.heap.size<=q/\some q≠(Value.slice Av k cv).ownBlock) fun q hq hlt=>⟨⟨by omega,fun e=>by have:=(hI.out.2.lt e.symm).2;omega⟩,hlt,rfl⟩
   go_wp2_with (at_builtin;refine gU nC rfl _ _ rfl rfl (hI.out.2.old hB2) rfl [.int .i64 (3:Nat),.int .i64 bs[k].type,.slice A bs[k].gs.length c,.slice none 0 0] k7 (by omega:k<NT.length) (by rw[hN];exact⟨_,_,rfl,hg2,Nd.nil _ _ _⟩) (by omega) (by omega) ?_;intro A9 c9 w9 h9 uC jG)
   exact⟨⟨k+1,hlt,by go_num,zH ⟨uC _ _ zL (by omega) (hI.out.1.trans (hB2.mono hz)),h9⟩⟩,by simp[intOf];omega⟩
  ·obtain rfl:k=bs.length:=by omega
   rw[show NT.take bs.length=NT by rw[<-hnl,List.take_length]]at hI;go_wp2_with fail
   go_ret
   exact⟨Av,cv,by rw[hnl];rfl,by rw[hnl];exact hI.out.2,hI.out.1⟩
def mP (d:Nat) (S:Nat->Prop) (aC:Int) (ks:List Int) (bs:List bQ) (cs:List Value) (w:World):Prop:=∃kv bv,cs=[.int .i64 aC,kv,bv]/\Sl jV S ks kv w/\Sl (uB d) S bs bv w
theorem mQ (w:World):(sizeOf 25).run Try.prog w=.ok 3 w:=by
 obtain⟨i,hi,h0,h1,h2⟩:=info_parts (show(Try.prog.info? 25).map (fun i=>(i.zero,i.size,i.bytes))=some (some (.agg #[.int .i64 0,.slice none 0 0,.slice none 0 0]),3,56) by kernel_rfl);simp[sizeOf,typeInfo,hi,h1]
section
set_option maxRecDepth 100000
set_option maxHeartbeats 8000000
theorem XZ {d:Nat} {S:Nat->Prop} {aC:Int} {ks:List Int} {bs:List bQ} {cs:List Value} {w:World} (h:mP d S aC ks bs cs w):Calls Try.prog 30 #[.agg cs.toArray] w fun e w'=>∃cs',e=.returned (.agg cs'.toArray)/\mP d (fun q=>w.heap.size<=q) aC ks bs cs' w'/\Below w.heap.size w w':=by
 obtain⟨kv,bv,rfl,hk,hb⟩:=h;obtain⟨Ak,ck,rfl⟩:=hk.form;obtain⟨Ab,cb,hbv,hbl,hb⟩:=hb;subst hbv;have HK:=zH hk;have HR:=zH hb.lo;clear hk hb
 go_enter Try.func30,Try.ntmps30
 go_upto_region 1 with fail
 obtain⟨w0,hw0⟩:∃z,(w.alloc (.cells #[.int .i64 aC,.slice Ak ks.length ck,.slice Ab bs.length cb] 25)).alloc (.cells #[.int .i64 0,.slice none 0 0,.slice none 0 0] 25)=z:=⟨_,rfl⟩
 have k1:Bk w0 w.heap.size 25 #[.int .i64 aC,.slice Ak ks.length ck,.slice Ab bs.length cb]:=hw0▸(Bk.new _ _ _).alloc _;have k2:Bk w0 (w.heap.size+1) 25 #[.int .i64 0,.slice none 0 0,.slice none 0 0]:=hw0▸Bk.newAt (by simp) _ _;have hb0:Below w.heap.size w w0:=hw0▸bel2 w _ _;simp only[hw0];clear hw0;have x0:w0.cell? ⟨w.heap.size,0,none⟩=some (.int .i64 aC):=k1.cell 0;have x1:w0.cell? ⟨w.heap.size,1,none⟩=some (.slice Ak ks.length ck):=k1.cell 1
 refine wx (fun k=>k==6) [.is (.pointer (some ⟨w.heap.size,0,none⟩)),.is (.int .i64 aC),.is (.pointer (some ⟨w.heap.size,1,none⟩)),.is (.slice Ak ks.length ck),
  sS (zo ks.length (Bd (fun _=>False) w0.heap.size 3 1 jV ks) fun A c=>.slice A ks.length c),sS (zo ks.length (Bd (fun _=>False) w0.heap.size 3 1 jV ks) fun A c=>.agg #[.int .i64 aC,.slice A ks.length c,.slice none 0 0]),
  .st (fun v w=>∃g,v=.pointer (some ⟨g,0,none⟩)/\w0.heap.size<=g/\Bk w g 25 #[.int .i64 0,.slice none 0 0,.slice none 0 0]) (fun _ _ _ hb ⟨g,h1,h0,h2⟩=>⟨g,h1,h0,h2.old hb⟩)] [4,5,6] (by kernel_rfl) (by kernel_rfl) (by kernel_rfl)
  (fun C=>.c (px C rfl (fun _ _=>rfl)) <| .c (px C rfl (fun _ h=>bW (lJ (bc h x0)))) <| .c (px C rfl (fun _ _=>rfl)) <| .c (px C rfl (fun _ h=>bW (Eg (bc h x1)))) <|
   .c (pz [3] [] (by kernel_rfl) fun qK qa wr hB qO qF hK=>?_) <| .c (pz [1,4] [] (by kernel_rfl) fun qK qa wr hB qO qF hK=>?_) <| .c (pf [] [] (by kernel_rfl) fun qK qa wr hB qO qF hK=>?_) .nil) ?_
 ·exact zq (.tmp 12) rfl (aK (ay qF.1 rfl rfl)) ((HK.out.keep (.old hb0)).keep (.old hB)) fun A c w' h1 h2=>hK _ _ h2 ⟨A,c,rfl,h1.NH hB.size⟩
 ·have e10:=ay qF.1 rfl rfl;obtain⟨u13,e13,A,c,rfl,hn⟩:=qF.2.1;have e13:qa.tmps[13]? =some (.slice A ks.length c):=e13;clear qO qF;go_simp;exact hK _ _ zR ⟨A,c,rfl,hn⟩
 ·clear qO qF;go_simp;exact hK _ _ (ba _ _) ⟨_,rfl,hB.size,Bk.new _ _ _⟩ ⟨_,rfl,by simp,by simp⟩
 intro qx wr hB hR hS;obtain⟨A3,c3,r5,n5⟩:=hR 5 rfl rfl;obtain⟨g3,r6,hg3,k3⟩:=hR 6 rfl rfl;clear hR hS;simp only[bJ,List.length,List.take,List.drop,List.toList_toArray]
 go_frame
 generalize qx 6=z6 at r6⊢;generalize qx 5=z5 at r5⊢;subst r6 r5;go_upto_region 2 with(refine ae mQ rfl _ _ rfl rfl [.int .i64 aC,.slice A3 ks.length c3,.slice none 0 0] rfl k3 rfl rfl rfl ?_;intro W0 p0;go_frame)
 have hz0:=p0.size;have hzb:=hB.size;have hz1:=k2.lt;have JA:=k3.lt;have hbW:Below w.heap.size w W0:=p0.below _ _ (hb0.trans (hB.mono hb0.size)) (by omega);have xh:Hid (Bk W0 w.heap.size 25 #[.int .i64 aC,.slice Ak ks.length ck,.slice Ab bs.length cb]/\Bk W0 (w.heap.size+1) 25 #[.int .i64 0,.slice none 0 0,.slice none 0 0]/\Sl jV (fun q=>w0.heap.size<=q/\some q≠some g3) ks (.slice A3 ks.length c3) W0):=zH ⟨p0.BQ (k1.old hB) (by omega),p0.BQ (k2.old hB) (by omega),?keys⟩
 case keys=>exact(n5.Ur (S:=fun q=>w0.heap.size<=q/\some q≠some g3) (fun b hb he=>⟨hb,fun e=>n5.ne k3 (by decide) (e.symm.trans he.symm)⟩) (fun b h=>h.elim) HK.out.le).keep (fE.jC p0 fun b hb e=>hb.2 (congrArg some e))
 have HG:=zH p0;have HB0:=zH hbW;have HR0:=zH (HR.out.old hbW);have hww:=hb0.size;have hgW:g3<W0.heap.size:=p0.bk.lt;have hwW:w0.heap.size<=W0.heap.size:=by omega
 clear p0 k1 k2 k3 hB hb0 hbW x0 x1 n5 hz0 hzb HK JA;have y2:=xh.out.1.cell 2;go_wp2_with fail
 go_loopw[18] (fun i wr=>∃(k:Nat) (v:Value),k<=bs.length/\i=.int .i64 k/\Hid (W0.grownBy wr (some g3)/\Bk wr g3 25 #[.int .i64 aC,.slice A3 ks.length c3,v]/\Bd (fun q=>W0.heap.size<=q) W0.heap.size 28 3 (uB d) (bs.take k) v wr)) (fun i _=>bs.length-(intOf i).toNat)
 case atStart=>exact⟨0,_,Nat.zero_le _,rfl,zH ⟨World.grownBy.refl _ _,HG.out.bk,Bd.nil zL⟩⟩
 case round=>
  obtain⟨k,v,hk,rfl,hI⟩:=hrel;obtain⟨wo,rfl⟩:∃z:World,z=wr:=⟨_,rfl⟩
  obtain⟨Av,cv,rfl,_⟩:=hI.out.2.2.form;rw[List.length_take,Nat.min_eq_left hk]at hI;have hwz:=hI.out.1.size
  by_cases hlt:k<bs.length
  ·obtain⟨b,o,cs,hA,hSb,hb,hP,hc⟩:=(HR0.out.keep (fE.fJ hI.out.1 fun b hb=>by omega)).elem hlt;subst hA;have hlen:=CK.len hP;go_upto_region 5 with(first|(refine aX dH rfl _ rfl rfl cs hlen hc ?_)|(refine ae (dE dH.1) rfl _ _ rfl rfl cs rfl (Bk.new _ _ _) hlen rfl (CK.one hP) ?_;intro W1 p1;go_frame))
   obtain⟨pv,rfl,Ap,cp,rfl,hpl,hpr⟩:=hP;have hBW:Below wo.heap.size wo W1:=p1.below _ _ (ba _ _) zL;have hz1:W1.heap.size=wo.heap.size+1:=by rw[p1.size];simp
   have pM:=zH (hpr.keep (.old hBW));have HX:=zH p1.bk;have x2:=p1.bk.cell 2;obtain⟨ps,hps⟩:∃z,bs[k].ps=z:=⟨_,rfl⟩
   rw[hps]at pM hpl HX x2;have LZ:=zH hps;clear hpr p1 hc hlen hps;go_wp2_with fail
   go_loopw[6,25] (fun vs i wr=>∃j:Nat,j<=ps.length/\i=.int .i64 j/\Hid (Below W1.heap.size W1 wr/\Bd (fun q=>W1.heap.size<=q) W1.heap.size 31 4 (Ja d) (ps.take j) vs wr)) (fun _ i _=>ps.length-(intOf i).toNat)
   case atStart=>exact⟨0,Nat.zero_le _,rfl,zH ⟨Below.refl _ _,Bd.nil zL⟩⟩
   case round=>
    obtain⟨j,hj,rfl,hJ⟩:=hrel;obtain⟨As,c8,rfl,_⟩:=hJ.out.2.form;rw[List.length_take,Nat.min_eq_left hj]at hJ⊢
    by_cases hjl:j<ps.length
    ·obtain⟨b2,o2,cs2,hA2,_,hb2,hP2,hc2⟩:=(pM.out.old hJ.out.1).elem hjl;subst hA2;have hlen2:=CK.len hP2;go_upto_region 9 with(first|(refine aX nC rfl _ rfl rfl cs2 hlen2 hc2 ?_)|(refine ae (dE nC.1) rfl _ _ rfl rfl cs2 rfl (Bk.new _ _ _) hlen2 rfl (CK.one hP2) ?_;intro W2 p2;go_frame))
     obtain⟨gv,uv,rfl,hg,hu⟩:=hP2;obtain⟨Ag,cg,rfl⟩:=hg.form;obtain⟨Au,cu,rfl⟩:=hu.form;have hB2:Below wr.heap.size wr W2:=p2.below _ _ (ba _ _) zL;have hz2:W2.heap.size=wr.heap.size+1:=by rw[p2.size];simp
     have hzj:=hJ.out.1.size;have k8:=p2.bk;have HG2:=zH (And.intro (hg.keep (.old hB2)) (hu.keep (.old hB2)));obtain⟨pt,hpt⟩:∃z,ps[j]=z:=⟨_,rfl⟩
     rw[hpt]at HG2 k8;have xm:=zH hpt;clear hpt;have v2:W2.cell? ⟨wr.heap.size,2,none⟩=some (.slice Ag pt.gs.length cg):=k8.cell 2;have v3:W2.cell? ⟨wr.heap.size,3,none⟩=some (.slice Au pt.cs.length cu):=k8.cell 3
     refine wx (fun k=>false) [.is (.pointer (some ⟨wr.heap.size,2,none⟩)),.is (.slice Ag pt.gs.length cg),sS (zo pt.gs.length (Nd d (fun q=>W2.heap.size<=q) pt.gs) fun A c=>.slice A pt.gs.length c),
      .is (.pointer (some ⟨wr.heap.size,3,none⟩)),.is (.slice Au pt.cs.length cu),sS (zo pt.cs.length (Nd d (fun q=>W2.heap.size<=q) pt.cs) fun A c=>.slice A pt.cs.length c),.is (.pointer (some ⟨wr.heap.size,2,none⟩))] [2,5] (by kernel_rfl) (by kernel_rfl) (by kernel_rfl)
      (fun C=>.c (px C rfl (fun _ _=>rfl)) <| .c (px C rfl (fun _ h=>bW (mM (bc h v2)))) <| .c (pz [1] [] (by kernel_rfl) fun qK qa wq hB qO qF hK=>?_) <|
       .c (px C rfl (fun _ _=>rfl)) <| .c (px C rfl (fun _ h=>bW (mM (bc h v3)))) <| .c (pz [4] [] (by kernel_rfl) fun qK qa wq hB qO qF hK=>?_) <| .c (px C rfl (fun _ _=>rfl)) .nil) ?_
     ·have e30:=ay qF.1 rfl rfl;clear qO qF;go_simp
      go_at_call 23
      refine(xG (HG2.out.1.keep (.old hB))).mono ?_;rintro e w2 ⟨A,c,rfl,h1,h2⟩;exact hK _ _ h2 ⟨A,c,rfl,h1.keep fun q hq hlt=>⟨Nat.le_trans hB.size hq,hlt,rfl⟩⟩
     ·have e33:=ay qF.1 rfl rfl;clear qO qF;go_simp
      go_at_call 23
      refine(xG (HG2.out.2.keep (.old hB))).mono ?_;rintro e w2 ⟨A,c,rfl,h1,h2⟩;exact hK _ _ h2 ⟨A,c,rfl,h1.keep fun q hq hlt=>⟨Nat.le_trans hB.size hq,hlt,rfl⟩⟩
     intro qx w3 hB hR hS;obtain⟨A4,c4,r2,n2⟩:=hR 2 rfl rfl;obtain⟨A5,c5,r5,n5⟩:=hR 5 rfl rfl;clear hR hS;simp only[bJ,List.length,List.take,List.drop,List.toList_toArray]
     go_frame
     generalize qx 2=z2 at r2⊢;generalize qx 5=z5 at r5⊢;subst r2 r5;have k3:=k8.old hB;have v2:=k3.cell 2;have v3:=k3.cell 3;have f2:=k3.frozen 2;have f3:=k3.frozen 3;have k4:=(k3.put 2 (.slice A4 pt.gs.length c4)).put 3 (.slice A5 pt.cs.length c5);have hB3:Below wr.heap.size wr ((w3.setCell ⟨wr.heap.size,2,none⟩ (.slice A4 pt.gs.length c4)).setCell ⟨wr.heap.size,3,none⟩ (.slice A5 pt.cs.length c5)):=((hB2.trans (hB.mono hB2.size)).setCell zL _).setCell zL _;have hz3:wr.heap.size<=w3.heap.size:=by have:=hB.size;omega
     have hJ2:=hJ.out.2.old hB3;have hkp:fE (fun q=>W2.heap.size<=q) (fun q=>W1.heap.size<=q/\some q≠(Value.slice As j c8).ownBlock) w3 ((w3.setCell ⟨wr.heap.size,2,none⟩ (.slice A4 pt.gs.length c4)).setCell ⟨wr.heap.size,3,none⟩ (.slice A5 pt.cs.length c5)):=fun q hq hlt=>⟨⟨by omega,fun e=>by have:=(hJ.out.2.lt e.symm).2;omega⟩,by simpa using hlt,(Below.heap_setCell _ _ _ q (by show q≠wr.heap.size;omega)).trans (Below.heap_setCell _ _ _ q (by show q≠wr.heap.size;omega))⟩
     have hPT:∀o,Ja d (fun q=>W1.heap.size<=q/\some q≠(Value.slice As j c8).ownBlock) ps[j] [.int .i64 pt.form,.int .i64 pt.type,.slice A4 pt.gs.length c4,.slice A5 pt.cs.length c5] (((w3.setCell ⟨wr.heap.size,2,none⟩ (.slice A4 pt.gs.length c4)).setCell ⟨wr.heap.size,3,none⟩ (.slice A5 pt.cs.length c5)).alloc o):=fun o=>by rw[xm.out];exact⟨_,_,rfl,(n2.keep hkp).keep (.old (ba _ _)),(n5.keep hkp).keep (.old (ba _ _))⟩
     go_wp2_with (first|(refine aX nC rfl _ rfl rfl [.int .i64 pt.form,.int .i64 pt.type,.slice A4 pt.gs.length c4,.slice A5 pt.cs.length c5] rfl (fun i v hv=>by rw[Nat.zero_add,k4.cell i];simpa using hv) ?_)|(refine iE nC rfl _ rfl [.int .i64 pt.form,.int .i64 pt.type,.slice A4 pt.gs.length c4,.slice A5 pt.cs.length c5] rfl rfl ?_)|(at_builtin;refine gU nC rfl _ _ rfl rfl (hJ2.old (ba _ _)) rfl [.int .i64 pt.form,.int .i64 pt.type,.slice A4 pt.gs.length c4,.slice A5 pt.cs.length c5] (Bk.newAt (by simp) _ _) hjl (hPT _) hpl (by simp;omega) ?_;intro A9 c9 w9 h9 uC jG))
     go_roundw
     case rel=>exact⟨j+1,hjl,by go_num,zH ⟨uC _ _ zL (by simp;omega) ((hJ.out.1.trans (hB3.mono hzj)).alloc (by simp;omega) _),h9⟩⟩
     case measure=>simp[intOf];omega
    ·obtain rfl:j=ps.length:=by omega
     rw[List.take_length]at hJ;have kx:=HX.out.old hJ.out.1;have fx:=kx.frozen 2;have xx:=kx.cell 2;have hg5:g3<wo.heap.size:=by omega
     have hw5:=hJ.out.1.size;have k5:=kx.put 2 (.slice As ps.length c8);have hBr:Below wo.heap.size wo wr:=hBW.trans (hJ.out.1.mono hBW.size);have hwr:=hBr.size;have hB4:=hBr.setCell (p:=⟨wo.heap.size,2,none⟩) zL (.slice As ps.length c8);have hI4:=hI.out.2.2.old hB4;have k3:=hI.out.2.1.old hB4;have z2:=k3.cell 2;have hPB:∀o,uB d (fun q=>W0.heap.size<=q/\some q≠(Value.slice Av k cv).ownBlock) bs[k] [.int .i64 bs[k].id,.int .i64 bs[k].window,.slice As ps.length c8] ((wr.setCell ⟨wo.heap.size,2,none⟩ (.slice As ps.length c8)).alloc o):=fun o=>⟨_,rfl,LZ.out▸((hJ.out.2.sl (fun b hb=>hb) hpl).keep (S':=fun q=>W0.heap.size<=q/\some q≠(Value.slice Av k cv).ownBlock) (fE.set fun b hb=>⟨⟨by omega,fun e=>by have:=(hI.out.2.2.lt e.symm).2;omega⟩,by show b≠wo.heap.size;omega⟩)).keep (.old (ba _ _))⟩
     go_wp2_with (first|(refine aX dH rfl _ rfl rfl [.int .i64 bs[k].id,.int .i64 bs[k].window,.slice As ps.length c8] rfl (fun i v hv=>by rw[Nat.zero_add,k5.cell i];simpa using hv) ?_)|(refine iE dH rfl _ rfl [.int .i64 bs[k].id,.int .i64 bs[k].window,.slice As ps.length c8] rfl rfl ?_)|
      (at_builtin;refine gU dH rfl _ _ rfl rfl (hI4.old (ba _ _)) rfl [.int .i64 bs[k].id,.int .i64 bs[k].window,.slice As ps.length c8] (Bk.newAt (by simp) _ _) hlt (hPB _) hbl (by simp;omega) ?_;intro A9 c9 w9 h9 uC jG;have k9:=(k3.alloc _).grown jG (hI4.ne k3 (by decide));have z9:=k9.cell 2;have f9:=k9.frozen 2))
     go_roundw
     case rel=>exact⟨_,_,_,_,⟨k+1,hlt,by go_num,_,zH ⟨nS (fO hI.out.1 (uC _ _ zL (by simp;omega) (((hB4.mono hwz)).alloc (by simp;omega) _))),k9.put 2 _,h9.set _ (fun b hb=>by show b≠g3;omega) hgW⟩⟩,rfl,rfl,rfl,rfl⟩
     case measure=>simp[intOf];omega
  ·obtain rfl:k=bs.length:=by omega
   rw[List.take_length]at hI;have k3:=hI.out.2.1;obtain⟨y0,y1,y2⟩:=zc3 k3;have k2:=xh.out.2.1.grown hI.out.1 (by simp;omega);go_wp2_with (first|(refine ae mQ rfl _ _ rfl rfl [.int .i64 aC,.slice A3 ks.length c3,.slice Av bs.length cv] rfl k2 rfl rfl rfl ?_;intro w9 p9;have y0:=p9.bk.cell 0;have y1:=p9.bk.cell 1;have y2:=p9.bk.cell 2))
   refine bodyPost_ret (v:=.agg #[.int .i64 aC,.slice A3 ks.length c3,.slice Av bs.length cv]) (by simp[results,Try.results30,go_sem,y0,y1,y2]) rfl ?_;exact⟨[_,_,_],rfl,⟨_,_,rfl,((xh.out.2.2.keep (fE.fJ hI.out.1 fun b hb e=>hb.2 (congrArg some e))).keep (fE.jC p9 fun b hb=>by omega)).keep fun b hb hlt=>⟨by omega,hlt,rfl⟩,((hI.out.2.2.sl (fun b hb=>hb) hbl).keep (fE.jC p9 fun b hb=>by omega)).keep fun b hb hlt=>⟨by omega,hlt,rfl⟩⟩,p9.below _ _ (HB0.out.grown hI.out.1 HB0.out.size fun k hk=>by injection hk with hk;omega) (by omega)⟩
end
def qg (d:Nat) (S:Nat->Prop) (aC:Int) (ks:List Int) (bs:List lh) (cs:List Value) (w:World):Prop:=∃kv bv,cs=[.int .i64 aC,kv,bv]/\Sl jV S ks kv w/\Sl (StP d) S bs bv w
theorem iY (w:World):(sizeOf 34).run Try.prog w=.ok 3 w:=by
 obtain⟨i,hi,h0,h1,h2⟩:=info_parts (show(Try.prog.info? 34).map (fun i=>(i.zero,i.size,i.bytes))=some (some (.agg #[.int .i64 0,.slice none 0 0,.slice none 0 0]),3,56) by kernel_rfl);simp[sizeOf,typeInfo,hi,h1]
section
set_option maxRecDepth 100000
set_option maxHeartbeats 8000000
theorem X0 {d:Nat} {S:Nat->Prop} {aC:Int} {ks:List Int} {bs:List lh} {cs:List Value} {w:World} (h:qg d S aC ks bs cs w):Calls Try.prog 13 #[.agg cs.toArray] w fun e w'=>∃cs',e=.returned (.agg cs'.toArray)/\qg d (fun q=>w.heap.size<=q) aC ks bs cs' w'/\Below w.heap.size w w':=by
 obtain⟨kv,bv,rfl,hk,hb⟩:=h;obtain⟨Ak,ck,rfl⟩:=hk.form;obtain⟨Ab,cb,hbv,hbl,hb⟩:=hb;subst hbv;have HK:=zH hk;have HR:=zH hb.lo;clear hk hb
 go_enter Try.func13,Try.ntmps13
 go_upto_region 1 with fail
 obtain⟨w0,hw0⟩:∃z,(w.alloc (.cells #[.int .i64 aC,.slice Ak ks.length ck,.slice Ab bs.length cb] 34)).alloc (.cells #[.int .i64 0,.slice none 0 0,.slice none 0 0] 34)=z:=⟨_,rfl⟩
 have k1:Bk w0 w.heap.size 34 #[.int .i64 aC,.slice Ak ks.length ck,.slice Ab bs.length cb]:=hw0▸(Bk.new _ _ _).alloc _;have k2:Bk w0 (w.heap.size+1) 34 #[.int .i64 0,.slice none 0 0,.slice none 0 0]:=hw0▸Bk.newAt (by simp) _ _;have hb0:Below w.heap.size w w0:=hw0▸bel2 w _ _;simp only[hw0];clear hw0;have x0:w0.cell? ⟨w.heap.size,0,none⟩=some (.int .i64 aC):=k1.cell 0;have x1:w0.cell? ⟨w.heap.size,1,none⟩=some (.slice Ak ks.length ck):=k1.cell 1
 refine wx (fun k=>k==6) [.is (.pointer (some ⟨w.heap.size,0,none⟩)),.is (.int .i64 aC),.is (.pointer (some ⟨w.heap.size,1,none⟩)),.is (.slice Ak ks.length ck),
  sS (zo ks.length (Bd (fun _=>False) w0.heap.size 3 1 jV ks) fun A c=>.slice A ks.length c),sS (zo ks.length (Bd (fun _=>False) w0.heap.size 3 1 jV ks) fun A c=>.agg #[.int .i64 aC,.slice A ks.length c,.slice none 0 0]),
  .st (fun v w=>∃g,v=.pointer (some ⟨g,0,none⟩)/\w0.heap.size<=g/\Bk w g 34 #[.int .i64 0,.slice none 0 0,.slice none 0 0]) (fun _ _ _ hb ⟨g,h1,h0,h2⟩=>⟨g,h1,h0,h2.old hb⟩)] [4,5,6] (by kernel_rfl) (by kernel_rfl) (by kernel_rfl)
  (fun C=>.c (px C rfl (fun _ _=>rfl)) <| .c (px C rfl (fun _ h=>bW (lJ (bc h x0)))) <| .c (px C rfl (fun _ _=>rfl)) <| .c (px C rfl (fun _ h=>bW (Eg (bc h x1)))) <|
   .c (pz [3] [] (by kernel_rfl) fun qK qa wr hB qO qF hK=>?_) <| .c (pz [1,4] [] (by kernel_rfl) fun qK qa wr hB qO qF hK=>?_) <| .c (pf [] [] (by kernel_rfl) fun qK qa wr hB qO qF hK=>?_) .nil) ?_
 ·exact zq (.tmp 12) rfl (aK (ay qF.1 rfl rfl)) ((HK.out.keep (.old hb0)).keep (.old hB)) fun A c w' h1 h2=>hK _ _ h2 ⟨A,c,rfl,h1.NH hB.size⟩
 ·have e10:=ay qF.1 rfl rfl;obtain⟨u13,e13,A,c,rfl,hn⟩:=qF.2.1;have e13:qa.tmps[13]? =some (.slice A ks.length c):=e13;clear qO qF;go_simp;exact hK _ _ zR ⟨A,c,rfl,hn⟩
 ·clear qO qF;go_simp;exact hK _ _ (ba _ _) ⟨_,rfl,hB.size,Bk.new _ _ _⟩ ⟨_,rfl,by simp,by simp⟩
 intro qx wr hB hR hS;obtain⟨A3,c3,r5,n5⟩:=hR 5 rfl rfl;obtain⟨g3,r6,hg3,k3⟩:=hR 6 rfl rfl;clear hR hS;simp only[bJ,List.length,List.take,List.drop,List.toList_toArray]
 go_frame
 generalize qx 6=z6 at r6⊢;generalize qx 5=z5 at r5⊢;subst r6 r5;go_upto_region 2 with(refine ae iY rfl _ _ rfl rfl [.int .i64 aC,.slice A3 ks.length c3,.slice none 0 0] rfl k3 rfl rfl rfl ?_;intro W0 p0;go_frame)
 have hz0:=p0.size;have hzb:=hB.size;have hz1:=k2.lt;have JA:=k3.lt;have hbW:Below w.heap.size w W0:=p0.below _ _ (hb0.trans (hB.mono hb0.size)) (by omega);have xh:Hid (Bk W0 w.heap.size 34 #[.int .i64 aC,.slice Ak ks.length ck,.slice Ab bs.length cb]/\Bk W0 (w.heap.size+1) 34 #[.int .i64 0,.slice none 0 0,.slice none 0 0]/\Sl jV (fun q=>w0.heap.size<=q/\some q≠some g3) ks (.slice A3 ks.length c3) W0):=zH ⟨p0.BQ (k1.old hB) (by omega),p0.BQ (k2.old hB) (by omega),?keys⟩
 case keys=>exact(n5.Ur (S:=fun q=>w0.heap.size<=q/\some q≠some g3) (fun b hb he=>⟨hb,fun e=>n5.ne k3 (by decide) (e.symm.trans he.symm)⟩) (fun b h=>h.elim) HK.out.le).keep (fE.jC p0 fun b hb e=>hb.2 (congrArg some e))
 have HG:=zH p0;have HB0:=zH hbW;have HR0:=zH (HR.out.old hbW);have hww:=hb0.size;have hgW:g3<W0.heap.size:=p0.bk.lt;have hwW:w0.heap.size<=W0.heap.size:=by omega
 clear p0 k1 k2 k3 hB hb0 hbW x0 x1 n5 hz0 hzb HK JA;have y2:=xh.out.1.cell 2;go_wp2_with fail
 go_loopw[18] (fun i wr=>∃(k:Nat) (v:Value),k<=bs.length/\i=.int .i64 k/\Hid (W0.grownBy wr (some g3)/\Bk wr g3 34 #[.int .i64 aC,.slice A3 ks.length c3,v]/\Bd (fun q=>W0.heap.size<=q) W0.heap.size 44 8 (StP d) (bs.take k) v wr)) (fun i _=>bs.length-(intOf i).toNat)
 case atStart=>exact⟨0,_,Nat.zero_le _,rfl,zH ⟨World.grownBy.refl _ _,HG.out.bk,Bd.nil zL⟩⟩
 case round=>
  obtain⟨k,v,hk,rfl,hI⟩:=hrel;obtain⟨wo,rfl⟩:∃z:World,z=wr:=⟨_,rfl⟩
  obtain⟨Av,cv,rfl,_⟩:=hI.out.2.2.form;rw[List.length_take,Nat.min_eq_left hk]at hI;have hwz:=hI.out.1.size
  by_cases hlt:k<bs.length
  ·obtain⟨b,o,cs,hA,hSb,hb,hP,hc⟩:=(HR0.out.keep (fE.fJ hI.out.1 fun b hb=>by omega)).elem hlt;subst hA;have hlen:=CK.len hP;go_upto_region 5 with(first|(refine aX qC rfl _ rfl rfl cs hlen hc ?_)|(refine ae (dE qC.1) rfl _ _ rfl rfl cs rfl (Bk.new _ _ _) hlen rfl (CK.one hP) ?_;intro V1 p1;go_frame))
   obtain⟨v4,v5,v6,v7,rfl,h4,h5,h6,Ap,cp,rfl,hpl,hpr⟩:=hP;obtain⟨A4,c4,rfl⟩:=h4.form;obtain⟨A5,c5,rfl⟩:=h5.form;obtain⟨A6,c6,rfl⟩:=h6.form;have Fv:Below wo.heap.size wo V1:=p1.below _ _ (ba _ _) zL;have hzV:V1.heap.size=wo.heap.size+1:=by rw[p1.size];simp
   have HP0:=zH (hpr.keep (.old Fv));have P9:=zH (And.intro (h4.keep (.old Fv)) (And.intro (h5.keep (.old Fv)) (h6.keep (.old Fv))));have kX:=p1.bk;obtain⟨st,hst⟩:∃z,bs[k]=z:=⟨_,rfl⟩
   rw[hst]at HP0 hpl kX P9;have HST:=zH hst;have x4:V1.cell? ⟨wo.heap.size,4,none⟩=some (.slice A4 st.bars.length c4):=kX.cell 4;have x5:V1.cell? ⟨wo.heap.size,5,none⟩=some (.slice A5 st.lv.length c5):=kX.cell 5;have x6:V1.cell? ⟨wo.heap.size,6,none⟩=some (.slice A6 st.gs.length c6):=kX.cell 6;have Ci:=zH kX;clear hpr p1 hc hlen hst h4 h5 h6 kX
   refine wx (fun k=>false) [.is (.pointer (some ⟨wo.heap.size,4,none⟩)),.is (.slice A4 st.bars.length c4),sS (zo st.bars.length (Sl (yZ d) (fun q=>V1.heap.size<=q) st.bars) fun A c=>.slice A st.bars.length c),
    .is (.pointer (some ⟨wo.heap.size,5,none⟩)),.is (.slice A5 st.lv.length c5),sS (zo st.lv.length (Nd d (fun q=>V1.heap.size<=q) st.lv) fun A c=>.slice A st.lv.length c),
    .is (.pointer (some ⟨wo.heap.size,6,none⟩)),.is (.slice A6 st.gs.length c6),sS (zo st.gs.length (Nd d (fun q=>V1.heap.size<=q) st.gs) fun A c=>.slice A st.gs.length c),.is (.pointer (some ⟨wo.heap.size,4,none⟩))] [2,5,8] (by kernel_rfl) (by kernel_rfl) (by kernel_rfl)
    (fun C=>.c (px C rfl (fun _ _=>rfl)) <| .c (px C rfl (fun _ h=>bW (Ju (bc h x4)))) <| .c (pz [1] [] (by kernel_rfl) fun qK qa wq hB qO qF hK=>?_) <|
     .c (px C rfl (fun _ _=>rfl)) <| .c (px C rfl (fun _ h=>bW (mM (bc h x5)))) <| .c (pz [4] [] (by kernel_rfl) fun qK qa wq hB qO qF hK=>?_) <|
     .c (px C rfl (fun _ _=>rfl)) <| .c (px C rfl (fun _ h=>bW (mM (bc h x6)))) <| .c (pz [7] [] (by kernel_rfl) fun qK qa wq hB qO qF hK=>?_) <| .c (px C rfl (fun _ _=>rfl)) .nil) ?_
   ·have e23:=ay qF.1 rfl rfl;clear qO qF;go_simp
    go_at_call 22
    refine(Gi (P9.out.1.keep (.old hB))).mono ?_;rintro e w2 ⟨A,c,rfl,h1,h2⟩;exact hK _ _ h2 ⟨A,c,rfl,h1.keep fun q hq hlt=>⟨Nat.le_trans hB.size hq,hlt,rfl⟩⟩
   ·have e26:=ay qF.1 rfl rfl;clear qO qF;go_simp
    go_at_call 23
    refine(xG (P9.out.2.1.keep (.old hB))).mono ?_;rintro e w2 ⟨A,c,rfl,h1,h2⟩;exact hK _ _ h2 ⟨A,c,rfl,h1.keep fun q hq hlt=>⟨Nat.le_trans hB.size hq,hlt,rfl⟩⟩
   ·have e29:=ay qF.1 rfl rfl;clear qO qF;go_simp
    go_at_call 23
    refine(xG (P9.out.2.2.keep (.old hB))).mono ?_;rintro e w2 ⟨A,c,rfl,h1,h2⟩;exact hK _ _ h2 ⟨A,c,rfl,h1.keep fun q hq hlt=>⟨Nat.le_trans hB.size hq,hlt,rfl⟩⟩
   intro qx w3 hB hR hS;obtain⟨B4,d4,r2,n4⟩:=hR 2 rfl rfl;obtain⟨B5,d5,r5,n5⟩:=hR 5 rfl rfl;obtain⟨B6,d6,r8,n6⟩:=hR 8 rfl rfl;clear hR hS;simp only[bJ,List.length,List.take,List.drop,List.toList_toArray]
   go_frame
   generalize qx 2=z2 at r2⊢;generalize qx 5=z5 at r5⊢;generalize qx 8=z8 at r8⊢;subst r2 r5 r8;have kX:=Ci.out.old hB;have x4:=kX.cell 4;have x5:=kX.cell 5;have x6:=kX.cell 6;have f4:=kX.frozen 4;have f5:=kX.frozen 5;have f6:=kX.frozen 6;go_upto_region 6 with fail
   have kX:=((kX.put 4 (.slice B4 st.bars.length d4)).put 5 (.slice B5 st.lv.length d5)).put 6 (.slice B6 st.gs.length d6);have hb3:Below wo.heap.size wo w3:=Fv.trans (hB.mono Fv.size);have hBW:=((hb3.setCell (p:=⟨wo.heap.size,4,none⟩) zL (.slice B4 st.bars.length d4)).setCell (p:=⟨wo.heap.size,5,none⟩) zL (.slice B5 st.lv.length d5)).setCell (p:=⟨wo.heap.size,6,none⟩) zL (.slice B6 st.gs.length d6);have hkp:fE (fun q=>V1.heap.size<=q) (fun q=>V1.heap.size<=q) w3 (((w3.setCell ⟨wo.heap.size,4,none⟩ (.slice B4 st.bars.length d4)).setCell ⟨wo.heap.size,5,none⟩ (.slice B5 st.lv.length d5)).setCell ⟨wo.heap.size,6,none⟩ (.slice B6 st.gs.length d6)):=fun q hq hlt=>⟨hq,by simpa using hlt,((Below.heap_setCell _ _ _ q (by show q≠wo.heap.size;omega)).trans (Below.heap_setCell _ _ _ q (by show q≠wo.heap.size;omega))).trans (Below.heap_setCell _ _ _ q (by show q≠wo.heap.size;omega))⟩
   have hkx:=HP0.out.keep (fE.old (hB:Below V1.heap.size V1 w3));have H3:=zH (And.intro (n4.keep hkp) (And.intro (n5.keep hkp) (n6.keep hkp)));have hHP:=hkx.keep (S':=fun q=>S q/\q<w.heap.size) fun q hq hlt=>⟨hq,by simpa using hlt,((Below.heap_setCell (((w3.setCell ⟨wo.heap.size,4,none⟩ (.slice B4 st.bars.length d4)).setCell ⟨wo.heap.size,5,none⟩ (.slice B5 st.lv.length d5))) ⟨wo.heap.size,6,none⟩ (.slice B6 st.gs.length d6) q (by show q≠wo.heap.size;omega)).trans (Below.heap_setCell _ _ _ q (by show q≠wo.heap.size;omega))).trans (Below.heap_setCell _ _ _ q (by show q≠wo.heap.size;omega))⟩
   have hzW:w3.heap.size=(((w3.setCell ⟨wo.heap.size,4,none⟩ (.slice B4 st.bars.length d4)).setCell ⟨wo.heap.size,5,none⟩ (.slice B5 st.lv.length d5)).setCell ⟨wo.heap.size,6,none⟩ (.slice B6 st.gs.length d6)).heap.size:=by simp
   generalize((w3.setCell ⟨wo.heap.size,4,none⟩ (.slice B4 st.bars.length d4)).setCell ⟨wo.heap.size,5,none⟩ (.slice B5 st.lv.length d5)).setCell ⟨wo.heap.size,6,none⟩ (.slice B6 st.gs.length d6)=W1 at *;have hz1:wo.heap.size<W1.heap.size:=by have:=hB.size;omega
   have hz1':V1.heap.size<=W1.heap.size:=by have:=hB.size;omega
   have pM:=zH hHP;have HX:=zH kX;have x7:W1.cell? ⟨wo.heap.size,7,none⟩=some (.slice Ap st.ends.length cp):=kX.cell 7;obtain⟨ps,hps⟩:∃z,st.ends=z:=⟨_,rfl⟩
   rw[hps]at pM hpl HX x7;have LZ:=zH hps;clear hps kX hHP hkx hkp n4 n5 n6 x4 x5 x6 f4 f5 f6 hb3 hzW hB Ci P9 HP0;go_wp2_with fail
   go_loopw[6,37] (fun vs i wr=>∃j:Nat,j<=ps.length/\i=.int .i64 j/\Hid (Below W1.heap.size W1 wr/\Bd (fun q=>W1.heap.size<=q) W1.heap.size 55 3 (NJ d) (ps.take j) vs wr)) (fun _ i _=>ps.length-(intOf i).toNat)
   case atStart=>exact⟨0,Nat.zero_le _,rfl,zH ⟨Below.refl _ _,Bd.nil zL⟩⟩
   case round=>
    obtain⟨j,hj,rfl,hJ⟩:=hrel;obtain⟨As,c8,rfl,_⟩:=hJ.out.2.form;rw[List.length_take,Nat.min_eq_left hj]at hJ⊢
    by_cases hjl:j<ps.length
    ·obtain⟨b2,o2,cs2,hA2,_,hb2,hP2,hc2⟩:=(pM.out.old hJ.out.1).elem hjl;subst hA2;have hlen2:=CK.len hP2;go_upto_region 10 with(first|(refine aX qB rfl _ rfl rfl cs2 hlen2 hc2 ?_)|(refine ae (dE qB.1) rfl _ _ rfl rfl cs2 rfl (Bk.new _ _ _) hlen2 rfl (CK.one hP2) ?_;intro W2 p2;go_frame))
     obtain⟨gv,uv,rfl,hg,hu⟩:=hP2;obtain⟨Ag,cg,rfl⟩:=hg.form;obtain⟨Au,cu,rfl⟩:=hu.form;have hB2:Below wr.heap.size wr W2:=p2.below _ _ (ba _ _) zL;have hz2:W2.heap.size=wr.heap.size+1:=by rw[p2.size];simp
     have hzj:=hJ.out.1.size;have k8:=p2.bk;have HG2:=zH (And.intro (hg.keep (.old hB2)) (hu.keep (.old hB2)));obtain⟨pt,hpt⟩:∃z,ps[j]=z:=⟨_,rfl⟩
     rw[hpt]at HG2 k8;have xm:=zH hpt;clear hpt;have v2:W2.cell? ⟨wr.heap.size,1,none⟩=some (.slice Ag pt.cs.length cg):=k8.cell 1;have v3:W2.cell? ⟨wr.heap.size,2,none⟩=some (.slice Au pt.bars.length cu):=k8.cell 2
     refine wx (fun k=>false) [.is (.pointer (some ⟨wr.heap.size,1,none⟩)),.is (.slice Ag pt.cs.length cg),sS (zo pt.cs.length (Nd d (fun q=>W2.heap.size<=q) pt.cs) fun A c=>.slice A pt.cs.length c),
      .is (.pointer (some ⟨wr.heap.size,2,none⟩)),.is (.slice Au pt.bars.length cu),sS (zo pt.bars.length (Sl (yZ d) (fun q=>W2.heap.size<=q) pt.bars) fun A c=>.slice A pt.bars.length c),.is (.pointer (some ⟨wr.heap.size,1,none⟩))] [2,5] (by kernel_rfl) (by kernel_rfl) (by kernel_rfl)
      (fun C=>.c (px C rfl (fun _ _=>rfl)) <| .c (px C rfl (fun _ h=>bW (mM (bc h v2)))) <| .c (pz [1] [] (by kernel_rfl) fun qK qa wq hB qO qF hK=>?_) <|
       .c (px C rfl (fun _ _=>rfl)) <| .c (px C rfl (fun _ h=>bW (Ju (bc h v3)))) <| .c (pz [4] [] (by kernel_rfl) fun qK qa wq hB qO qF hK=>?_) <| .c (px C rfl (fun _ _=>rfl)) .nil) ?_
     ·have e42:=ay qF.1 rfl rfl;clear qO qF;go_simp
      go_at_call 23
      refine(xG (HG2.out.1.keep (.old hB))).mono ?_;rintro e w2 ⟨A,c,rfl,h1,h2⟩;exact hK _ _ h2 ⟨A,c,rfl,h1.keep fun q hq hlt=>⟨Nat.le_trans hB.size hq,hlt,rfl⟩⟩
     ·have e45:=ay qF.1 rfl rfl;clear qO qF;go_simp
      go_at_call 22
      refine(Gi (HG2.out.2.keep (.old hB))).mono ?_;rintro e w2 ⟨A,c,rfl,h1,h2⟩;exact hK _ _ h2 ⟨A,c,rfl,h1.keep fun q hq hlt=>⟨Nat.le_trans hB.size hq,hlt,rfl⟩⟩
     intro qx w3 hB hR hS;obtain⟨A4,c4,r2,n2⟩:=hR 2 rfl rfl;obtain⟨A5,c5,r5,n5⟩:=hR 5 rfl rfl;clear hR hS;simp only[bJ,List.length,List.take,List.drop,List.toList_toArray]
     go_frame
     generalize qx 2=z2 at r2⊢;generalize qx 5=z5 at r5⊢;subst r2 r5;have k3:=k8.old hB;have v2:=k3.cell 1;have v3:=k3.cell 2;have f2:=k3.frozen 1;have f3:=k3.frozen 2;have k4:=(k3.put 1 (.slice A4 pt.cs.length c4)).put 2 (.slice A5 pt.bars.length c5);have hB3:Below wr.heap.size wr ((w3.setCell ⟨wr.heap.size,1,none⟩ (.slice A4 pt.cs.length c4)).setCell ⟨wr.heap.size,2,none⟩ (.slice A5 pt.bars.length c5)):=((hB2.trans (hB.mono hB2.size)).setCell zL _).setCell zL _;have hz3:wr.heap.size<=w3.heap.size:=by have:=hB.size;omega
     have hJ2:=hJ.out.2.old hB3;have hkp:fE (fun q=>W2.heap.size<=q) (fun q=>W1.heap.size<=q/\some q≠(Value.slice As j c8).ownBlock) w3 ((w3.setCell ⟨wr.heap.size,1,none⟩ (.slice A4 pt.cs.length c4)).setCell ⟨wr.heap.size,2,none⟩ (.slice A5 pt.bars.length c5)):=fun q hq hlt=>⟨⟨by omega,fun e=>by have:=(hJ.out.2.lt e.symm).2;omega⟩,by simpa using hlt,(Below.heap_setCell _ _ _ q (by show q≠wr.heap.size;omega)).trans (Below.heap_setCell _ _ _ q (by show q≠wr.heap.size;omega))⟩
     have hPT:∀o,NJ d (fun q=>W1.heap.size<=q/\some q≠(Value.slice As j c8).ownBlock) ps[j] [.int .i64 pt.branch,.slice A4 pt.cs.length c4,.slice A5 pt.bars.length c5] (((w3.setCell ⟨wr.heap.size,1,none⟩ (.slice A4 pt.cs.length c4)).setCell ⟨wr.heap.size,2,none⟩ (.slice A5 pt.bars.length c5)).alloc o):=fun o=>by rw[xm.out];exact⟨_,_,rfl,(n2.keep hkp).keep (.old (ba _ _)),(n5.keep hkp).keep (.old (ba _ _))⟩
     go_wp2_with (first|(refine aX qB rfl _ rfl rfl [.int .i64 pt.branch,.slice A4 pt.cs.length c4,.slice A5 pt.bars.length c5] rfl (fun i v hv=>by rw[Nat.zero_add,k4.cell i];simpa using hv) ?_)|(refine iE qB rfl _ rfl [.int .i64 pt.branch,.slice A4 pt.cs.length c4,.slice A5 pt.bars.length c5] rfl rfl ?_)|(at_builtin;refine gU qB rfl _ _ rfl rfl (hJ2.old (ba _ _)) rfl [.int .i64 pt.branch,.slice A4 pt.cs.length c4,.slice A5 pt.bars.length c5] (Bk.newAt (by simp) _ _) hjl (hPT _) hpl (by simp;omega) ?_;intro A9 c9 w9 h9 uC jG))
     go_roundw
     case rel=>exact⟨j+1,hjl,by go_num,zH ⟨uC _ _ zL (by simp;omega) ((hJ.out.1.trans (hB3.mono hzj)).alloc (by simp;omega) _),h9⟩⟩
     case measure=>simp[intOf];omega
    ·obtain rfl:j=ps.length:=by omega
     rw[List.take_length]at hJ;have kx:=HX.out.old hJ.out.1;have fx:=kx.frozen 7;have xx:=kx.cell 7;have hg5:g3<wo.heap.size:=by omega
     have hw5:=hJ.out.1.size;have k5:=kx.put 7 (.slice As ps.length c8);have hBr:Below wo.heap.size wo wr:=hBW.trans (hJ.out.1.mono hBW.size);have hwr:=hBr.size;have hB4:=hBr.setCell (p:=⟨wo.heap.size,7,none⟩) zL (.slice As ps.length c8);have hI4:=hI.out.2.2.old hB4;have k3:=hI.out.2.1.old hB4;have z2:=k3.cell 2;have hk7:fE (fun q=>V1.heap.size<=q) (fun q=>W0.heap.size<=q/\some q≠(Value.slice Av k cv).ownBlock) wr (wr.setCell ⟨wo.heap.size,7,none⟩ (.slice As ps.length c8)):=fE.set fun b hb=>⟨⟨by omega,fun e=>by have:=(hI.out.2.2.lt e.symm).2;omega⟩,by show b≠wo.heap.size;omega⟩
     have hPB:∀o,StP d (fun q=>W0.heap.size<=q/\some q≠(Value.slice Av k cv).ownBlock) bs[k] [.int .i64 st.parent,.int .i64 st.type,.bool st.many,.int .i64 st.window,.slice B4 st.bars.length d4,.slice B5 st.lv.length d5,.slice B6 st.gs.length d6,.slice As ps.length c8] ((wr.setCell ⟨wo.heap.size,7,none⟩ (.slice As ps.length c8)).alloc o):=fun o=>by
      rw[HST.out];exact⟨_,_,_,_,rfl,((H3.out.1.keep (.old hJ.out.1)).keep hk7).keep (.old (ba _ _)),((H3.out.2.1.keep (.old hJ.out.1)).keep hk7).keep (.old (ba _ _)),((H3.out.2.2.keep (.old hJ.out.1)).keep hk7).keep (.old (ba _ _)),LZ.out▸((hJ.out.2.sl (fun b hb=>hb) hpl).keep (S':=fun q=>W0.heap.size<=q/\some q≠(Value.slice Av k cv).ownBlock) (fE.set fun b hb=>⟨⟨by omega,fun e=>by have:=(hI.out.2.2.lt e.symm).2;omega⟩,by show b≠wo.heap.size;omega⟩)).keep (.old (ba _ _))⟩
     go_wp2_with (first|(refine aX qC rfl _ rfl rfl [.int .i64 st.parent,.int .i64 st.type,.bool st.many,.int .i64 st.window,.slice B4 st.bars.length d4,.slice B5 st.lv.length d5,.slice B6 st.gs.length d6,.slice As ps.length c8] rfl (fun i v hv=>by rw[Nat.zero_add,k5.cell i];simpa using hv) ?_)|(refine iE qC rfl _ rfl [.int .i64 st.parent,.int .i64 st.type,.bool st.many,.int .i64 st.window,.slice B4 st.bars.length d4,.slice B5 st.lv.length d5,.slice B6 st.gs.length d6,.slice As ps.length c8] rfl rfl ?_)|
      (at_builtin;refine gU qC rfl _ _ rfl rfl (hI4.old (ba _ _)) rfl [.int .i64 st.parent,.int .i64 st.type,.bool st.many,.int .i64 st.window,.slice B4 st.bars.length d4,.slice B5 st.lv.length d5,.slice B6 st.gs.length d6,.slice As ps.length c8] (Bk.newAt (by simp) _ _) hlt (hPB _) hbl (by simp;omega) ?_;intro A9 c9 w9 h9 uC jG;have k9:=(k3.alloc _).grown jG (hI4.ne k3 (by decide));have z9:=k9.cell 2;have f9:=k9.frozen 2))
     go_roundw
     case rel=>exact⟨_,_,_,_,⟨k+1,hlt,by go_num,_,zH ⟨nS (fO hI.out.1 (uC _ _ zL (by simp;omega) (((hB4.mono hwz)).alloc (by simp;omega) _))),k9.put 2 _,h9.set _ (fun b hb=>by show b≠g3;omega) hgW⟩⟩,rfl,rfl,rfl,rfl⟩
     case measure=>simp[intOf];omega
  ·obtain rfl:k=bs.length:=by omega
   rw[List.take_length]at hI;have k3:=hI.out.2.1;obtain⟨y0,y1,y2⟩:=zc3 k3;have k2:=xh.out.2.1.grown hI.out.1 (by simp;omega);go_wp2_with (first|(refine ae iY rfl _ _ rfl rfl [.int .i64 aC,.slice A3 ks.length c3,.slice Av bs.length cv] rfl k2 rfl rfl rfl ?_;intro w9 p9;have y0:=p9.bk.cell 0;have y1:=p9.bk.cell 1;have y2:=p9.bk.cell 2))
   refine bodyPost_ret (v:=.agg #[.int .i64 aC,.slice A3 ks.length c3,.slice Av bs.length cv]) (by simp[results,Try.results13,go_sem,y0,y1,y2]) rfl ?_;exact⟨[_,_,_],rfl,⟨_,_,rfl,((xh.out.2.2.keep (fE.fJ hI.out.1 fun b hb e=>hb.2 (congrArg some e))).keep (fE.jC p9 fun b hb=>by omega)).keep fun b hb hlt=>⟨by omega,hlt,rfl⟩,((hI.out.2.2.sl (fun b hb=>hb) hbl).keep (fE.jC p9 fun b hb=>by omega)).keep fun b hb hlt=>⟨by omega,hlt,rfl⟩⟩,p9.below _ _ (HB0.out.grown hI.out.1 HB0.out.size fun k hk=>by injection hk with hk;omega) (by omega)⟩
end
end Go.Proofs.Ytbjnhllkdilpfaa
