/- Part 47 of the proof. No conditions. -/
import Derived.Test.YtbjnhllkdilpfaaZb46
import Derived.Test.YtbjnhllkdilpfaaZb45
namespace Go.Proofs.Ytbjnhllkdilpfaa
open Go.RowKit
set_option linter.unusedSimpArgs false
set_option linter.unusedVariables false
set_option maxRecDepth 10000
def tK:au->Bool
 |.leaf _ n _ _ _ _=>decide (n<=9223372036854775807)
 |.un _ x _=>tK x
 |.bin _ x y _=>tK x&&tK y
theorem rF:∀e:au,tK e=true->jQ e
 |.leaf _ n _ _ _ _,h=>by
  show n<=_
  simpa[tK]using h
 |.un _ x _,h=>rF x h
 |.bin _ x y _,h=>by
  simp only[tK,Bool.and_eq_true]at h;exact⟨rF x h.1,rF y h.2⟩
def qbB (q:bU):Bool:=q.cond.all tK&&(decide (q.branches.length<=1000)&&(decide (q.cond.length<=100000)&&(decide (q.aS<=1000)&&(decide (q.window<=9223372036854775807)&&(q.branches.all (fun l=>decide (l.length<=1000))&&decide (iw q<=1000000))))))
theorem zAk {q:bU} (h:qbB q=true):QB q:=by
 unfold qbB at h;simp only[Bool.and_eq_true,decide_eq_true_eq,List.all_eq_true]at h;exact⟨fun e he=>rF e (h.1 e he),h.2.1,h.2.2.1,h.2.2.2.1,h.2.2.2.2.1,h.2.2.2.2.2.1,h.2.2.2.2.2.2⟩
def BA:Str:=[80,65,84,84,69,82,78,32,83,69,81,40,65,32,97,44,32,33,67,32,110,44,32,66,43,32,98,44,32,33,67,32,109,41,32,87,72,69,82,69,32,67,79,85,78,84,40,98,41,32,62,32,49,32,83,84,82,65,84,69,71,89,32,65,78,89,32,87,73,84,72,73,78,32,57]
theorem qb14:qbB (kJ BA).1=true:=by decide+kernel
theorem ok14 (h:Nat):(oV (jq h) BA).2=true:=by kernel_rfl
theorem st14 (h:Nat):(oV (jq h) BA).1.aS=3:=by kernel_rfl
end Go.Proofs.Ytbjnhllkdilpfaa
namespace Go.Proofs.Ytbjnhllkdilpfaa
open Go.RowKit
set_option linter.unusedSimpArgs false
set_option linter.unusedVariables false
set_option maxHeartbeats 16000000
set_option maxRecDepth 100000
def plB (t:lW):Bool:=decide (t.keys.length<=17592186044416)&&(decide (t.branches.length<=17592186044416)&&t.branches.all fun b=>decide (b.ps.length<=1000000)&&b.ps.all fun p=>decide (p.gs.length<=1048576)&&decide (p.cs.length<=1048576))
theorem ig.in {D B:Nat} {t:lW} {v:Value} {W:World} (h:ig D B t v W) (hb:plB t=true):∃(kv bv:Value) (bs:List fB),v=.agg #[.int .i64 t.aS,kv,bv]/\Yg D kv bv t.keys bs W/\bs.map (lU D)=t.branches:=by
 obtain⟨kv,bv,bs,hv,hk,hp,ht⟩:=h;unfold plB at hb;simp only[Bool.and_eq_true,decide_eq_true_eq,List.all_eq_true]at hb;have hbl:bs.length=t.branches.length:=by rw[<-ht];simp
 have hmem:∀b∈bs,lU D b∈t.branches:=fun b hb'=>by rw[<-ht];exact List.mem_map.2 ⟨b,hb',rfl⟩
 obtain⟨Ak,ck,rfl,_⟩:=bF hk;obtain⟨Ab,cb,rfl,_⟩:=bF hp.dC;refine⟨_,_,bs,hv,⟨⟨Ak,ck,rfl,bP hk⟩,⟨Ab,cb,rfl,bP hp.dC⟩,fun b hb'=>?_,fun b hb' p hp'=>?_,hb.1,by rw[hbl];exact hb.2.1,fun b hb'=>?_⟩,ht⟩
 ·have h1:=hp.prt b hb';obtain⟨A,c,hv,_⟩:=bF h1;rw[hv]at h1;exact⟨A,c,hv,bP h1⟩
 ·have hm:=(hb.2.2 _ (hmem b hb')).2 (partT D p) (List.mem_map.2 ⟨p,hp',rfl⟩);have hz:∀z∈o9 p,z∈dR bs:=fun z hz=>List.mem_flatMap.2 ⟨b,hb',List.mem_flatMap.2 ⟨p,hp',hz⟩⟩
  have key:∀z∈o9 p,z.2.length<=1048576->UK D z.1 z.2 W:=fun z hz' hl=>by
   have h1:=hp.Bo z (hz z hz');obtain⟨A,c,hv,_⟩:=bF h1;rw[hv]at h1;exact⟨⟨A,c,hv,bP h1⟩,hl,fun y hy=>(hp.kids z (hz z hz') y hy).n⟩
  exact⟨key (p.g,p.gs) (by simp[o9]) (by simpa[partT]using hm.1),key (p.c,p.cs) (by simp[o9]) (by simpa[partT]using hm.2)⟩
 ·have:=(hb.2.2 _ (hmem b hb')).1
  simpa[lU]using this
def Yj (e:uT):Gv:=⟨e.branch,⟨e.cl.A,e.cl.ns.length,e.cl.c⟩,⟨e.bA,e.bars.length,e.bc⟩⟩
def toR (s:pz):kG:=⟨s.parent,s.type,s.many,s.window,⟨s.bA,s.bars.length,s.bc⟩,⟨s.lv.A,s.lv.ns.length,s.lv.c⟩,⟨s.gd.A,s.gd.ns.length,s.gd.c⟩,s.eA,s.ec,s.ends.map Yj⟩
theorem Yk (e:uT):(Yj e).cells=e.cells:=rfl
theorem LG (s:pz):(toR s).cells=s.cells:=by simp[toR,kG.cells,pz.cells,JO.val,oL.val]
theorem P6 (l:List pz):(l.map toR).flatMap kG.cells=l.flatMap pz.cells:=by
 rw[List.flatMap_map]
 congr 1
 funext s
 exact LG s
theorem P7 (l:List uT):(l.map Yj).flatMap Gv.cells=l.flatMap uT.cells:=by
 rw[List.flatMap_map];rfl
def P8 (i:Nat) (s:UI):Bool:=(((decide (s.parent< -1)||decide ((i:Int)<=s.parent))||decide (s.type<0))||decide (s.window<0))||decide (1152921504606846976<s.window)
def JP:Nat->List UI->Bool
 |_,[]=>true
 |i,s::l=>(!P8 i s&&s.ends.all fun e=> !decide (e.branch<0))&&JP (i+1) l
theorem CV (D:Nat):∀(l:List pz) (i:Nat),nP i (l.map toR)=JP i (l.map (rP D))
 |[],i=>rfl
 |s::l,i=>by
  show((!Gw i (toR s)&&tJ (s.ends.map Yj))&&nP (i+1) (l.map toR))=((!P8 i (rP D s)&&(s.ends.map (Xo D)).all fun e=> !decide (e.branch<0))&&JP (i+1) (l.map (rP D)))
  rw[CV D l (i+1)]
  congr 2
  unfold tJ;rw[List.all_map,List.all_map];rfl
def D6 (a:uV):Bool:=if(decide (a.aS<1)||decide (3<a.aS))||decide (32<a.states.length)then false else JP 0 a.states
theorem I7 (D:Nat) (bg:Int) (l:List pz):uY bg (l.map toR)=D6 ⟨bg,[],l.map (rP D)⟩:=by
 unfold uY D6;rw[CV D l 0];simp
theorem su.gd {D B:Nat} {A:Option Addr} {c:Nat} {dK:List pz} {W:World} (hown:W.ownsRow B 44 8 (.slice A dK.length c) dK.length (dK.flatMap pz.cells)) (hok:∀st∈dK,Ls (fun q=>B<=q/\some q≠(Value.slice A dK.length c).ownBlock) D st W) (hl:dK.length<=1099511627776) (he:∀s∈dK,s.ends.length<=1099511627776):PZ A (dK.map toR) W:=by
 refine⟨by rw[P6];exact bP hown,fun s hs=>?_,by simpa using hl,fun s hs=>?_⟩
 ·obtain⟨a,ha,rfl⟩:=List.mem_map.1 hs
  show Rd W W.heap.size a.eA ((a.ends.map Yj).flatMap Gv.cells)
  rw[P7];exact(hok a ha).ends.rd
 ·obtain⟨a,ha,rfl⟩:=List.mem_map.1 hs
  show(a.ends.map Yj).length<=_
  simpa using he a ha
theorem pb14 (h:Nat):plB (oV (jq h) BA).1=true:=by kernel_rfl
def I8 (a:uV):List (Int×Int×Bool×Int×Nat×List (Int×Nat×Nat)):=a.states.map fun s=>(s.parent,s.type,s.many,s.window,s.bars.length,s.ends.map fun e=>(e.branch,e.cs.length,e.bars.length))
theorem sh14 (h:Nat):I8 (iL (oV (jq h) BA).1).1=[(-1,0,false,9,0,[]),(0,1,true,9,1,[(0,1,1)])]:=by kernel_rfl
theorem be14 (h:Nat):(iL (oV (jq h) BA).1).2=0:=by kernel_rfl
theorem gd14 (h:Nat):D6 (iL (oV (jq h) BA).1).1=true:=by kernel_rfl
theorem bs14 (h:Nat):(iL (oV (jq h) BA).1).1.aS=3:=by kernel_rfl
theorem XD {D B : Nat} {a : uV} {v : Value} {W : World} (h : su D B a v W) (hs : I8 a = [(-1, 0, false, 9, 0, []), (0, 1, true, 9, 1, [(0, 1, 1)])]) :
  ∃(kA:Option Addr) (kn kc gS cS:Nat) (bA:Option Addr) (bc ge oe ec:Nat) (cA cbA:Option Addr) (cc cbc:Nat) (dK:List pz),v=.agg #[.int .i64 a.aS,.slice kA kn kc,.slice (some ⟨gS,0,none⟩) 2 cS]/\dK.length=2/\dK.map (rP D)=a.states/\PZ (some ⟨gS,0,none⟩) (dK.map toR) W/\
   W.cell? ⟨gS,8,none⟩=some (.int .i64 0)/\W.cell? ⟨gS,12,none⟩=some (.slice bA 1 bc)/\W.cell? ⟨gS,15,none⟩=some (.slice (some ⟨ge,oe,none⟩) 1 ec)/\W.cell? ⟨ge,oe+1,none⟩=some (.slice cA 1 cc)/\W.cell? ⟨ge,oe+2,none⟩=some (.slice cbA 1 cbc):=by
 obtain⟨kv,A,c,dK,rfl,hk,hown,hok,ht⟩:=h;unfold I8 at hs;rw[<-ht,List.map_map]at hs;obtain⟨kA,kc,rfl,_⟩:=bF hk;have hl2:dK.length=2:=by simpa using congrArg List.length hs
 obtain⟨s0,s1,rfl⟩:∃s0 s1,dK=[s0,s1]:=by
  match dK,hl2 with
  |[x,y],_=>exact⟨x,y,rfl⟩
 simp only[List.map_cons,List.map_nil,Function.comp,List.cons.injEq,and_true,Prod.mk.injEq,rP,List.length_map,List.map_map]at hs;obtain⟨⟨-,-,-,-,-,he0⟩,⟨h1,-,-,-,hb,he⟩⟩:=hs;have hl1:s1.ends.length=1:=by simpa using congrArg List.length he
 have hl0:s0.ends.length=0:=by simpa using congrArg List.length he0
 obtain⟨e0,hse⟩:∃e0,s1.ends=[e0]:=by
  match hx:s1.ends,hl1 with
  |[x],_=>exact⟨x,rfl⟩
 rw[hse]at he;simp only[List.map_cons,List.map_nil,Function.comp,List.cons.injEq,and_true,Prod.mk.injEq,Xo,UJ,List.length_map]at he;obtain⟨-,hcl,hbl⟩:=he;obtain⟨gS,cS,hv,-,-⟩:=jF hown (by simp);injection hv with hv _ hc
 subst hv;have hrd:=bP hown
 have cell:∀(j:Nat) (u:Value),s1.cells[j]? =some u->W.cell? ⟨gS,8+j,none⟩=some u:=fun j u hu=>by
  obtain⟨g',o',hA',_,hc'⟩:=hrd.elem (n:=8) (f:=pz.cells) yI (by omega) (k:=1) (by simp);injection hA' with hA'
  injection hA' with hA1 hA2
  subst hA1;subst hA2
  simpa using hc' j u hu
 have hgd:=su.gd hown hok (by simp) (fun s hs=>by
  simp only[List.mem_cons,List.not_mem_nil,or_false]at hs;rcases hs with rfl|rfl
  ·omega
  ·omega)
 have hen:=(hok s1 (by simp)).ends;rw[hse]at hen;rcases hen with h0'|⟨ge,oe,hge,-,-,hce⟩
 ·simp[uT.cells]at h0'
 ·refine⟨kA,_,kc,gS,c,s1.bA,s1.bc,ge,oe,s1.ec,e0.cl.A,e0.bA,e0.cl.c,e0.bc,[s0,s1],rfl,rfl,ht,hgd,?_,?_,?_,?_,?_⟩
  ·have:=cell 0 _ rfl;rw[h1]at this;exact this
  ·have:=cell 4 _ rfl;rw[hb]at this;exact this
  ·have:=cell 7 _ rfl;rw[hl1,hge]at this;exact this
  ·have:=hce 1 e0.cl.val (by simp[uT.cells]);unfold oL.val at this;rw[hcl]at this;exact this
  ·have:=hce 2 (.slice e0.bA e0.bars.length e0.bc) (by simp[uT.cells]);rw[hbl]at this;exact this
theorem qy (w:World):Calls Try.prog 7 #[] w fun r w'=>r=.returned (.bool true)/\Below w.heap.size w w':=by
 have OU:Hid (∀W:World,Calls Try.prog 20 #[] W fun r w'=>r=.returned (.agg #[.slice (jq W.heap.size).ta 3 (jq W.heap.size).tc,.slice (jq W.heap.size).sa 1 (jq W.heap.size).sc])/\(jq W.heap.size).ok w' w'.heap.size/\Below W.heap.size W w'):=zH fun W=>PL W
 go_enter Try.func7,Try.ntmps7
 go_wp2_with fail
 refine(OU.out w).mono ?_;rintro r w1 ⟨rfl,hs1,hb1⟩;obtain⟨h,hh⟩:∃z,w.heap.size=z:=⟨_,rfl⟩
 rw[hh]at hs1;have LZ:=zH (PI 200 zL (jq h) ⟨BA.toArray⟩ w1 hs1 (fun _=>zAk (by rw[ByteArray.toList_eq];exact qb14)));rw[ByteArray.toList_eq]at LZ;have HB1:=zH hb1;have HH:=zH hh;clear hs1 hb1 OU;rw[hh];go_wp2_with fail
 refine LZ.out.mono ?_;rintro r w2 ⟨pv,rfl,hpr,hb2⟩;have hok:=ok14 h;have hpb:=pb14 h;have hst:=st14 h;have hsh:=sh14 h;have hbe:=be14 h;have hgd:=gd14 h;have hbs:=bs14 h;obtain⟨⟨t,Rk⟩,ht⟩:∃z,oV (jq h) BA=z:=⟨_,rfl⟩
 rw[ht]at hok hpb hst hsh hbe hgd hbs hpr⊢;simp only at hok hpb hst hsh hbe hgd hbs hpr⊢;subst hok;obtain⟨kv,bv,bs,rfl,hpi,hbt⟩:=hpr.in hpb;obtain⟨Ak,ck,rfl,-⟩:=hpi.keys;obtain⟨Ab,cb,rfl,-⟩:=hpi.dC;obtain⟨nk,hnk⟩:∃z,t.keys.length=z:=⟨_,rfl⟩
 obtain⟨nb,hnb⟩:∃z,bs.length=z:=⟨_,rfl⟩
 rw[hst];have HB2:=zH (HB1.out.trans (hb2.mono HB1.out.size));have HPI:=zH (And.intro hpi (And.intro hbt (And.intro hnk hnb)));rw[hnk,hnb];have XE:=zH (And.intro hsh (And.intro hbe (And.intro hgd (And.intro hbs hst))));clear hpr hpb hst hsh hbe hgd hbs hb2 LZ ht HB1 hpi hbt hnk hnb;go_upto_region 2 with(first|(refine ae jo rfl _ _ rfl rfl [.int .i64 (3:Nat),.slice Ak nk ck,.slice Ab nb cb] rfl (Bk.new w2 _ _) rfl rfl rfl ?_;intro w3 p3;go_frame))
 have hb3:Below w2.heap.size w2 w3:=p3.below _ _ (zR.alloc zL _) zL;obtain⟨v0,v1,v2⟩:=zc3 p3.bk;simp only[List.getElem?_toArray,List.getElem?_cons_zero,List.getElem?_cons_succ]at v0 v1 v2;have HB3:=zH (HB2.out.trans (hb3.mono HB2.out.size));have hbd:=rD 200 t _ _ bs w3 (HPI.out.1.old hb3) HPI.out.2.1;rw[XE.out.2.2.2.2,HPI.out.2.2.1,HPI.out.2.2.2]at hbd;have vJ:=zH hbd;obtain⟨g2,hg2⟩:∃z,w2.heap.size=z:=⟨_,rfl⟩
 rw[hg2]at v0 v1 v2⊢;clear p3 hb3 hbd hg2 HPI HB2;go_wp2_with fail
 refine vJ.out.mono ?_;rintro r w4 ⟨av,rfl,har,hb4⟩;obtain⟨kA,kn,kc,gS,cS,bA,bc,ge,oe,ec,cA,cbA,cc,cbc,dK,rfl,hl2,hmt,hgi,e8,e12,e15,f1,f2⟩:=XD har XE.out.1
 have P9:uY 3 (dK.map toR)=true:=by
  rw[I7 200,hmt];have h5:=XE.out.2.2.1;have h6:=XE.out.2.2.2.1;unfold D6 at h5⊢;rw[h6]at h5;exact h5
 rw[XE.out.2.1,XE.out.2.2.2.1];have HB4:=zH (HB3.out.trans (hb4.mono HB3.out.size));clear har hmt hb4 vJ XE HB3 v0 v1 v2
 have Gj:Hid (∀W,Below w4.heap.size w4 W->Calls Try.prog 8 #[.agg #[.int .i64 3,.slice kA kn kc,.slice (some ⟨gS,0,none⟩) 2 cS]] W fun r w'=>r=.returned (.bool true)/\Below W.heap.size W w'):=zH fun W hW=>by
  have h1:=Gx 3 kA (some ⟨gS,0,none⟩) kn kc cS (dK.map toR) W (hgi.old hW);rw[P9,List.length_map,hl2]at h1;exact h1
 have QI:=World.block_lt_of_cell? _ _ e8;have hge:=World.block_lt_of_cell? _ _ f1;clear hgi P9 hl2;go_wp2_with (first|(refine ae jU rfl _ _ rfl rfl [.int .i64 3,.slice kA kn kc,.slice (some ⟨gS,0,none⟩) 2 cS] rfl (Bk.new w4 _ _) rfl rfl rfl ?_;intro w5 p5;refine Hid.out ?_))
 refine zH ?_;have hb5:Below w4.heap.size w4 w5:=p5.below _ _ (zR.alloc zL _) zL;obtain⟨a0,a1,a2⟩:=zc3 p5.bk;simp only[List.getElem?_toArray,List.getElem?_cons_zero,List.getElem?_cons_succ]at a0 a1 a2;have E8:=(aU hb5 _ _ QI).trans e8;have E12:=(aU hb5 _ _ QI).trans e12;have E15:=(aU hb5 _ _ QI).trans e15;have F1:=(aU hb5 _ _ hge).trans f1;have F2:=(aU hb5 _ _ hge).trans f2;obtain⟨g4,hg4⟩:∃z,w4.heap.size=z:=⟨_,rfl⟩
 have HG5:=zH (Gj.out w5 hb5);have Ot:=zH (HB4.out.trans (hb5.mono HB4.out.size));rw[hg4]at a0 a1 a2⊢;clear p5 hb5 e8 e12 e15 f1 f2 QI hge hg4 Gj HB4;go_wp2_with fail
 refine HG5.out.mono ?_;rintro r w6 ⟨rfl,hb6⟩;have HF:=zH (Ot.out.trans (hb6.mono Ot.out.size));clear hb6 HG5 Ot a0 a1 a2 E8 E12 E15 F1 F2;go_wp2_with fail
 go_ret
 exact⟨rfl,HF.out⟩
end Go.Proofs.Ytbjnhllkdilpfaa
