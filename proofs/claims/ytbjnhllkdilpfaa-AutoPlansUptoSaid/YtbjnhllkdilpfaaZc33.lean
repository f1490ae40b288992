/- Part 33 of the proof. No conditions. -/
import Derived.Test.YtbjnhllkdilpfaaZc29
import Derived.Test.YtbjnhllkdilpfaaZc32
namespace Go.Proofs.Ytbjnhllkdilpfaa
open Go.RowKit
set_option maxRecDepth 100000
set_option maxHeartbeats 16000000
set_option linter.unusedVariables false
set_option linter.unusedSimpArgs false
def DR (s:ai) (br:Nat):List aZ->Nat->Nat->List (Nat×Int)->MS->List (Nat×Int)×MS
 |[],_,_,ps,m=>(ps,m)
 |x::l,i,pos,ps,m=>
  let m1:=if(decide (typeAt s x.type<0)||(dV x.name m.items).2)=true then dC 10 x.pos m else m
  let m2:=if i=0/\x.form=3 then dC 15 x.pos m1 else m1
  DR s br l (i+1) (if x.form≠3 then pos+1 else pos) (ps++[(x.form,typeAt s x.type)]) ⟨m2.items++[⟨x.name,br,i,pos,x.form,typeAt s x.type⟩],m2.err,m2.pos⟩
def Y1 (p:Nat×Int):List Value:=[.int .i64 p.1,.int .i64 p.2,.slice none 0 0,.slice none 0 0]
structure uk (b:Nat) (o:Option Nat) (w w':World):Prop where
 os:w'.os=w.os
 tape:w'.tape=w.tape
 output:w'.output=w.output
 size:w.heap.size<=w'.heap.size
 block:∀k,k<w.heap.size->k≠b->some k≠o->w'.heap[k]? =w.heap[k]?
section
variable {b:Nat} {o:Option Nat} {w w' w2:World}
theorem uk.below (hb:Below w.heap.size w w'):uk b o w w':=⟨hb.os,hb.tape,hb.output,hb.size,fun k hk _ _=>hb.block k hk⟩
theorem uk.more (h:uk b o w w') (hb:Below w'.heap.size w' w2):uk b o w w2:=⟨hb.os.trans h.os,hb.tape.trans h.tape,hb.output.trans h.output,Nat.le_trans h.size hb.size,fun k hk h1 h2=>(hb.block k (Nat.lt_of_lt_of_le hk h.size)).trans (h.block k hk h1 h2)⟩
theorem uk.set (h:uk b o w w') {g:Nat} (hg:g=b\/w.heap.size<=g) (i:Nat) (u:Value):uk b o w (w'.setCell ⟨g,i,none⟩ u):=
 ⟨h.os,h.tape,h.output,by simpa using h.size,fun k hk h1 h2=>(Below.heap_setCell w' _ _ k (by show k≠g;omega)).trans (h.block k hk h1 h2)⟩
theorem uk.row (h:uk b o w w') {r:Option Nat} (hr:r=o\/∀k,r=some k->w.heap.size<=k) (hg:w'.grownBy w2 r):uk b o w w2:=
 ⟨hg.os.trans h.os,hg.tape.trans h.tape,hg.output.trans h.output,Nat.le_trans h.size hg.size,fun k hk h1 h2=>(hg.block k (Nat.lt_of_lt_of_le hk h.size) (by
  rcases hr with rfl|hr
  ·exact h2
  ·intro e;have:=hr k e.symm
   omega)).trans (h.block k hk h1 h2)⟩
theorem uk.st (h:uk b o w w') (hg:w'.grownBy w2 (some b)):uk b o w w2:=
 ⟨hg.os.trans h.os,hg.tape.trans h.tape,hg.output.trans h.output,Nat.le_trans h.size hg.size,fun k hk h1 h2=>(hg.block k (Nat.lt_of_lt_of_le hk h.size) (aA h1)).trans (h.block k hk h1 h2)⟩
theorem uk.put (h:uk b o w w') {g t:Nat} {cs:Array Value} (hp:lH w' g t cs w2) (hg:w.heap.size<=g):uk b o w w2:=
 ⟨hp.grown.os.trans h.os,hp.grown.tape.trans h.tape,hp.grown.output.trans h.output,Nat.le_trans h.size hp.grown.size,fun k hk h1 h2=>(hp.other k (by omega)).trans (h.block k hk h1 h2)⟩
end
theorem RY:(Try.prog.info? 31).map (fun i=>(i.zero,i.size,i.bytes))=some (some (.agg #[.int .i64 0,.int .i64 0,.slice none 0 0,.slice none 0 0]),4,64):=by kernel_rfl
theorem jg.app {b B:Nat} {s:ai} {iv oG:Value} {m:MS} {W W':World} {x:bP} (h:jg b B s iv m W) (hbB:b<B) (hown:W'.ownsRow B 141 6 oG (m.items.length+1) (m.items.flatMap bP.cells++x.cells)) (hg:W.grownBy W' iv.ownBlock):jg b B s oG ⟨m.items++[x],m.err,m.pos⟩ (W'.setCell ⟨b,2,none⟩ oG):=by
 have hne:some b≠iv.ownBlock:=fun e=>by have:=(h.own.lt b e.symm).1;omega
 have hne':some b≠oG.ownBlock:=fun e=>by have:=(hown.lt b e.symm).1;omega
 refine⟨(h.bk.grown hg hne).put 2 _,h.CG.jf ((je zR h.own (Nat.le_of_lt hbB) hg (Nat.le_of_lt h.bk.lt)).setCell zL _),?_⟩;have:=ownsRow_setCell_other hown (fun e=>hne' e.symm) oG (a:=⟨b,2,none⟩)
 simpa using this
structure DT (b B:Nat) (s:ai) (iv:Value) (m:MS) (gr gb B1:Nat) (br within:Int) (A:Option Addr) (n c:Nat) (ps:List (Nat×Int)) (MQ:Value) (w W:World):Prop where
 st:jg b B s iv m W
 kr:Bk W gr 28 #[.int .i64 0,.int .i64 0,.slice none 0 0]
 kb:Bk W gb 28 #[.int .i64 br,.int .i64 within,.slice A n c]
 own:W.ownsRow B1 31 4 (.slice A n c) n (ps.flatMap Y1)
 far:uk b MQ.ownBlock w W
 iv:iv.ownBlock=MQ.ownBlock\/∀k,iv.ownBlock=some k->w.heap.size<=k
 sz:B1<=W.heap.size
theorem DT.old {b B:Nat} {s:ai} {iv:Value} {m:MS} {gr gb B1:Nat} {br within:Int} {A:Option Addr} {n c:Nat} {ps:List (Nat×Int)} {MQ:Value} {w W W':World} (h:DT b B s iv m gr gb B1 br within A n c ps MQ w W) (hb:Below W.heap.size W W'):DT b B s iv m gr gb B1 br within A n c ps MQ w W':=
 ⟨h.st.old hb,h.kr.old hb,h.kb.old hb,aQ h.own hb,h.far.more hb,h.iv,Nat.le_trans h.sz hb.size⟩
theorem DT.stp {b B:Nat} {s:ai} {iv:Value} {m m':MS} {gr gb B1:Nat} {br within:Int} {A:Option Addr} {n c:Nat} {ps:List (Nat×Int)} {MQ:Value} {w W W':World} (h:DT b B s iv m gr gb B1 br within A n c ps MQ w W) (hs:gW b B s iv m' W W') (hb:b<w.heap.size) (hr:gr≠b) (hgb:gb≠b) (hB1:w.heap.size<=B1):DT b B s iv m' gr gb B1 br within A n c ps MQ w W':=
 ⟨hs.st,h.kr.grown hs.grown (aA hr),h.kb.grown hs.grown (aA hgb),fV h.own hs.grown (by omega),h.far.st hs.grown,h.iv,Nat.le_trans h.sz hs.grown.size⟩
theorem DT.item {b B : Nat} {s : ai} {iv oG : Value} {m : MS} {gr gb B1 : Nat} {br within : Int} {A : Option Addr} {n c : Nat} {ps : List (Nat × Int)} {MQ : Value} {w W W' : World} {x : bP} (h : DT b B s iv m gr gb B1 br within A n c ps MQ w W) (hbB : b < B) (hb : b < B1) (hr : gr ≠ b) (hgb : gb ≠ b)
  (hown:W'.ownsRow B 141 6 oG (m.items.length+1) (m.items.flatMap bP.cells++x.cells)) (hg:W.grownBy W' iv.ownBlock) (hwh:oG.ownBlock=iv.ownBlock\/∀k,oG.ownBlock=some k->w.heap.size<=k):
  DT b B s oG ⟨m.items++[x],m.err,m.pos⟩ gr gb B1 br within A n c ps MQ w (W'.setCell ⟨b,2,none⟩ oG):=by
 have hown2:=dN h.own h.st.own (by decide) hg;refine⟨h.st.app hbB hown hg,(h.kr.grown hg (aO h.st.own h.kr (by decide))).far (by exact hr) _,(h.kb.grown hg (aO h.st.own h.kb (by decide))).far (by exact hgb) _,ownsRow_setCell_other hown2 (fun e=>by have:=(hown2.lt b e).1;omega) _,(h.far.row h.iv hg).set (.inl rfl) _ _,?_,?_⟩
 ·rcases hwh with e|e
  ·rw[e];exact h.iv
  ·exact .inr e
 ·have:=h.sz;have:=hg.size;simp;omega
theorem DT.part {b B : Nat} {s : ai} {iv : Value} {m : MS} {gr gb B1 : Nat} {br within : Int} {A A' : Option Addr} {n c c' : Nat} {ps : List (Nat × Int)} {MQ : Value} {w W W' : World} {x : Nat × Int} (h : DT b B s iv m gr gb B1 br within A n c ps MQ w W) (hb : b < B1) (hr : gr ≠ gb) (hgb : gb ≠ b) (hgB : gb < B1) (hwB : w.heap.size ≤ B1) (hwg : w.heap.size ≤ gb) (hbw : b < w.heap.size)
  (hown:W'.ownsRow B1 31 4 (.slice A' (n+1) c') (n+1) (ps.flatMap Y1++Y1 x)) (hg:W.grownBy W' (Value.slice A n c).ownBlock):
  DT b B s iv m gr gb B1 br within A' (n+1) c' (ps++[x]) MQ w (W'.setCell ⟨gb,2,none⟩ (.slice A' (n+1) c')):=by
 have lo:∀q,q<B1->some q≠(Value.slice A n c).ownBlock:=fun q hq e=>by have:=(h.own.lt q e.symm).1;omega
 have hst:jg b B s iv m W':=⟨h.st.bk.grown hg (lo b hb),h.st.CG.jf (je zR h.own (Nat.le_of_lt hb) hg (Nat.le_of_lt h.st.bk.lt)),dN h.st.own h.own (by decide) hg⟩
 refine⟨⟨hst.bk.far (by exact hgb.symm) _,?_,ve hst.own ((h.kb.grown hg (lo gb hgB))) (by decide) _ _⟩,(h.kr.grown hg (aO h.own h.kr (by decide))).far (by exact hr) _,(h.kb.grown hg (lo gb hgB)).put 2 _,?_,?_,h.iv,?_⟩
 ·have hbg:b<=gb:=by omega
  exact hst.CG.jf (zR.setCell hbg _)
 ·rw[List.flatMap_append];have:=ve hown (h.kb.grown hg (lo gb hgB)) (by decide) 2 (.slice A' (n+1) c')
  simpa using this
 ·exact(h.far.row (.inr fun k hk=>by have:=(h.own.lt k hk).1;omega) hg).set (.inr hwg) _ _
 ·have:=h.sz;have:=hg.size;simp;omega
theorem MR (w:World):(sizeOf 28).run Try.prog w=.ok 3 w:=by
 obtain⟨i,hi,h0,h1,h2⟩:=info_parts (show(Try.prog.info? 28).map (fun i=>(i.zero,i.size,i.bytes))=some (some (.agg #[.int .i64 0,.int .i64 0,.slice none 0 0]),3,40) by kernel_rfl);simp[sizeOf,typeInfo,hi,h1]
theorem Ij (c0 c1 c2 c3 c4 c5:Value) (w:World):(Instr.buildSlice 109 1 #[(0,.agg #[c0,c1,c2,c3,c4,c5])]).run Try.prog w=.ok (.slice (some ⟨w.heap.size,0,none⟩) 1 1) (w.alloc (.cells #[c0,c1,c2,c3,c4,c5] 141)):=by kernel_rfl
theorem KF {w : World} {o : Oper} {a : Act} {K : Act → World → Prop} {Q : Exit → Act → World → Prop} {c0 c1 c2 c3 c4 c5 : Value} (x : Operand) (ho : o.op = .buildSlice 109 1 #[(0, x)]) (hx : a.eval x = .agg #[c0, c1, c2, c3, c4, c5])
  (h:K (a.put o.dst (.slice (some ⟨w.heap.size,0,none⟩) 1 1)) (w.alloc (.cells #[c0,c1,c2,c3,c4,c5] 141))):o.wp Try.prog a w K Q:=by
 unfold Oper.wp execOp;simp only[ho,List.map_toArray,List.map_cons,List.map_nil,hx,Sem.run_bind,Ij,Result.andThen_ok,Sem.run_pure];exact h
theorem EN (NM:ByteArray) (x1 x2 x3 x4 x5:Int) (w:World):(Instr.build 141 #[(0,.string NM),(1,.int .i64 x1),(2,.int .i64 x2),(3,.int .i64 x3),(4,.int .i64 x4),(5,.int .i64 x5)]).run Try.prog w=.ok (.agg #[.string NM,.int .i64 x1,.int .i64 x2,.int .i64 x3,.int .i64 x4,.int .i64 x5]) w:=by kernel_rfl
theorem Ik {w : World} {o : Oper} {a : Act} {K : Act → World → Prop} {Q : Exit → Act → World → Prop} {NM : ByteArray} {x1 x2 x3 x4 x5 : Int} (p0 p1 p2 p3 p4 p5 : Operand) (ho : o.op = .build 141 #[(0, p0), (1, p1), (2, p2), (3, p3), (4, p4), (5, p5)])
  (h0:a.eval p0=.string NM) (h1:a.eval p1=.int .i64 x1) (h2:a.eval p2=.int .i64 x2) (h3:a.eval p3=.int .i64 x3) (h4:a.eval p4=.int .i64 x4) (h5:a.eval p5=.int .i64 x5)
  (h:K (a.put o.dst (.agg #[.string NM,.int .i64 x1,.int .i64 x2,.int .i64 x3,.int .i64 x4,.int .i64 x5])) w):o.wp Try.prog a w K Q:=by
 unfold Oper.wp execOp;simp only[ho,List.map_toArray,List.map_cons,List.map_nil,h0,h1,h2,h3,h4,h5,Sem.run_bind,EN,Result.andThen_ok,Sem.run_pure];exact h
theorem Il (b B : Nat) (s : ai) (iv : Value) (m : MS) (br : Nat) (within : Int) (its : List aZ) (A0 : Option Addr) (cc : Nat) (w : World) (h : jg b B s iv m w) (hbB : b < B) (hB : B ≤ w.heap.size) (hn : m.items.length + its.length ≤ 1000)
  (hr:∀(j:Nat) (hj:j<its.length),∃g o,A0=some ⟨g,o,none⟩/\g<w.heap.size/\g≠b/\some g≠iv.ownBlock/\∀(q:Nat) (u:Value),its[j].cells[q]? =some u->w.cell? ⟨g,o+(j*4+q),none⟩=some u):
  Calls Try.prog 46 #[.pointer (some ⟨b,0,none⟩),.int .i64 br,.slice A0 its.length cc,.int .i64 within] w fun r w'=>
   ∃(A:Option Addr) (n c:Nat) (oG:Value),r=.returned (.agg #[.int .i64 br,.int .i64 within,.slice A n c])/\n=(DR s br its 0 0 [] m).1.length/\w'.ownsRow w.heap.size 31 4 (.slice A n c) n ((DR s br its 0 0 [] m).1.flatMap Y1)/\jg b B s oG (DR s br its 0 0 [] m).2 w'/\uk b iv.ownBlock w w'/\(oG.ownBlock=iv.ownBlock\/∀k,oG.ownBlock=some k->w.heap.size<=k):=by
 obtain⟨⟨PS,MF⟩,hres⟩:∃z,DR s br its 0 0 [] m=z:=⟨_,rfl⟩
 rw[hres];simp only[];have H0:Hid (DR s br (its.drop 0) 0 0 [] m=(PS,MF)):=zH hres;have HRW:=zH hr;have HM:=zH h;have hbl:=h.bk.lt;obtain⟨N,hN⟩:∃z,its.length=z:=⟨_,rfl⟩
 have Gs:=zH hN;have hn1:N<=1000:=by omega
 have HN:=zH hn;rw[hN];clear hres hr h hN hn
 go_enter Try.func46,Try.ntmps46
 have kr:=Bk.new w 28 #[.int .i64 0,.int .i64 0,.slice none 0 0];have hb0:Below w.heap.size w (w.alloc (.cells #[.int .i64 0,.int .i64 0,.slice none 0 0] 28)):=zR.alloc zL _;go_upto_region 1 with fail
 obtain⟨wa,hwa⟩:∃z,w.alloc (.cells #[.int .i64 0,.int .i64 0,.slice none 0 0] 28)=z:=⟨_,rfl⟩
 rw[hwa]at kr hb0⊢;obtain⟨gr,hgr⟩:∃z,w.heap.size=z:=⟨_,rfl⟩
 rw[hgr]at kr⊢;have hgrl:=kr.lt;clear hwa;go_upto_region 2 with(first|(refine ae MR rfl _ _ rfl rfl [.int .i64 br,.int .i64 within,.slice none 0 0] rfl (Bk.new wa _ _) rfl rfl rfl ?_;intro w0 p0))
 obtain⟨gb,hgb⟩:∃z,wa.heap.size=z:=⟨_,rfl⟩
 have kb0:=p0.bk;rw[hgb]at kb0 p0⊢;have Y2:Below wa.heap.size wa w0:=p0.below _ _ (zR.alloc zL _) (by omega);have hgbl:=kb0.lt;have hB0:Below w.heap.size w w0:=hb0.trans (Y2.mono hb0.size);have V0:DT b B s iv m gr gb w0.heap.size br within none 0 0 [] iv w w0:=⟨HM.out.old hB0,kr.old Y2,kb0,World.ownsRow_nil _ _ _ _,uk.below hB0,.inl rfl,Nat.le_refl _⟩
 have qL:=zH V0;have Y3:gr≠b:=by omega
 have VL:gb≠b:=by omega
 have hgg:gr<gb:=by omega
 have hw0:w.heap.size<=w0.heap.size:=hB0.size;clear kr hb0 p0 kb0 Y2 hB0 V0 hgb;go_wp2_with fail
 go_loopw[10,21] (fun po i wr=>∃(j pn:Nat) (oG:Value) (m':MS) (A:Option Addr) (c:Nat) (ps:List (Nat×Int)),j<=N/\po=.int .i64 pn/\pn<=j/\i=.int .i64 j/\ps.length=j/\m'.items.length+(N-j)<=1000/\Hid (DR s br (its.drop j) j pn ps m'=(PS,MF))/\Hid (DT b B s oG m' gr gb w0.heap.size br within A j c ps iv w wr)) (fun _ i _=>N-(intOf i).toNat)
 case atStart=>exact⟨0,0,iv,m,none,0,[],Nat.zero_le _,rfl,Nat.le_refl _,rfl,rfl,by have:=HN.out;have:=Gs.out;omega,H0,qL⟩
 case round=>
  clear qL H0;obtain⟨j,pn,oG,m',A,c,ps,hj,rfl,hpn,rfl,hps,hml,HR,HV⟩:=hrel;obtain⟨W,rfl⟩:∃W:World,W=wr:=⟨_,rfl⟩
  by_cases hlt:j<N
  ·
   have hjl:j<its.length:=by rw[Gs.out];exact hlt
   obtain⟨g,o,rfl,hg,hgb2,hgi,hc⟩:=HRW.out j hjl;have hR:=HR.out;rw[List.drop_eq_getElem_cons hjl]at hR;obtain⟨⟨fo,ty,nm,po⟩,hx⟩:∃z,its[j]=z:=⟨_,rfl⟩
   rw[hx]at hc hR
   have hcc:∀(q:Nat) (u:Value),(aZ.mk fo ty nm po).cells[q]? =some u->W.cell? ⟨g,o+(j*4+q),none⟩=some u:=fun q u hu=>by
    rw[<-hc q u hu];exact World.cell?_of_block (HV.out.far.block g hg hgb2 hgi)
   obtain⟨TY,hTY⟩:∃z,bytes ty=z:=⟨_,rfl⟩
   obtain⟨NM,hNM⟩:∃z,bytes nm=z:=⟨_,rfl⟩
   have HNMH:=zH hNM;have r0:W.cell? ⟨g,o+j*4,none⟩=some (.int .i64 fo):=hcc 0 _ rfl;have r1:W.cell? ⟨g,o+j*4+1,none⟩=some (.string TY):=by rw[<-hTY];exact hcc 1 _ rfl
   have r2:W.cell? ⟨g,o+j*4+2,none⟩=some (.string NM):=by rw[<-hNM];exact hcc 2 _ rfl
   have r3:W.cell? ⟨g,o+j*4+3,none⟩=some (.int .i64 po):=hcc 3 _ rfl;have HR2:=zH hR;clear hc hcc hR HR hx hgi hgb2;go_upto_region 6 with(first|(refine ae xP rfl _ _ rfl rfl [.int .i64 fo,.string TY,.string NM,.int .i64 po] rfl (Bk.new W _ _) rfl rfl rfl ?_;intro w1 p1))
   have hb1:Below W.heap.size W w1:=p1.below _ _ (zR.alloc zL _) zL;have kt:=p1.bk;obtain⟨gt,hgt⟩:∃z,W.heap.size=z:=⟨_,rfl⟩
   rw[hgt]at kt⊢;have hv1:=HV.out.old hb1;have VM:gt≠b:=by have:=HV.out.st.bk.lt;omega
   have hgtB:w0.heap.size<=gt:=by have:=HV.out.sz;omega
   have hTYl:TY.toList=ty:=by rw[<-hTY,aF]
   have hNMl:NM.toList=nm:=by rw[<-hNM,aF]
   obtain⟨kd,hkd⟩:∃z,typeAt s ty=z:=⟨_,rfl⟩
   obtain⟨⟨⟨yn,yb,yp,yo,yf,yk⟩,fb⟩,hfd⟩:∃z,dV nm m'.items=z:=⟨_,rfl⟩
   obtain⟨YN,hYN⟩:∃z,bytes yn=z:=⟨_,rfl⟩
   have HTA:Hid (∀W':World,Below w1.heap.size w1 W'->Calls Try.prog 65 #[.agg #[.slice s.ta s.types.length s.tc,.slice s.sa s.syms.length s.sc],.string TY] W' fun e w'=>e=.returned (.int .i64 kd)/\Below W'.heap.size W' w'):=zH fun W' hW=>by
    have:=J9 s TY W' ((hv1.st.old hW).CG.more (Nat.le_of_lt (hv1.st.old hW).bk.lt));rw[hTYl,hkd]at this;exact this
   have zC:Hid (∀W':World,Below w1.heap.size w1 W'->Calls Try.prog 66 #[.pointer (some ⟨b,0,none⟩),.string NM] W' fun r w'=>r=.returned (.tuple #[.agg #[.string YN,.int .i64 yb,.int .i64 yp,.int .i64 yo,.int .i64 yf,.int .i64 yk],.bool fb])/\Below W'.heap.size W' w'):=zH fun W' hW=>by
    have:=vZ b B s oG m' W' NM (hv1.st.old hW) (by omega);rw[hNMl,hfd]at this;simp only[bP.cells,hYN]at this;exact this
   have hR:=HR2.out;unfold DR at hR;simp only[hkd,hfd]at hR;obtain⟨ng,RZ⟩:∃z,decide (kd<0)=z:=⟨_,rfl⟩
   obtain⟨m1,hm1⟩:∃z,(if(ng||fb)=true then dC 10 po m' else m')=z:=⟨_,rfl⟩
   rw[RZ,hm1]at hR;obtain⟨q3,hq3⟩:∃z,(decide (j=0)&&decide (fo=3))=z:=⟨_,rfl⟩
   have hq3e:(j=0/\fo=3)<->q3=true:=by rw[<-hq3];simp
   obtain⟨m2,hm2⟩:∃z,(if j=0/\fo=3 then dC 15 po m1 else m1)=z:=⟨_,rfl⟩
   rw[hm2]at hR;have HR3:=zH hR;have GI:=zH hm1;have mV:Hid ((if q3=true then dC 15 po m1 else m1)=m2):=zH (by rw[<-hm2];by_cases h:j=0/\fo=3<;>simp[h,hq3e.1,<-hq3]);have HQ3:=zH hq3;have Po:=zH RZ
   have HML:Hid (m2.items=m'.items):=zH (by
    rw[<-hm2,<-hm1]
    (repeat' split)<;>first|rfl|exact bU _ _ _|(rw[bU];done)|(rw[bU,bU]))
   have s0:w1.cell? ⟨b,0,none⟩=some (.slice s.ta s.types.length s.tc):=hv1.st.bk.cell 0;have s1:w1.cell? ⟨b,1,none⟩=some (.slice s.sa s.syms.length s.sc):=hv1.st.bk.cell 1;have t1:w1.cell? ⟨gt,1,none⟩=some (.string TY):=kt.cell 1;have yF:=zH (And.intro hv1 kt);clear r0 r1 r2 r3 hb1 p1 hgt hv1 kt hTY hNM hTYl hNMl hkd hfd hYN HR2 hR RZ hm1 hm2 hq3 hq3e hg HRW HV
   refine wx (fun k => false) [.is (.pointer (some ⟨b, 0, none⟩)),
     .is (.pointer (some ⟨b,0,none⟩)),
     .is (.pointer (some ⟨b,0,none⟩)),
     .is (.agg #[.slice s.ta s.types.length s.tc,.slice s.sa s.syms.length s.sc]),
     .is (.pointer (some ⟨gt,1,none⟩)),
     .is (.string TY)] [3] (by kernel_rfl) (by kernel_rfl) (by kernel_rfl)
     (fun C=>.c (px C rfl (fun _ _=>rfl)) <|
     .c (px C rfl (fun _ _=>rfl)) <|
     .c (px C rfl (fun _ _=>rfl)) <|
     .c (pz [2] [] (by kernel_rfl) fun qK qa wr hB qO qF hK=>?_) <|
     .c (px C rfl (fun _ _=>rfl)) <|
     .c (px C rfl (fun _ h=>bW (Gf (bc h t1)))) <| .nil) ?_
   ·have e28:=ay qF.1 rfl rfl;clear qO qF;have hs0:=zE hB s0;have hs1:=zE hB s1;go_simp;exact hK _ _ zR rfl
   intro qx wr hB hR hS;clear hR hS;simp only[bJ,List.take_succ_cons,List.take_zero,List.drop_succ_cons,List.drop_zero,List.toList_toArray,List.length_cons,List.length_nil,Act.put,List.setIfInBounds_toArray,List.set_cons_zero,List.set_cons_succ];have HB:=zH hB;have t2:wr.cell? ⟨gt,2,none⟩=some (.string NM):=(yF.out.2.old hB).cell 2;clear hB s0 s1 t1;go_wp2_with fail
   refine(HTA.out _ HB.out).mono ?_;rintro r w2 ⟨rfl,hb2⟩;have t2:w2.cell? ⟨gt,2,none⟩=some (.string NM):=zE hb2 t2;have HB2:=zH (HB.out.trans (hb2.mono HB.out.size));clear HTA hb2 HB;go_wp2_with fail
   refine(zC.out _ HB2.out).mono ?_;rintro r w3 ⟨rfl,hb3⟩;have HB3:=zH (HB2.out.trans (hb3.mono HB2.out.size));clear zC hb3 HB2 t2;go_upto_region 8 with(first|(refine ae gm rfl _ _ rfl rfl [.string YN,.int .i64 yb,.int .i64 yp,.int .i64 yo,.int .i64 yf,.int .i64 yk] rfl (Bk.new w3 _ _) rfl rfl rfl ?_;intro w4 p4;go_frame))
   have hb4:Below w1.heap.size w1 w4:=p4.below _ _ (HB3.out.alloc HB3.out.size _) HB3.out.size;have jE:Hid (DT b B s oG m' gr gb w0.heap.size br within A j c ps iv w w4/\Bk w4 gt 126 #[.int .i64 fo,.string TY,.string NM,.int .i64 po]):=zH ⟨yF.out.1.old hb4,yF.out.2.old hb4⟩;clear p4 hb4 HB3 yF;obtain⟨q4,hq4⟩:∃z,(ng||fb)=z:=⟨_,rfl⟩
   have hm1:=GI.out;rw[hq4]at hm1;have GI:=zH hm1;have HQ4:=zH hq4;clear hm1 hq4
   go_cut[44] (fun v44 wx=>v44=.bool q4/\w4=wx)
   case first=>
    as_aux_lemma=>
    cases ng
    ·have hn:¬kd<0:=by have:=Po.out;simpa using this
     cases fb
     all_goals
      obtain rfl:=HQ4.out;go_wp2_with fail
      go_meet
      exact⟨rfl,rfl⟩
    ·have hn:kd<0:=by have:=Po.out;simpa using this
     obtain rfl:=HQ4.out;go_wp2_with fail
     go_meet
     exact⟨rfl,rfl⟩
   case rest=>
   obtain⟨rfl,hwc⟩:=hcut;subst hwc;go_upto_if 44 with fail
   go_cut[] (fun wx=>Hid (DT b B s oG m1 gr gb w0.heap.size br within A j c ps iv w wx/\Bk wx gt 126 #[.int .i64 fo,.string TY,.string NM,.int .i64 po]))
   case first=>
    as_aux_lemma=>
    have hm:=GI.out;cases q4
    ·rw[if_neg (by decide)]at hm;subst hm;clear GI;go_wp2_with fail
     go_meet
     exact jE
    ·rw[if_pos rfl]at hm;have jR:=zH (jr b B s oG m' w4 10 po jE.out.1.st hbB);rw[hm]at jR;have t3:w4.cell? ⟨gt,3,none⟩=some (.int .i64 po):=jE.out.2.cell 3;clear GI hm;go_wp2_with fail
     refine jR.out.mono ?_;rintro r w5 ⟨rfl,hs5⟩;have UL:Hid (DT b B s oG m1 gr gb w0.heap.size br within A j c ps iv w w5/\Bk w5 gt 126 #[.int .i64 fo,.string TY,.string NM,.int .i64 po]):=zH ⟨jE.out.1.stp hs5 (by omega) Y3 VL hw0,jE.out.2.grown hs5.grown (aA VM)⟩;clear jR hs5 t3;go_wp2_with fail
     go_meet
     exact UL
   case rest=>
   rename World=>EO
   have HV5:=hcut;clear jE hcut;obtain⟨w5,rfl⟩:∃z:World,z=EO:=⟨_,rfl⟩
   go_upto_region 10 with fail
   have t0:w5.cell? ⟨gt,0,none⟩=some (.int .i64 fo):=HV5.out.2.cell 0
   go_cut[55] (fun v55 wx=>v55=.bool q3/\w5=wx)
   case first=>
    as_aux_lemma=>
    have hq:=HQ3.out
    by_cases h0:j=0
    ·have e0:((j:Int)==0)=true:=by rw[beq_iff_eq];omega
     by_cases h3:fo=3
     ·have e3:((fo:Int)==3)=true:=by rw[beq_iff_eq];omega
      have hq:q3=true:=by rw[<-hq];simp[h0,h3]
      subst hq;clear h0 h3;go_wp2_with fail
      go_meet
      exact⟨rfl,rfl⟩
     ·have e3:((fo:Int)==3)=false:=zB (by omega)
      have hq:q3=false:=by rw[<-hq];simp[h3]
      subst hq;clear h0 h3;go_wp2_with fail
      go_meet
      exact⟨rfl,rfl⟩
    ·have e0:((j:Int)==0)=false:=zB (by omega)
     have hq:q3=false:=by rw[<-hq];simp[h0]
     subst hq;clear h0;go_wp2_with fail
     go_meet
     exact⟨rfl,rfl⟩
   case rest=>
   obtain⟨rfl,hwc⟩:=hcut;subst hwc;clear t0;go_upto_if 55 with fail
   go_cut[] (fun wx=>Hid (DT b B s oG m2 gr gb w0.heap.size br within A j c ps iv w wx/\Bk wx gt 126 #[.int .i64 fo,.string TY,.string NM,.int .i64 po]))
   case first=>
    as_aux_lemma=>
    have hm:=mV.out;cases q3
    ·rw[if_neg (by decide)]at hm;subst hm;clear mV;go_wp2_with fail
     go_meet
     exact HV5
    ·rw[if_pos rfl]at hm;have jR:=zH (jr b B s oG m1 w5 15 po HV5.out.1.st hbB);rw[hm]at jR;have t3:w5.cell? ⟨gt,3,none⟩=some (.int .i64 po):=HV5.out.2.cell 3;clear mV hm;go_wp2_with fail
     refine jR.out.mono ?_;rintro r w5 ⟨rfl,hs5⟩;have UL:Hid (DT b B s oG m2 gr gb w0.heap.size br within A j c ps iv w w5/\Bk w5 gt 126 #[.int .i64 fo,.string TY,.string NM,.int .i64 po]):=zH ⟨HV5.out.1.stp hs5 (by omega) Y3 VL hw0,HV5.out.2.grown hs5.grown (aA VM)⟩;clear jR hs5 t3;go_wp2_with fail
     go_meet
     exact UL
   case rest=>
   rename World=>EO
   have fM:=hcut;clear HV5 hcut;obtain⟨w6,rfl⟩:∃z:World,z=EO:=⟨_,rfl⟩
   go_upto_region 12 with fail
   obtain⟨AI,ci,hiv,-⟩:=bg fM.out.1.st.own;subst hiv;obtain⟨L,hL⟩:∃z,m2.items.length=z:=⟨_,rfl⟩
   have uH:=zH hL;have hL1:L+(N-j)<=1000:=by rw[<-hL,HML.out];exact hml
   have Bi:=fM.out.1.st.own;have i2:w6.cell? ⟨b,2,none⟩=some (.slice AI L ci):=by rw[<-hL];exact fM.out.1.st.bk.cell 2
   have t2:w6.cell? ⟨gt,2,none⟩=some (.string NM):=fM.out.2.cell 2;have t0:w6.cell? ⟨gt,0,none⟩=some (.int .i64 fo):=fM.out.2.cell 0;rw[hL]at Bi;have Xe:B<=w6.heap.size:=by have:=fM.out.1.far.size;omega
   have hW6:w.heap.size<=w6.heap.size:=fM.out.1.far.size;obtain⟨iI,hI,hI0,hI1,hI2⟩:=info_parts EG;have HOWN:=zH Bi;have tJ:Hid (bytes nm=NM):=HNMH;obtain⟨wz,hwz⟩:∃z,w.heap.size=z:=⟨_,rfl⟩
   obtain⟨xs,hxs⟩:∃z,m2.items.flatMap bP.cells=z:=⟨_,rfl⟩
   have HWZ:=zH hwz;have HXS:=zH hxs;rw[hxs]at Bi;have HOWN:=zH Bi;have hW6z:wz<=w6.heap.size:=by omega
   clear Bi hL hwz hxs
   refine Go.Proofs.Ytbjnhllkdilpfaa.wr 15 ((Value.slice AI L ci).ownBlock) [.is (.pointer (some ⟨b, 0, none⟩)),
     .is (.pointer (some ⟨b,0,none⟩)),
     .is (.pointer (some ⟨b,0,none⟩)),
     .is (.pointer (some ⟨b,2,none⟩)),
     .is (.slice AI L ci),
     .is (.pointer (some ⟨gt,2,none⟩)),
     .is (.string NM),
     .is (.int .i64 br),
     .is (.int .i64 j),
     .is (.int .i64 pn),
     .is (.pointer (some ⟨gt,0,none⟩)),
     .is (.int .i64 fo),
     .is (.int .i64 kd),
     .is (.agg #[.string NM,.int .i64 br,.int .i64 j,.int .i64 pn,.int .i64 fo,.int .i64 kd]),
     .st (fun v w=>∃g,v=.slice (some ⟨g,0,none⟩) 1 1/\Bk w g 141 #[.string NM,.int .i64 br,.int .i64 j,.int .i64 pn,.int .i64 fo,.int .i64 kd]) (fun _ _ _ hb ⟨g,h1,h2⟩=>⟨g,h1,h2.old hb⟩),
     .st (fun v w=>∃(A:Option Addr) (c:Nat),v=.slice A (L+1) c/\w.ownsRow B 141 6 (.slice A (L+1) c) (L+1) (xs++[.string NM,.int .i64 br,.int .i64 j,.int .i64 pn,.int .i64 fo,.int .i64 kd])/\((Value.slice A (L+1) c).ownBlock=(Value.slice AI L ci).ownBlock\/∀k,(Value.slice A (L+1) c).ownBlock=some k->wz<=k)) (fun _ _ _ hb ⟨A,c,h1,h2,h3⟩=>⟨A,c,h1,aQ h2 hb,h3⟩)] [13,14,15] (by kernel_rfl) (by kernel_rfl) (by kernel_rfl)
     (fun C=>.c (ah.x (rG _) C rfl (fun _ _=>rfl)) <|
     .c (ah.x (rG _) C rfl (fun _ _=>rfl)) <|
     .c (ah.x (rG _) C rfl (fun _ _=>rfl)) <|
     .c (ah.x (rG _) C rfl (fun _ _=>rfl)) <|
     .c (ah.b (rG _) C (by kernel_rfl) (fun _ h=>bW (LV (bc h i2)))) <|
     .c (ah.x (rG _) C rfl (fun _ _=>rfl)) <|
     .c (ah.b (rG _) C (by kernel_rfl) (fun _ h=>bW (Gf (bc h t2)))) <|
     .c (ah.x (rG _) C rfl (fun _ _=>rfl)) <|
     .c (ah.x (rG _) C rfl (fun _ _=>rfl)) <|
     .c (ah.x (rG _) C rfl (fun _ _=>rfl)) <|
     .c (ah.x (rG _) C rfl (fun _ _=>rfl)) <|
     .c (ah.b (rG _) C (by kernel_rfl) (fun _ h=>bW (lJ (bc h t0)))) <|
     .c (ah.x (rG _) C rfl (fun _ _=>rfl)) <|
     .c (ah.z (rG _) [6,7,8,9,11,12] [] (by kernel_rfl) fun qK qa wr hB qO qF hK=>?_) <|
     .c (ah.z (rG _) [13] [] (by kernel_rfl) fun qK qa wr hB qO qF hK=>?_) <|
     .c (ah.g [4,14] [] (by kernel_rfl) fun qK qa wr hB qO qF hK=>?_) <| .nil) ?_
   ·have e66:=ay qF.1 rfl rfl;have e67:=ay qF.2.1 rfl rfl;have e68:=ay qF.2.2.1 rfl rfl;have e69:=ay qF.2.2.2.1 rfl rfl;have e71:=ay qF.2.2.2.2.1 rfl rfl;have e72:=ay qF.2.2.2.2.2.1 rfl rfl;clear qO qF;refine Ik (.tmp 66) (.tmp 67) (.tmp 68) (.tmp 69) (.tmp 71) (.tmp 72) rfl (aK e66) (aK e67) (aK e68) (aK e69) (aK e71) (aK e72) ?_;exact hK _ _ zR rfl
   ·have e73:=ay qF.1 rfl rfl;clear qO qF;refine KF (.tmp 73) rfl (aK e73) ?_;exact hK _ _ (zR.alloc zL _) ⟨_,rfl,Bk.new _ _ _⟩
   ·have e64:=ay qF.1 rfl rfl;obtain⟨u74,e74,Y4⟩:=qF.2.1;obtain⟨g74,h74,k74⟩:=(show∃g,u74=.slice (some ⟨g,0,none⟩) 1 1/\Bk wr g 141 #[.string NM,.int .i64 br,.int .i64 j,.int .i64 pn,.int .i64 fo,.int .i64 kd]from Y4)
    subst h74;have e74:qa.tmps[74]? =some (.slice (some ⟨g74,0,none⟩) 1 1):=e74;clear qO qF;refine dJ _ _ 109 rfl B 141 iI _ 6 56 Try.underlying109 hI hI0 hI1 hI2 rfl (by decide) (.slice AI L ci) L _ (aK e64) (aQ HOWN.out hB) (g74+1) (some ⟨g74,0,none⟩) 1 1 [.string NM,.int .i64 br,.int .i64 j,.int .i64 pn,.int .i64 fo,.int .i64 kd] (aK e74) (Rd.bk k74 (Nat.lt_succ_self _)) rfl (by intro u hu;simp at hu;rcases hu with rfl|rfl|rfl|rfl|rfl|rfl<;>rfl) (by unfold maxLen;omega) (by omega) (by have:=hB.size;omega) ?_;intro A9 c9 w9 bI jG hwh;exact hK _ _ (World.grownBy.trans (below_grown hB _) jG) jG.size ⟨A9,c9,rfl,bI,hwh.imp id fun h k hk=>by rw[h]at hk;injection hk with hk;have:=hB.size;omega⟩
   intro qx wr hG hR;have r15:(fun v w=>∃(A:Option Addr) (c:Nat),v=.slice A (L+1) c/\w.ownsRow B 141 6 (.slice A (L+1) c) (L+1) (xs++[.string NM,.int .i64 br,.int .i64 j,.int .i64 pn,.int .i64 fo,.int .i64 kd])/\((Value.slice A (L+1) c).ownBlock=(Value.slice AI L ci).ownBlock\/∀k,(Value.slice A (L+1) c).ownBlock=some k->wz<=k)) (qx 15) wr:=hR 15 rfl rfl;clear hR;simp only[bJ,List.take_succ_cons,List.take_zero,List.drop_succ_cons,List.drop_zero,List.toList_toArray,List.length_cons,List.length_nil,Act.put,List.setIfInBounds_toArray,List.set_cons_zero,List.set_cons_succ];generalize qx 15=z75 at r15⊢;obtain⟨A9,c9,rfl,bI,hwh⟩:=r15;have hvi:=fM.out.1.item (x:=⟨nm,br,j,pn,fo,kd⟩) (oG:=.slice A9 (L+1) c9) hbB (by omega) Y3 VL (by rw[uH.out,HXS.out];simpa[bP.cells,tJ.out]using bI) (by rw[uH.out];exact hG) (by rw[uH.out];rw[<-HWZ.out]at hwh;exact hwh);have hne:some b≠(Value.slice AI L ci).ownBlock:=fun e=>by have:=(HOWN.out.lt b e.symm).1;omega
   have hneT:some gt≠(Value.slice AI L ci).ownBlock:=aO HOWN.out fM.out.2 (by decide);have YU:=fM.out.1.st.bk.grown hG hne;have f2:=YU.frozen 2;have c2:wr.cell? ⟨b,2,none⟩=some (.slice AI m2.items.length ci):=YU.cell 2;have kt9:=(fM.out.2.grown hG hneT).far (p:=⟨b,2,none⟩) (by show gt≠b;exact VM) (.slice A9 (L+1) c9);have rZ:=zH (And.intro hvi kt9);clear bI hwh hG hvi hne hneT YU kt9 i2 t2 t0 HOWN Xe hW6 fM;go_upto_region 13 with fail
   generalize wr.setCell ⟨b,2,none⟩ (.slice A9 (L+1) c9)=w8 at rZ⊢;clear f2 c2;have t0:w8.cell? ⟨gt,0,none⟩=some (.int .i64 fo):=rZ.out.2.cell 0;obtain⟨pn2,VN⟩:∃z,(if fo≠3 then pn+1 else pn)=z:=⟨_,rfl⟩
   have hR:=HR3.out;rw[VN]at hR;have HR4:=zH hR;have HPN:=zH VN;have hpn3:pn2<=j+1:=by rw[<-VN];split<;>omega
   clear hR HR3 VN;have HG8:Hid (DT b B s (.slice A9 (L+1) c9) ⟨m2.items++[⟨nm,br,j,pn,fo,kd⟩],m2.err,m2.pos⟩ gr gb w0.heap.size br within A j c ps iv w w8/\Bk w8 gt 126 #[.int .i64 fo,.string TY,.string NM,.int .i64 po]):=rZ;clear rZ;have hj1000:pn<=1000:=by omega
   go_upto_if 80 with fail
   go_cut[10] (fun v wx=>v=.int .i64 pn2/\w8=wx)
   case first=>
    as_aux_lemma=>
    have hp:=HPN.out
    by_cases h3:fo=3
    ·have e3:((fo:Int) !=3)=false:=by rw[bne_eq_false_iff_eq];omega
     rw[if_neg (by simpa using h3)]at hp;subst hp;clear h3;go_wp2_with fail
     go_meet
     exact⟨rfl,rfl⟩
    ·have e3:((fo:Int) !=3)=true:=by rw[bne_iff_ne];omega
     rw[if_pos h3]at hp;subst hp;clear h3;go_wp2_with fail
     go_meet
     exact⟨by go_num,rfl⟩
   case rest=>
   obtain⟨rfl,hwc⟩:=hcut;subst hwc;obtain⟨iP,hP,hP0,hP1,hP2⟩:=info_parts RY;have b2:w8.cell? ⟨gb,2,none⟩=some (.slice A j c):=HG8.out.1.kb.cell 2;have jc:Below w8.heap.size w8 (w8.alloc (.cells #[.int .i64 fo,.int .i64 kd,.slice none 0 0,.slice none 0 0] 31)):=zR.alloc zL _;have hvA:=HG8.out.1.old jc;have HVA:=zH hvA;have dD:=hvA.own;have oU:w0.heap.size<=(w8.alloc (.cells #[.int .i64 fo,.int .i64 kd,.slice none 0 0,.slice none 0 0] 31)).heap.size:=hvA.sz;clear hvA HPN HG8;go_wp2_with (first|at_builtin;(refine aH (by rfl) _ _ 26 (by rfl) w0.heap.size 31 iP _ 4 64 Try.underlying26 hP hP0 hP1 hP2 rfl (by decide) (.slice A j c) j _ (by rfl) dD (w8.heap.size+1) (some ⟨w8.heap.size,0,none⟩) 1 1 [.int .i64 fo,.int .i64 kd,.slice none 0 0,.slice none 0 0] (by rfl) (Rd.lit rfl _ _) (by rfl) ?c2 ?c3 ?c4 oU ?_))
   case c2=>intro u hu;simp at hu;rcases hu with rfl|rfl|rfl|rfl<;>rfl
   case c3=>unfold maxLen;omega
   case c4=>omega
   intro A6 c6 w9 hown6 jK _;have hne9:some gb≠(Value.slice A j c).ownBlock:=aO dD HVA.out.kb (by decide);have Pe:=HVA.out.kb.grown jK hne9;have f9:=Pe.frozen 2;have c9':w9.cell? ⟨gb,2,none⟩=some (.slice A j c):=Pe.cell 2;have HVP:=zH (HVA.out.part (x:=(fo,kd)) (by omega) (by omega) VL (by omega) (by omega) (by omega) (by omega) hown6 jK)
   have FD:Hid ((m2.items++[(⟨nm,br,j,pn,fo,kd⟩:bP)]).length+(N-(j+1))<=1000):=zH (by
    rw[List.length_append,uH.out]
    show L+1+(N-(j+1))<=1000
    omega)
   have Pq:Hid ((ps++[(fo,kd)]).length=j+1):=zH (by rw[List.length_append,hps];rfl);clear hown6 jK dD oU hne9 Pe jc HVA b2;go_wp2
   go_roundw
   case rel=>exact⟨j+1,pn2,.slice A9 (L+1) c9,⟨m2.items++[⟨nm,br,j,pn,fo,kd⟩],m2.err,m2.pos⟩,A6,c6,ps++[(fo,kd)],by omega,rfl,hpn3,by go_num,Pq.out,FD.out,HR4,HVP⟩
   case measure=>simp[intOf];omega
  ·as_aux_lemma=>
   obtain rfl:j=N:=by omega
   have hR:=HR.out;rw[List.drop_eq_nil_of_le (by rw[Gs.out];exact Nat.le_refl _)]at hR;have hR:(ps,m')=(PS,MF):=hR;injection hR with h1 h2
   subst h1;subst h2;obtain⟨x0,x1,x2⟩:=zc3 HV.out.kb;have kr:=HV.out.kr;clear HR HRW Gs hlt hj;go_wp2_with (first|(refine ae MR rfl _ _ rfl rfl [.int .i64 br,.int .i64 within,.slice A j c] rfl kr rfl rfl rfl ?_;intro w9 p9))
   obtain⟨u0,u1,u2⟩:=zc3 p9.bk;refine bodyPost_ret (v:=.agg #[.int .i64 br,.int .i64 within,.slice A j c]) (by simp[results,Try.results46,go_sem,u0,u1,u2]) rfl ?_;have hgw:w.heap.size<=gr:=by omega
   have hst:jg b B s oG m' w9:=⟨HV.out.st.bk.grown p9.grown (aA (by omega)),HV.out.st.CG.jf (p9.below b _ zR (by omega)),HV.out.st.own.kept p9.grown (.inr fun e=>aO HV.out.st.own HV.out.kr (by decide) e.symm)⟩
   exact⟨A,j,c,oG,rfl,hps.symm,di (fV HV.out.own p9.grown (by omega)) (by omega),hst,HV.out.far.put p9 hgw,HV.out.iv⟩
section
set_option maxRecDepth 100000
set_option maxHeartbeats 16000000
theorem zAm {d:Nat} {S S':Nat->Prop} {aC:Int} {ks:List Int} {bs:List lh} {cs cs':List Value} {w:World} (h1:qg d S aC ks bs cs w) (h2:qg d S' aC ks bs cs' w):Calls Try.prog 17 #[.agg cs.toArray,.agg cs'.toArray] w (Yes w):=by
 obtain⟨_,_,rfl,⟨Ak,ck,rfl,hkl,hk⟩,⟨Ab,cb,rfl,hbl,hb⟩⟩:=h1;obtain⟨_,_,rfl,⟨Ux,Pg,rfl,_,hk'⟩,⟨Uy,cb',rfl,_,hb'⟩⟩:=h2
 go_enter Try.func17,Try.ntmps17
 go_upto_region 1 with fail
 obtain⟨nk,hnk⟩:∃z,ks.length=z:=⟨_,rfl⟩
 obtain⟨n,hn⟩:∃z,bs.length=z:=⟨_,rfl⟩
 rw[hnk,hn];rw[hnk]at hkl;rw[hn]at hbl;obtain⟨w0,hw0⟩:∃z,(w.alloc (.cells #[.int .i64 aC,.slice Ak nk ck,.slice Ab n cb] 34)).alloc (.cells #[.int .i64 aC,.slice Ux nk Pg,.slice Uy n cb'] 34)=z:=⟨_,rfl⟩
 obtain⟨g1,hg1⟩:∃z,w.heap.size=z:=⟨_,rfl⟩
 have k1:Bk w0 g1 34 #[.int .i64 aC,.slice Ak nk ck,.slice Ab n cb]:=hw0▸hg1▸(Bk.new _ _ _).alloc _;have k2:Bk w0 (g1+1) 34 #[.int .i64 aC,.slice Ux nk Pg,.slice Uy n cb']:=hw0▸Bk.newAt (by simp;omega) _ _;have hb0:Below w.heap.size w w0:=hw0▸bel2 w _ _;simp only[hw0,hg1];have HR:=zH (And.intro (And.intro (hk.old hb0) (hk'.old hb0)) (And.intro (hb.old hb0) (hb'.old hb0)));have HB:=zH hb0;have HN:=zH (And.intro hnk hn);have HK:=zH (And.intro k1 k2);obtain⟨x0,x1,x2⟩:=zc3 k1;obtain⟨y0,y1,y2⟩:=zc3 k2;clear hw0 hg1 k1 k2 hb0 hk hk' hb hb' hnk hn;go_wp2_with fail
 clear x0 x1 x2 y0 y1 y2
 go_loopw[36] (fun i wr=>∃(k:Nat),k<=nk/\i=.int .i64 k/\Hid (Below w0.heap.size w0 wr)) (fun i _=>nk-(intOf i).toNat)
 case atStart=>exact⟨0,Nat.zero_le _,rfl,zH zR⟩
 case round=>
  obtain⟨wq,rfl⟩:∃z:World,z=wr:=⟨_,rfl⟩
  obtain⟨k,hk,rfl,hbel⟩:=hrel;have x1:wq.cell? ⟨g1,1,none⟩=some (.slice Ak nk ck):=(HK.out.1.old hbel.out).cell 1;have y1:wq.cell? ⟨g1+1,1,none⟩=some (.slice Ux nk Pg):=(HK.out.2.old hbel.out).cell 1
  by_cases hlt:k<nk
  ·have hlb:k<ks.length:=by rw[HN.out.1];exact hlt
   obtain⟨b,o,cs,rfl,_,hb,rfl,hc⟩:=(HR.out.1.1.old hbel.out).elem hlb;obtain⟨b2,o2,cs2,rfl,_,hb2,rfl,hd⟩:=(HR.out.1.2.old hbel.out).elem hlb;generalize ks[k]=ty at *;have r0:wq.cell? ⟨b,o+k,none⟩=some (.int .i64 ty):=by simpa using hc 0 _ rfl
   have s0:wq.cell? ⟨b2,o2+k,none⟩=some (.int .i64 ty):=by simpa using hd 0 _ rfl
   clear hc hd HR hlb;go_upto_region 6 with fail
   refine wx (fun k => false) [.is (.pointer (some ⟨g1, 1, none⟩)),
     .is (.slice (some ⟨b,o,none⟩) nk ck),
     .is (.int .i64 (k:Nat)),
     .is (.pointer (some ⟨b,o+k,none⟩)),
     .is (.int .i64 ty),
     .is (.pointer (some ⟨g1+1,1,none⟩)),
     .is (.slice (some ⟨b2,o2,none⟩) nk Pg),
     .is (.int .i64 (k:Nat)),
     .is (.pointer (some ⟨b2,o2+k,none⟩)),
     .is (.int .i64 ty),
     .is (.bool false)] [3,8,10] (by kernel_rfl) (by kernel_rfl) (by kernel_rfl)
     (fun C=>.c (px C rfl (fun _ _=>rfl)) <|
     .c (px C rfl (fun _ h=>bW (Eg (bc h x1)))) <|
     .c (px C rfl (fun _ _=>rfl)) <|
     .c (pz [1,2] [] (by kernel_rfl) fun qK qa wr hB qO qF hK=>?_) <|
     .c (px C rfl (fun _ h=>bW (lJ (bc h r0)))) <|
     .c (px C rfl (fun _ _=>rfl)) <|
     .c (px C rfl (fun _ h=>bW (Eg (bc h y1)))) <|
     .c (px C rfl (fun _ _=>rfl)) <|
     .c (pz [6,7] [] (by kernel_rfl) fun qK qa wr hB qO qF hK=>?_) <|
     .c (px C rfl (fun _ h=>bW (lJ (bc h s0)))) <|
     .c (pz [4,9] [] (by kernel_rfl) fun qK qa wr hB qO qF hK=>?_) <| .nil) ?_
   ·have e40:=ay qF.1 rfl rfl;have e41:=ay qF.2.1 rfl rfl;clear qO qF;go_simp;refine hK _ _ zR ?_
    show(_:Value)=_
    first|rfl|(simp;done)|(simp;omega)
   ·have e45:=ay qF.1 rfl rfl;have e46:=ay qF.2.1 rfl rfl;clear qO qF;go_simp;refine hK _ _ zR ?_
    show(_:Value)=_
    first|rfl|(simp;done)|(simp;omega)
   ·have e43:=ay qF.1 rfl rfl;have e48:=ay qF.2.1 rfl rfl;clear qO qF;go_simp;refine hK _ _ zR ?_
    show(_:Value)=_
    first|rfl|(simp;done)|(simp;omega)
   intro qx wr hB hR hS;clear hR hS;simp only[bJ,List.take_succ_cons,List.take_zero,List.drop_succ_cons,List.drop_zero,List.toList_toArray,List.length_cons,List.length_nil,Act.put,List.setIfInBounds_toArray,List.set_cons_zero,List.set_cons_succ];refine zn ?_;go_wp2_with fail
   go_roundw
   case rel=>exact⟨k+1,hlt,by go_num,zH (hbel.out.trans (hB.mono hbel.out.size))⟩
   case measure=>simp[intOf];omega
  ·obtain rfl:k=nk:=by omega
   have x2:wq.cell? ⟨g1,2,none⟩=some (.slice Ab n cb):=(HK.out.1.old hbel.out).cell 2;go_wp2_with fail
   clear x1 y1 x2
   go_loopw[54] (fun i wr=>∃(k:Nat),k<=n/\i=.int .i64 k/\Hid (Below w0.heap.size w0 wr)) (fun i _=>n-(intOf i).toNat)
   case atStart=>exact⟨0,Nat.zero_le _,rfl,hbel⟩
   case round=>
    clear hbel;obtain⟨wp,rfl⟩:∃z:World,z=wr:=⟨_,rfl⟩
    obtain⟨k,hk,rfl,hbel⟩:=hrel;have x2:wp.cell? ⟨g1,2,none⟩=some (.slice Ab n cb):=(HK.out.1.old hbel.out).cell 2;have y2:wp.cell? ⟨g1+1,2,none⟩=some (.slice Uy n cb'):=(HK.out.2.old hbel.out).cell 2
    by_cases hlt:k<n
    ·have hlb:k<bs.length:=by rw[HN.out.2];exact hlt
     obtain⟨b,o,cs,rfl,_,hb,hP,hc⟩:=(HR.out.2.1.old hbel.out).elem hlb;obtain⟨b2,o2,cs2,rfl,_,hb2,hP2,hd⟩:=(HR.out.2.2.old hbel.out).elem hlb;generalize bs[k]=st at *;have hA:=fun w' (hw:Below wp.heap.size wp w')=>alike (CK.keep (.old hw) hP) (CK.keep (.old hw) hP2)
     obtain⟨v4,v5,v6,v7,rfl,h4,h5,h6,h7⟩:=hP;obtain⟨u4,u5,u6,u7,rfl,k4,k5,k6,k7⟩:=hP2;obtain⟨A4,c4,rfl⟩:=h4.form;obtain⟨A5,c5,rfl⟩:=h5.form;obtain⟨A6,c6,rfl⟩:=h6.form;obtain⟨A7,c7,rfl,hel,h7⟩:=h7;obtain⟨B4,d4,rfl⟩:=k4.form;obtain⟨B5,d5,rfl⟩:=k5.form;obtain⟨B6,d6,rfl⟩:=k6.form;obtain⟨B7,d7,rfl,_,k7⟩:=k7;clear h4 h5 h6 k4 k5 k6;obtain⟨p,t,m,win,bars,lv,gs,ends⟩:=st;simp only[]at *;have HE:=zH (And.intro h7 k7);obtain⟨ne,hne⟩:∃z,ends.length=z:=⟨_,rfl⟩
     rw[hne]at hc hd hA hel;have HNE:=zH hne;generalize bars.length=l4 at *;generalize lv.length=l5 at *;generalize gs.length=l6 at *;have HA:=zH hA;have p0:wp.cell? ⟨b,o+k*8,none⟩=some (.int .i64 p):=hc 0 _ rfl;have p1:wp.cell? ⟨b,o+k*8+1,none⟩=some (.int .i64 t):=hc 1 _ rfl;have p2:wp.cell? ⟨b,o+k*8+2,none⟩=some (.bool m):=hc 2 _ rfl;have p3:wp.cell? ⟨b,o+k*8+3,none⟩=some (.int .i64 win):=hc 3 _ rfl;have p4:wp.cell? ⟨b,o+k*8+4,none⟩=some (.slice A4 l4 c4):=hc 4 _ rfl;have p5:wp.cell? ⟨b,o+k*8+5,none⟩=some (.slice A5 l5 c5):=hc 5 _ rfl;have p6:wp.cell? ⟨b,o+k*8+6,none⟩=some (.slice A6 l6 c6):=hc 6 _ rfl;have p7:wp.cell? ⟨b,o+k*8+7,none⟩=some (.slice A7 ne c7):=hc 7 _ rfl;have q0:wp.cell? ⟨b2,o2+k*8,none⟩=some (.int .i64 p):=hd 0 _ rfl;have q1:wp.cell? ⟨b2,o2+k*8+1,none⟩=some (.int .i64 t):=hd 1 _ rfl;have q2:wp.cell? ⟨b2,o2+k*8+2,none⟩=some (.bool m):=hd 2 _ rfl;have q3:wp.cell? ⟨b2,o2+k*8+3,none⟩=some (.int .i64 win):=hd 3 _ rfl;have q4:wp.cell? ⟨b2,o2+k*8+4,none⟩=some (.slice B4 l4 d4):=hd 4 _ rfl;have q5:wp.cell? ⟨b2,o2+k*8+5,none⟩=some (.slice B5 l5 d5):=hd 5 _ rfl;have q6:wp.cell? ⟨b2,o2+k*8+6,none⟩=some (.slice B6 l6 d6):=hd 6 _ rfl;have q7:wp.cell? ⟨b2,o2+k*8+7,none⟩=some (.slice B7 ne d7):=hd 7 _ rfl;clear hc hd h7 k7 hA hne hlb;go_upto_region 12 with fail
     go_cut[7,8] (fun v7 v8 wx=>∃g7 g8,v7=.pointer (some ⟨g7,0,none⟩)/\v8=.pointer (some ⟨g8,0,none⟩)/\Hid (Below wp.heap.size wp wx/\Bk wx g7 44 #[.int .i64 p,.int .i64 t,.bool m,.int .i64 win,.slice A4 l4 c4,.slice A5 l5 c5,.slice A6 l6 c6,.slice A7 ne c7]/\Bk wx g8 44 #[.int .i64 p,.int .i64 t,.bool m,.int .i64 win,.slice B4 l4 d4,.slice B5 l5 d5,.slice B6 l6 d6,.slice B7 ne d7]))
     case first=>
      go_region_held3(fun w'=>w'.cell? ⟨g1,2,none⟩=some (.slice (some ⟨b,o,none⟩) n cb)/\w'.cell? ⟨g1+1,2,none⟩=some (.slice (some ⟨b2,o2,none⟩) n cb')/\w'.cell? ⟨b,o+k*8,none⟩=some (.int .i64 p)/\w'.cell? ⟨b,o+k*8+1,none⟩=some (.int .i64 t)/\w'.cell? ⟨b,o+k*8+2,none⟩=some (.bool m)/\w'.cell? ⟨b,o+k*8+3,none⟩=some (.int .i64 win)/\w'.cell? ⟨b,o+k*8+4,none⟩=some (.slice A4 l4 c4)/\w'.cell? ⟨b,o+k*8+5,none⟩=some (.slice A5 l5 c5)/\w'.cell? ⟨b,o+k*8+6,none⟩=some (.slice A6 l6 c6)/\w'.cell? ⟨b,o+k*8+7,none⟩=some (.slice A7 ne c7)/\w'.cell? ⟨b2,o2+k*8,none⟩=some (.int .i64 p)/\w'.cell? ⟨b2,o2+k*8+1,none⟩=some (.int .i64 t)/\w'.cell? ⟨b2,o2+k*8+2,none⟩=some (.bool m)/\w'.cell? ⟨b2,o2+k*8+3,none⟩=some (.int .i64 win)/\w'.cell? ⟨b2,o2+k*8+4,none⟩=some (.slice B4 l4 d4)/\w'.cell? ⟨b2,o2+k*8+5,none⟩=some (.slice B5 l5 d5)/\w'.cell? ⟨b2,o2+k*8+6,none⟩=some (.slice B6 l6 d6)/\w'.cell? ⟨b2,o2+k*8+7,none⟩=some (.slice B7 ne d7)) (go_keep) (fail)
      all_goals
       go_wp2_with fail
       go_meet
       exact⟨_,_,rfl,rfl,zH ⟨((ba _ _).trans ((ba _ _).mono (by simp))).drew,by first|exact(Bk.new _ _ _).alloc _|exact Bk.newAt (by simp) _ _,by first|exact(Bk.new _ _ _).alloc _|exact Bk.newAt (by simp) _ _⟩⟩
     case rest=>
     obtain⟨g7,g8,rfl,rfl,HC⟩:=hcut;clear x2 y2 p0 q0 p1 q1 p2 q2 p3 q3 p4 q4 p5 q5 p6 q6 p7 q7;go_wp2_with (first|(refine aX qC rfl (.tmp 7) rfl rfl [.int .i64 p,.int .i64 t,.bool m,.int .i64 win,.slice A4 l4 c4,.slice A5 l5 c5,.slice A6 l6 c6,.slice A7 ne c7] rfl (fun i v hv=>by rw[Nat.zero_add,HC.out.2.1.cell i];simpa using hv) ?_)|(refine aX qC rfl (.tmp 8) rfl rfl [.int .i64 p,.int .i64 t,.bool m,.int .i64 win,.slice B4 l4 d4,.slice B5 l5 d5,.slice B6 l6 d6,.slice B7 ne d7] rfl (fun i v hv=>by rw[Nat.zero_add,HC.out.2.2.cell i];simpa using hv) ?_))
     refine(HA.out _ HC.out.1).mono ?_;rintro e w2 ⟨rfl,hb2⟩;have HQ:=zH (And.intro (HC.out.1.trans (hb2.mono HC.out.1.size)) (And.intro (HC.out.2.1.old hb2) (HC.out.2.2.old hb2)));have x7:=HQ.out.2.1.cell 7;have y7:=HQ.out.2.2.cell 7;clear HA HC hb2;go_wp2_with fail
     clear x7 y7
     go_loopw[83] (fun i wr=>∃(j:Nat),j<=ne/\i=.int .i64 j/\Hid (Below w2.heap.size w2 wr)) (fun i _=>ne-(intOf i).toNat)
     case atStart=>exact⟨0,Nat.zero_le _,rfl,zH zR⟩
     case round=>
      obtain⟨wl,rfl⟩:∃z:World,z=wr:=⟨_,rfl⟩
      obtain⟨j,hj,rfl,hbj⟩:=hrel
      by_cases hjl:j<ne
      ·have hje:j<ends.length:=by rw[HNE.out];exact hjl
       have hbw:=HQ.out.1.trans (hbj.out.mono HQ.out.1.size);obtain⟨e,f,cs,rfl,_,_,⟨v1,v2,rfl,i1,i2⟩,hc⟩:=(HE.out.1.old hbw).elem hje;obtain⟨e2,f2,cs2,rfl,_,_,⟨u1,u2,rfl,i3,i4⟩,hd⟩:=(HE.out.2.old hbw).elem hje;have HSN:=zH fun w' (hw:Below wl.heap.size wl w')=>uV d (i1.keep (.old hw)) (i3.keep (.old hw))
       have HSB:=zH fun w' (hw:Below wl.heap.size wl w')=>I7 (i2.keep (.old hw)) (i4.keep (.old hw))
       generalize ends[j].branch=br at *;have x7:wl.cell? ⟨g7,7,none⟩=some (.slice (some ⟨e,f,none⟩) ne c7):=(HQ.out.2.1.old hbj.out).cell 7;have y7:wl.cell? ⟨g8,7,none⟩=some (.slice (some ⟨e2,f2,none⟩) ne d7):=(HQ.out.2.2.old hbj.out).cell 7;have p0:wl.cell? ⟨e,f+j*3,none⟩=some (.int .i64 br):=hc 0 _ rfl;have p1:wl.cell? ⟨e,f+j*3+1,none⟩=some v1:=hc 1 _ rfl;have p2:wl.cell? ⟨e,f+j*3+2,none⟩=some v2:=hc 2 _ rfl;have q0:wl.cell? ⟨e2,f2+j*3,none⟩=some (.int .i64 br):=hd 0 _ rfl;have q1:wl.cell? ⟨e2,f2+j*3+1,none⟩=some u1:=hd 1 _ rfl;have q2:wl.cell? ⟨e2,f2+j*3+2,none⟩=some u2:=hd 2 _ rfl;clear hc hd i1 i2 i3 i4 HE HQ hje hbw;go_upto_region 18 with fail
       refine wx (fun k => false) (.is (.pointer (some ⟨g7, 7, none⟩)) ::
         .is (.slice (some ⟨e,f,none⟩) ne c7)::
         .is (.int .i64 (j:Nat))::
         .is (.pointer (some ⟨e,f+j*3,none⟩))::
         .is (.pointer (some ⟨e,f+j*3,none⟩))::
         .is (.int .i64 br)::
         .is (.pointer (some ⟨g8,7,none⟩))::
         .is (.slice (some ⟨e2,f2,none⟩) ne d7)::
         .is (.int .i64 (j:Nat))::
         .is (.pointer (some ⟨e2,f2+j*3,none⟩))::
         .is (.pointer (some ⟨e2,f2+j*3,none⟩))::
         .is (.int .i64 br)::
         .is (.bool false)::
         .is (.bool false)::
         .is (.pointer (some ⟨g7,7,none⟩))::
         .is (.slice (some ⟨e,f,none⟩) ne c7)::
         .is (.int .i64 (j:Nat))::
         [.is (.pointer (some ⟨e,f+j*3,none⟩)),
         .is (.pointer (some ⟨e,f+j*3+1,none⟩)),
         .is (v1),
         .is (.pointer (some ⟨g8,7,none⟩)),
         .is (.slice (some ⟨e2,f2,none⟩) ne d7),
         .is (.int .i64 (j:Nat)),
         .is (.pointer (some ⟨e2,f2+j*3,none⟩)),
         .is (.pointer (some ⟨e2,f2+j*3+1,none⟩)),
         .is (u1),
         .is (.bool true),
         .is (.bool false),
         .is (.bool false),
         .is (.bool false),
         .is (.pointer (some ⟨g7,7,none⟩)),
         .is (.slice (some ⟨e,f,none⟩) ne c7),
         .is (.int .i64 (j:Nat)),
         .is (.pointer (some ⟨e,f+j*3,none⟩)),
         .is (.pointer (some ⟨e,f+j*3+2,none⟩)),
         .is (v2),
         .is (.pointer (some ⟨g8,7,none⟩)),
         .is (.slice (some ⟨e2,f2,none⟩) ne d7),
         .is (.int .i64 (j:Nat)),
         .is (.pointer (some ⟨e2,f2+j*3,none⟩)),
         .is (.pointer (some ⟨e2,f2+j*3+2,none⟩)),
         .is (u2),
         .is (.bool true),
         .is (.bool false),
         .is (.bool false)]) [3,9,12,17,23,26,33,39,42] (by kernel_rfl) (by kernel_rfl) (by kernel_rfl)
         (fun C=>.c (px C rfl (fun _ _=>rfl)) <|
         .c (px C rfl (fun _ h=>bW (Jv (bc h x7)))) <|
         .c (px C rfl (fun _ _=>rfl)) <|
         .c (pz [1,2] [] (by kernel_rfl) fun qK qa wr hB qO qF hK=>?_) <|
         .c (px C rfl (fun _ _=>rfl)) <|
         .c (px C rfl (fun _ h=>bW (lJ (bc h p0)))) <|
         .c (px C rfl (fun _ _=>rfl)) <|
         .c (px C rfl (fun _ h=>bW (Jv (bc h y7)))) <|
         .c (px C rfl (fun _ _=>rfl)) <|
         .c (pz [7,8] [] (by kernel_rfl) fun qK qa wr hB qO qF hK=>?_) <|
         .c (px C rfl (fun _ _=>rfl)) <|
         .c (px C rfl (fun _ h=>bW (lJ (bc h q0)))) <|
         .c (pz [5,11] [] (by kernel_rfl) fun qK qa wr hB qO qF hK=>?_) <|
         .c (px C rfl (fun _ _=>rfl)) <|
         .c (px C rfl (fun _ _=>rfl)) <|
         .c (px C rfl (fun _ h=>bW (Jv (bc h x7)))) <|
         .c (px C rfl (fun _ _=>rfl)) <|
         .c (pz [15,16] [] (by kernel_rfl) fun qK qa wr hB qO qF hK=>?_) <|
         .c (px C rfl (fun _ _=>rfl)) <|
         .c (px C rfl (fun _ h=>bW (mM (bc h p1)))) <|
         .c (px C rfl (fun _ _=>rfl)) <|
         .c (px C rfl (fun _ h=>bW (Jv (bc h y7)))) <|
         .c (px C rfl (fun _ _=>rfl)) <|
         .c (pz [21,22] [] (by kernel_rfl) fun qK qa wr hB qO qF hK=>?_) <|
         .c (px C rfl (fun _ _=>rfl)) <|
         .c (px C rfl (fun _ h=>bW (mM (bc h q1)))) <|
         .c (pz [19,25] [] (by kernel_rfl) fun qK qa wr hB qO qF hK=>?_) <|
         .c (px C rfl (fun _ _=>rfl)) <|
         .c (px C rfl (fun _ _=>rfl)) <|
         .c (px C rfl (fun _ _=>rfl)) <|
         .c (px C rfl (fun _ _=>rfl)) <|
         .c (px C rfl (fun _ h=>bW (Jv (bc h x7)))) <|
         .c (px C rfl (fun _ _=>rfl)) <|
         .c (pz [31,32] [] (by kernel_rfl) fun qK qa wr hB qO qF hK=>?_) <|
         .c (px C rfl (fun _ _=>rfl)) <|
         .c (px C rfl (fun _ h=>bW (Ju (bc h p2)))) <|
         .c (px C rfl (fun _ _=>rfl)) <|
         .c (px C rfl (fun _ h=>bW (Jv (bc h y7)))) <|
         .c (px C rfl (fun _ _=>rfl)) <|
         .c (pz [37,38] [] (by kernel_rfl) fun qK qa wr hB qO qF hK=>?_) <|
         .c (px C rfl (fun _ _=>rfl)) <|
         .c (px C rfl (fun _ h=>bW (Ju (bc h q2)))) <|
         .c (pz [35,41] [] (by kernel_rfl) fun qK qa wr hB qO qF hK=>?_) <|
         .c (px C rfl (fun _ _=>rfl)) <|
         .c (px C rfl (fun _ _=>rfl)) <| .nil) ?_
       ·have e87:=ay qF.1 rfl rfl;have e88:=ay qF.2.1 rfl rfl;clear qO qF;go_simp;refine hK _ _ zR ?_
        show(_:Value)=_
        first|rfl|(simp;done)|(simp;omega)
       ·have e93:=ay qF.1 rfl rfl;have e94:=ay qF.2.1 rfl rfl;clear qO qF;go_simp;refine hK _ _ zR ?_
        show(_:Value)=_
        first|rfl|(simp;done)|(simp;omega)
       ·have e91:=ay qF.1 rfl rfl;have e97:=ay qF.2.1 rfl rfl;clear qO qF;go_simp;refine hK _ _ zR ?_
        show(_:Value)=_
        first|rfl|(simp;done)|(simp;omega)
       ·have e101:=ay qF.1 rfl rfl;have e102:=ay qF.2.1 rfl rfl;clear qO qF;go_simp;refine hK _ _ zR ?_
        show(_:Value)=_
        first|rfl|(simp;done)|(simp;omega)
       ·have e107:=ay qF.1 rfl rfl;have e108:=ay qF.2.1 rfl rfl;clear qO qF;go_simp;refine hK _ _ zR ?_
        show(_:Value)=_
        first|rfl|(simp;done)|(simp;omega)
       ·have e105:=ay qF.1 rfl rfl;have e111:=ay qF.2.1 rfl rfl;clear qO qF;go_simp
        go_at_call 24
        refine(HSN.out wr hB).mono ?_;rintro r w9 ⟨rfl,dO⟩;exact hK _ _ dO rfl
       ·have e117:=ay qF.1 rfl rfl;have e118:=ay qF.2.1 rfl rfl;clear qO qF;go_simp;refine hK _ _ zR ?_
        show(_:Value)=_
        first|rfl|(simp;done)|(simp;omega)
       ·have e123:=ay qF.1 rfl rfl;have e124:=ay qF.2.1 rfl rfl;clear qO qF;go_simp;refine hK _ _ zR ?_
        show(_:Value)=_
        first|rfl|(simp;done)|(simp;omega)
       ·have e121:=ay qF.1 rfl rfl;have e127:=ay qF.2.1 rfl rfl;clear qO qF;go_simp
        go_at_call 32
        refine(HSB.out wr hB).mono ?_;rintro r w9 ⟨rfl,dO⟩;exact hK _ _ dO rfl
       intro qx wr hB hR hS;clear hR hS;simp only[bJ,List.take_succ_cons,List.take_zero,List.drop_succ_cons,List.drop_zero,List.toList_toArray,List.length_cons,List.length_nil,Act.put,List.setIfInBounds_toArray,List.set_cons_zero,List.set_cons_succ];refine zn ?_;go_wp2_with fail
       go_roundw
       case rel=>exact⟨j+1,hjl,by go_num,zH (hbj.out.trans (hB.mono hbj.out.size))⟩
       case measure=>simp[intOf];omega
      ·obtain rfl:j=ne:=by omega
       go_wp2_with fail
       go_roundw
       case rel=>exact⟨k+1,hlt,by go_num,zH (hbel.out.trans (((HQ.out.1.trans (hbj.out.mono HQ.out.1.size))).mono hbel.out.size))⟩
       case measure=>simp[intOf];omega
    ·obtain rfl:k=n:=by omega
     go_wp2_with fail
     go_ret
     exact⟨rfl,HB.out.trans (hbel.out.mono HB.out.size)⟩
end
end Go.Proofs.Ytbjnhllkdilpfaa
