/- Part 30 of the proof. No conditions. -/
import Derived.Test.YtbjnhllkdilpfaaZb29
namespace Go.Proofs.Ytbjnhllkdilpfaa
open Go.RowKit
set_option linter.unusedSimpArgs false
set_option linter.unusedVariables false
set_option maxHeartbeats 16000000
set_option maxRecDepth 100000
def Ci (s:ah) (br:Nat):List bu->Nat->Nat->List (Nat×Int)->MS->List (Nat×Int)×MS
 |[],_,_,ps,m=>(ps,m)
 |x::l,i,pos,ps,m=>
  let m1:=if(decide (typeAt s x.type<0)||(dW x.name m.items).2)=true then dI 10 x.pos m else m
  let m2:=if i=0/\x.form=3 then dI 15 x.pos m1 else m1
  Ci s br l (i+1) (if x.form≠3 then pos+1 else pos) (ps++[(x.form,typeAt s x.type)]) ⟨m2.items++[⟨x.name,br,i,pos,x.form,typeAt s x.type⟩],m2.err,m2.pos⟩
def Wj (p:Nat×Int):List Value:=[.int .i64 p.1,.int .i64 p.2,.slice none 0 0,.slice none 0 0]
structure tN (b:Nat) (o:Option Nat) (w w':World):Prop where
 os:w'.os=w.os
 tape:w'.tape=w.tape
 output:w'.output=w.output
 size:w.heap.size<=w'.heap.size
 block:∀k,k<w.heap.size->k≠b->some k≠o->w'.heap[k]? =w.heap[k]?
section
variable {b:Nat} {o:Option Nat} {w w' w2:World}
theorem tN.below (hb:Below w.heap.size w w'):tN b o w w':=⟨hb.os,hb.tape,hb.output,hb.size,fun k hk _ _=>hb.block k hk⟩
theorem tN.more (h:tN b o w w') (hb:Below w'.heap.size w' w2):tN b o w w2:=⟨hb.os.trans h.os,hb.tape.trans h.tape,hb.output.trans h.output,Nat.le_trans h.size hb.size,fun k hk h1 h2=>(hb.block k (Nat.lt_of_lt_of_le hk h.size)).trans (h.block k hk h1 h2)⟩
theorem tN.set (h:tN b o w w') {g:Nat} (hg:g=b\/w.heap.size<=g) (i:Nat) (u:Value):tN b o w (w'.setCell ⟨g,i,none⟩ u):=
 ⟨h.os,h.tape,h.output,by simpa using h.size,fun k hk h1 h2=>(Below.heap_setCell w' _ _ k (by show k≠g;omega)).trans (h.block k hk h1 h2)⟩
theorem tN.row (h:tN b o w w') {r:Option Nat} (hr:r=o\/∀k,r=some k->w.heap.size<=k) (hg:w'.grownBy w2 r):tN b o w w2:=
 ⟨hg.os.trans h.os,hg.tape.trans h.tape,hg.output.trans h.output,Nat.le_trans h.size hg.size,fun k hk h1 h2=>(hg.block k (Nat.lt_of_lt_of_le hk h.size) (by
  rcases hr with rfl|hr
  ·exact h2
  ·intro e;have:=hr k e.symm
   omega)).trans (h.block k hk h1 h2)⟩
theorem tN.st (h:tN b o w w') (hg:w'.grownBy w2 (some b)):tN b o w w2:=
 ⟨hg.os.trans h.os,hg.tape.trans h.tape,hg.output.trans h.output,Nat.le_trans h.size hg.size,fun k hk h1 h2=>(hg.block k (Nat.lt_of_lt_of_le hk h.size) (aC h1)).trans (h.block k hk h1 h2)⟩
theorem tN.put (h:tN b o w w') {g t:Nat} {cs:Array Value} (hp:lY w' g t cs w2) (hg:w.heap.size<=g):tN b o w w2:=
 ⟨hp.grown.os.trans h.os,hp.grown.tape.trans h.tape,hp.grown.output.trans h.output,Nat.le_trans h.size hp.grown.size,fun k hk h1 h2=>(hp.other k (by omega)).trans (h.block k hk h1 h2)⟩
end
theorem FT:(Try.prog.info? 31).map (fun i=>(i.zero,i.size,i.bytes))=some (some (.agg #[.int .i64 0,.int .i64 0,.slice none 0 0,.slice none 0 0]),4,64):=by kernel_rfl
theorem ja.app {b B:Nat} {s:ah} {iv nR:Value} {m:MS} {W W':World} {x:cO} (h:ja b B s iv m W) (hbB:b<B) (hown:W'.ownsRow B 141 6 nR (m.items.length+1) (m.items.flatMap cO.cells++x.cells)) (hg:W.grownBy W' iv.ownBlock):ja b B s nR ⟨m.items++[x],m.err,m.pos⟩ (W'.setCell ⟨b,2,none⟩ nR):=by
 have hne:some b≠iv.ownBlock:=fun e=>by have:=(h.own.lt b e.symm).1;omega
 have hne':some b≠nR.ownBlock:=fun e=>by have:=(hown.lt b e.symm).1;omega
 refine⟨(h.bk.grown hg hne).put 2 _,h.Bf.iZ ((iY zR h.own (Nat.le_of_lt hbB) hg (Nat.le_of_lt h.bk.lt)).setCell zL _),?_⟩;have:=ownsRow_setCell_other hown (fun e=>hne' e.symm) nR (a:=⟨b,2,none⟩)
 simpa using this
structure Cj (b B:Nat) (s:ah) (iv:Value) (m:MS) (gr gb B1:Nat) (br within:Int) (A:Option Addr) (n c:Nat) (ps:List (Nat×Int)) (JA:Value) (w W:World):Prop where
 st:ja b B s iv m W
 kr:Bk W gr 28 #[.int .i64 0,.int .i64 0,.slice none 0 0]
 kb:Bk W gb 28 #[.int .i64 br,.int .i64 within,.slice A n c]
 own:W.ownsRow B1 31 4 (.slice A n c) n (ps.flatMap Wj)
 far:tN b JA.ownBlock w W
 iv:iv.ownBlock=JA.ownBlock\/∀k,iv.ownBlock=some k->w.heap.size<=k
 sz:B1<=W.heap.size
theorem Cj.old {b B:Nat} {s:ah} {iv:Value} {m:MS} {gr gb B1:Nat} {br within:Int} {A:Option Addr} {n c:Nat} {ps:List (Nat×Int)} {JA:Value} {w W W':World} (h:Cj b B s iv m gr gb B1 br within A n c ps JA w W) (hb:Below W.heap.size W W'):Cj b B s iv m gr gb B1 br within A n c ps JA w W':=
 ⟨h.st.old hb,h.kr.old hb,h.kb.old hb,aP h.own hb,h.far.more hb,h.iv,Nat.le_trans h.sz hb.size⟩
theorem Cj.stp {b B:Nat} {s:ah} {iv:Value} {m m':MS} {gr gb B1:Nat} {br within:Int} {A:Option Addr} {n c:Nat} {ps:List (Nat×Int)} {JA:Value} {w W W':World} (h:Cj b B s iv m gr gb B1 br within A n c ps JA w W) (hs:gJ b B s iv m' W W') (hb:b<w.heap.size) (hr:gr≠b) (hgb:gb≠b) (hB1:w.heap.size<=B1):Cj b B s iv m' gr gb B1 br within A n c ps JA w W':=
 ⟨hs.st,h.kr.grown hs.grown (aC hr),h.kb.grown hs.grown (aC hgb),fP h.own hs.grown (by omega),h.far.st hs.grown,h.iv,Nat.le_trans h.sz hs.grown.size⟩
theorem Cj.item {b B : Nat} {s : ah} {iv nR : Value} {m : MS} {gr gb B1 : Nat} {br within : Int} {A : Option Addr} {n c : Nat} {ps : List (Nat × Int)} {JA : Value} {w W W' : World} {x : cO} (h : Cj b B s iv m gr gb B1 br within A n c ps JA w W) (hbB : b < B) (hb : b < B1) (hr : gr ≠ b) (hgb : gb ≠ b)
  (hown:W'.ownsRow B 141 6 nR (m.items.length+1) (m.items.flatMap cO.cells++x.cells)) (hg:W.grownBy W' iv.ownBlock) (hwh:nR.ownBlock=iv.ownBlock\/∀k,nR.ownBlock=some k->w.heap.size<=k):
  Cj b B s nR ⟨m.items++[x],m.err,m.pos⟩ gr gb B1 br within A n c ps JA w (W'.setCell ⟨b,2,none⟩ nR):=by
 have hown2:=dB h.own h.st.own (by decide) hg;refine⟨h.st.app hbB hown hg,(h.kr.grown hg (aF h.st.own h.kr (by decide))).far (by exact hr) _,(h.kb.grown hg (aF h.st.own h.kb (by decide))).far (by exact hgb) _,ownsRow_setCell_other hown2 (fun e=>by have:=(hown2.lt b e).1;omega) _,(h.far.row h.iv hg).set (.inl rfl) _ _,?_,?_⟩
 ·rcases hwh with e|e
  ·rw[e];exact h.iv
  ·exact .inr e
 ·have:=h.sz;have:=hg.size;simp;omega
theorem Cj.part {b B : Nat} {s : ah} {iv : Value} {m : MS} {gr gb B1 : Nat} {br within : Int} {A A' : Option Addr} {n c c' : Nat} {ps : List (Nat × Int)} {JA : Value} {w W W' : World} {x : Nat × Int} (h : Cj b B s iv m gr gb B1 br within A n c ps JA w W) (hb : b < B1) (hr : gr ≠ gb) (hgb : gb ≠ b) (hgB : gb < B1) (hwB : w.heap.size ≤ B1) (hwg : w.heap.size ≤ gb) (hbw : b < w.heap.size)
  (hown:W'.ownsRow B1 31 4 (.slice A' (n+1) c') (n+1) (ps.flatMap Wj++Wj x)) (hg:W.grownBy W' (Value.slice A n c).ownBlock):
  Cj b B s iv m gr gb B1 br within A' (n+1) c' (ps++[x]) JA w (W'.setCell ⟨gb,2,none⟩ (.slice A' (n+1) c')):=by
 have lo:∀q,q<B1->some q≠(Value.slice A n c).ownBlock:=fun q hq e=>by have:=(h.own.lt q e.symm).1;omega
 have hst:ja b B s iv m W':=⟨h.st.bk.grown hg (lo b hb),h.st.Bf.iZ (iY zR h.own (Nat.le_of_lt hb) hg (Nat.le_of_lt h.st.bk.lt)),dB h.st.own h.own (by decide) hg⟩
 refine⟨⟨hst.bk.far (by exact hgb.symm) _,?_,mg hst.own ((h.kb.grown hg (lo gb hgB))) (by decide) _ _⟩,(h.kr.grown hg (aF h.own h.kr (by decide))).far (by exact hr) _,(h.kb.grown hg (lo gb hgB)).put 2 _,?_,?_,h.iv,?_⟩
 ·have hbg:b<=gb:=by omega
  exact hst.Bf.iZ (zR.setCell hbg _)
 ·rw[List.flatMap_append];have:=mg hown (h.kb.grown hg (lo gb hgB)) (by decide) 2 (.slice A' (n+1) c')
  simpa using this
 ·exact(h.far.row (.inr fun k hk=>by have:=(h.own.lt k hk).1;omega) hg).set (.inr hwg) _ _
 ·have:=h.sz;have:=hg.size;simp;omega
theorem JB (w:World):(sizeOf 28).run Try.prog w=.ok 3 w:=by
 obtain⟨i,hi,h0,h1,h2⟩:=info_parts (show(Try.prog.info? 28).map (fun i=>(i.zero,i.size,i.bytes))=some (some (.agg #[.int .i64 0,.int .i64 0,.slice none 0 0]),3,40) by kernel_rfl);simp[sizeOf,typeInfo,hi,h1]
theorem FU (c0 c1 c2 c3 c4 c5:Value) (w:World):(Instr.buildSlice 109 1 #[(0,.agg #[c0,c1,c2,c3,c4,c5])]).run Try.prog w=.ok (.slice (some ⟨w.heap.size,0,none⟩) 1 1) (w.alloc (.cells #[c0,c1,c2,c3,c4,c5] 141)):=by kernel_rfl
theorem Iz {w : World} {o : Oper} {a : Act} {K : Act → World → Prop} {Q : Exit → Act → World → Prop} {c0 c1 c2 c3 c4 c5 : Value} (x : Operand) (ho : o.op = .buildSlice 109 1 #[(0, x)]) (hx : a.eval x = .agg #[c0, c1, c2, c3, c4, c5])
  (h:K (a.put o.dst (.slice (some ⟨w.heap.size,0,none⟩) 1 1)) (w.alloc (.cells #[c0,c1,c2,c3,c4,c5] 141))):o.wp Try.prog a w K Q:=by
 unfold Oper.wp execOp;simp only[ho,List.map_toArray,List.map_cons,List.map_nil,hx,Sem.run_bind,FU,Result.andThen_ok,Sem.run_pure];exact h
theorem DI (NM:ByteArray) (x1 x2 x3 x4 x5:Int) (w:World):(Instr.build 141 #[(0,.string NM),(1,.int .i64 x1),(2,.int .i64 x2),(3,.int .i64 x3),(4,.int .i64 x4),(5,.int .i64 x5)]).run Try.prog w=.ok (.agg #[.string NM,.int .i64 x1,.int .i64 x2,.int .i64 x3,.int .i64 x4,.int .i64 x5]) w:=by kernel_rfl
theorem FV {w : World} {o : Oper} {a : Act} {K : Act → World → Prop} {Q : Exit → Act → World → Prop} {NM : ByteArray} {x1 x2 x3 x4 x5 : Int} (p0 p1 p2 p3 p4 p5 : Operand) (ho : o.op = .build 141 #[(0, p0), (1, p1), (2, p2), (3, p3), (4, p4), (5, p5)])
  (h0:a.eval p0=.string NM) (h1:a.eval p1=.int .i64 x1) (h2:a.eval p2=.int .i64 x2) (h3:a.eval p3=.int .i64 x3) (h4:a.eval p4=.int .i64 x4) (h5:a.eval p5=.int .i64 x5)
  (h:K (a.put o.dst (.agg #[.string NM,.int .i64 x1,.int .i64 x2,.int .i64 x3,.int .i64 x4,.int .i64 x5])) w):o.wp Try.prog a w K Q:=by
 unfold Oper.wp execOp;simp only[ho,List.map_toArray,List.map_cons,List.map_nil,h0,h1,h2,h3,h4,h5,Sem.run_bind,DI,Result.andThen_ok,Sem.run_pure];exact h
def ZR (b gt:Nat) (br j pn fo kd:Int) (NM:ByteArray) (AI:Option Addr) (L ci B wz:Nat) (xs:List Value):List Spec:=[.is (.pointer (some ⟨b,0,none⟩)),
 .is (.pointer (some ⟨b,0,none⟩)),
 .is (.pointer (some ⟨b,0,none⟩)),
 .is (.pointer (some ⟨b,2,none⟩)),
 .is (.slice AI L ci),
 .is (.pointer (some ⟨gt,2,none⟩)),
 .is (.string NM),
 .is (.int .i64 br),
 .is (.int .i64 j),
 .is (.int .i64 pn),
 .is (.pointer (some ⟨gt,0,none⟩)),
 .is (.int .i64 fo),
 .is (.int .i64 kd),
 .is (.agg #[.string NM,.int .i64 br,.int .i64 j,.int .i64 pn,.int .i64 fo,.int .i64 kd]),
 .st (fun v w=>∃g,v=.slice (some ⟨g,0,none⟩) 1 1/\Bk w g 141 #[.string NM,.int .i64 br,.int .i64 j,.int .i64 pn,.int .i64 fo,.int .i64 kd]) (fun _ _ _ hb ⟨g,h1,h2⟩=>⟨g,h1,h2.old hb⟩),
 .st (fun v w=>∃(A:Option Addr) (c:Nat),v=.slice A (L+1) c/\w.ownsRow B 141 6 (.slice A (L+1) c) (L+1) (xs++[.string NM,.int .i64 br,.int .i64 j,.int .i64 pn,.int .i64 fo,.int .i64 kd])/\((Value.slice A (L+1) c).ownBlock=(Value.slice AI L ci).ownBlock\/∀k,(Value.slice A (L+1) c).ownBlock=some k->wz<=k)) (fun _ _ _ hb ⟨A,c,h1,h2,h3⟩=>⟨A,c,h1,aP h2 hb,h3⟩)]
def brR6 (b gt:Nat) (s:ah) (TY:ByteArray):List Spec:=[.is (.pointer (some ⟨b,0,none⟩)),
 .is (.pointer (some ⟨b,0,none⟩)),
 .is (.pointer (some ⟨b,0,none⟩)),
 .is (.agg #[.slice s.ta s.types.length s.tc,.slice s.sa s.syms.length s.sc]),
 .is (.pointer (some ⟨gt,1,none⟩)),
 .is (.string TY)]
theorem FW (b B : Nat) (s : ah) (iv : Value) (m : MS) (br : Nat) (within : Int) (its : List bu) (A0 : Option Addr) (cc : Nat) (w : World) (h : ja b B s iv m w) (hbB : b < B) (hB : B ≤ w.heap.size) (hn : m.items.length + its.length ≤ 1000)
  (hr:∀(j:Nat) (hj:j<its.length),∃g o,A0=some ⟨g,o,none⟩/\g<w.heap.size/\g≠b/\some g≠iv.ownBlock/\∀(q:Nat) (u:Value),its[j].cells[q]? =some u->w.cell? ⟨g,o+(j*4+q),none⟩=some u):
  Calls Try.prog 46 #[.pointer (some ⟨b,0,none⟩),.int .i64 br,.slice A0 its.length cc,.int .i64 within] w fun r w'=>
   ∃(A:Option Addr) (n c:Nat) (nR:Value),r=.returned (.agg #[.int .i64 br,.int .i64 within,.slice A n c])/\n=(Ci s br its 0 0 [] m).1.length/\w'.ownsRow w.heap.size 31 4 (.slice A n c) n ((Ci s br its 0 0 [] m).1.flatMap Wj)/\ja b B s nR (Ci s br its 0 0 [] m).2 w'/\tN b iv.ownBlock w w'/\(nR.ownBlock=iv.ownBlock\/∀k,nR.ownBlock=some k->w.heap.size<=k):=by
 obtain⟨⟨PS,MF⟩,hres⟩:∃z,Ci s br its 0 0 [] m=z:=⟨_,rfl⟩
 rw[hres];simp only[];have H0:Hid (Ci s br (its.drop 0) 0 0 [] m=(PS,MF)):=zH hres;have HRW:=zH hr;have HM:=zH h;have hbl:=h.bk.lt;obtain⟨N,hN⟩:∃z,its.length=z:=⟨_,rfl⟩
 have GY:=zH hN;have hn1:N<=1000:=by omega
 have HN:=zH hn;rw[hN];clear hres hr h hN hn
 go_enter Try.func46,Try.ntmps46
 have kr:=Bk.new w 28 #[.int .i64 0,.int .i64 0,.slice none 0 0];have hb0:Below w.heap.size w (w.alloc (.cells #[.int .i64 0,.int .i64 0,.slice none 0 0] 28)):=zR.alloc zL _;go_upto_region 1 with fail
 obtain⟨wa,hwa⟩:∃z,w.alloc (.cells #[.int .i64 0,.int .i64 0,.slice none 0 0] 28)=z:=⟨_,rfl⟩
 rw[hwa]at kr hb0⊢;obtain⟨gr,hgr⟩:∃z,w.heap.size=z:=⟨_,rfl⟩
 rw[hgr]at kr⊢;have ZF:=kr.lt;clear hwa;go_upto_region 2 with(first|(refine ae JB rfl _ _ rfl rfl [.int .i64 br,.int .i64 within,.slice none 0 0] rfl (Bk.new wa _ _) rfl rfl rfl ?_;intro w0 p0))
 obtain⟨gb,hgb⟩:∃z,wa.heap.size=z:=⟨_,rfl⟩
 have kb0:=p0.bk;rw[hgb]at kb0 p0⊢;have xN:Below wa.heap.size wa w0:=p0.below _ _ (zR.alloc zL _) (by omega);have hgbl:=kb0.lt;have hB0:Below w.heap.size w w0:=hb0.trans (xN.mono hb0.size);have V0:Cj b B s iv m gr gb w0.heap.size br within none 0 0 [] iv w w0:=⟨HM.out.old hB0,kr.old xN,kb0,World.ownsRow_nil _ _ _ _,tN.below hB0,.inl rfl,Nat.le_refl _⟩
 have lJ:=zH V0;have Wl:gr≠b:=by omega
 have RH:gb≠b:=by omega
 have hgg:gr<gb:=by omega
 have hw0:w.heap.size<=w0.heap.size:=hB0.size;clear kr hb0 p0 kb0 xN hB0 V0 hgb;go_wp2_with fail
 go_loopw[10,21] (fun po i wr=>∃(j pn:Nat) (nR:Value) (m':MS) (A:Option Addr) (c:Nat) (ps:List (Nat×Int)),j<=N/\po=.int .i64 pn/\pn<=j/\i=.int .i64 j/\ps.length=j/\m'.items.length+(N-j)<=1000/\Hid (Ci s br (its.drop j) j pn ps m'=(PS,MF))/\Hid (Cj b B s nR m' gr gb w0.heap.size br within A j c ps iv w wr)) (fun _ i _=>N-(intOf i).toNat)
 case atStart=>exact⟨0,0,iv,m,none,0,[],Nat.zero_le _,rfl,Nat.le_refl _,rfl,rfl,by have:=HN.out;have:=GY.out;omega,H0,lJ⟩
 case round=>
  clear lJ H0;obtain⟨j,pn,nR,m',A,c,ps,hj,rfl,hpn,rfl,hps,hml,HR,HV⟩:=hrel;obtain⟨W,rfl⟩:∃W:World,W=wr:=⟨_,rfl⟩
  by_cases hlt:j<N
  ·as_aux_lemma=>
   have hjl:j<its.length:=by rw[GY.out];exact hlt
   obtain⟨g,o,rfl,hg,ZT,hgi,hc⟩:=HRW.out j hjl;have hR:=HR.out;rw[List.drop_eq_getElem_cons hjl]at hR;obtain⟨⟨fo,ty,nm,po⟩,hx⟩:∃z,its[j]=z:=⟨_,rfl⟩
   rw[hx]at hc hR
   have hcc:∀(q:Nat) (u:Value),(bu.mk fo ty nm po).cells[q]? =some u->W.cell? ⟨g,o+(j*4+q),none⟩=some u:=fun q u hu=>by
    rw[<-hc q u hu];exact World.cell?_of_block (HV.out.far.block g hg ZT hgi)
   obtain⟨TY,hTY⟩:∃z,bytes ty=z:=⟨_,rfl⟩
   obtain⟨NM,hNM⟩:∃z,bytes nm=z:=⟨_,rfl⟩
   have HNMH:=zH hNM;have r0:W.cell? ⟨g,o+j*4,none⟩=some (.int .i64 fo):=hcc 0 _ rfl;have r1:W.cell? ⟨g,o+j*4+1,none⟩=some (.string TY):=by rw[<-hTY];exact hcc 1 _ rfl
   have r2:W.cell? ⟨g,o+j*4+2,none⟩=some (.string NM):=by rw[<-hNM];exact hcc 2 _ rfl
   have r3:W.cell? ⟨g,o+j*4+3,none⟩=some (.int .i64 po):=hcc 3 _ rfl;have HR2:=zH hR;clear hc hcc hR HR hx hgi ZT;go_upto_region 6 with(first|(refine ae vU rfl _ _ rfl rfl [.int .i64 fo,.string TY,.string NM,.int .i64 po] rfl (Bk.new W _ _) rfl rfl rfl ?_;intro w1 p1))
   have hb1:Below W.heap.size W w1:=p1.below _ _ (zR.alloc zL _) zL;have kt:=p1.bk;obtain⟨gt,hgt⟩:∃z,W.heap.size=z:=⟨_,rfl⟩
   rw[hgt]at kt⊢;have hv1:=HV.out.old hb1;have RJ:gt≠b:=by have:=HV.out.st.bk.lt;omega
   have hgtB:w0.heap.size<=gt:=by have:=HV.out.sz;omega
   have ZU:TY.toList=ty:=by rw[<-hTY,aJ]
   have ZV:NM.toList=nm:=by rw[<-hNM,aJ]
   obtain⟨kd,hkd⟩:∃z,typeAt s ty=z:=⟨_,rfl⟩
   obtain⟨⟨⟨yn,yb,yp,yo,yf,yk⟩,fb⟩,hfd⟩:∃z,dW nm m'.items=z:=⟨_,rfl⟩
   obtain⟨YN,hYN⟩:∃z,bytes yn=z:=⟨_,rfl⟩
   have HTA:Hid (∀W':World,Below w1.heap.size w1 W'->Calls Try.prog 65 #[.agg #[.slice s.ta s.types.length s.tc,.slice s.sa s.syms.length s.sc],.string TY] W' fun e w'=>e=.returned (.int .i64 kd)/\Below W'.heap.size W' w'):=zH fun W' hW=>by
    have:=Ib s TY W' ((hv1.st.old hW).Bf.more (Nat.le_of_lt (hv1.st.old hW).bk.lt));rw[ZU,hkd]at this;exact this
   have xK:Hid (∀W':World,Below w1.heap.size w1 W'->Calls Try.prog 66 #[.pointer (some ⟨b,0,none⟩),.string NM] W' fun r w'=>r=.returned (.tuple #[.agg #[.string YN,.int .i64 yb,.int .i64 yp,.int .i64 yo,.int .i64 yf,.int .i64 yk],.bool fb])/\Below W'.heap.size W' w'):=zH fun W' hW=>by
    have:=uy b B s nR m' W' NM (hv1.st.old hW) (by omega);rw[ZV,hfd]at this;simp only[cO.cells,hYN]at this;exact this
   have hR:=HR2.out;unfold Ci at hR;simp only[hkd,hfd]at hR;obtain⟨ng,Wp⟩:∃z,decide (kd<0)=z:=⟨_,rfl⟩
   obtain⟨m1,hm1⟩:∃z,(if(ng||fb)=true then dI 10 po m' else m')=z:=⟨_,rfl⟩
   rw[Wp,hm1]at hR;obtain⟨q3,hq3⟩:∃z,(decide (j=0)&&decide (fo=3))=z:=⟨_,rfl⟩
   have ZW:(j=0/\fo=3)<->q3=true:=by rw[<-hq3];simp
   obtain⟨m2,hm2⟩:∃z,(if j=0/\fo=3 then dI 15 po m1 else m1)=z:=⟨_,rfl⟩
   rw[hm2]at hR;have HR3:=zH hR;have yh:=zH hm1;have lF:Hid ((if q3=true then dI 15 po m1 else m1)=m2):=zH (by rw[<-hm2];by_cases h:j=0/\fo=3<;>simp[h,ZW.1,<-hq3]);have HQ3:=zH hq3;have YZ:=zH Wp
   have HML:Hid (m2.items=m'.items):=zH (by
    rw[<-hm2,<-hm1]
    (repeat' split)<;>first|rfl|exact dh _ _ _|(rw[dh];done)|(rw[dh,dh]))
   have s0:w1.cell? ⟨b,0,none⟩=some (.slice s.ta s.types.length s.tc):=hv1.st.bk.cell 0;have s1:w1.cell? ⟨b,1,none⟩=some (.slice s.sa s.syms.length s.sc):=hv1.st.bk.cell 1;have t1:w1.cell? ⟨gt,1,none⟩=some (.string TY):=kt.cell 1;have vW:=zH (And.intro hv1 kt);clear r0 r1 r2 r3 hb1 p1 hgt hv1 kt hTY hNM ZU ZV hkd hfd hYN HR2 hR Wp hm1 hm2 hq3 ZW hg HRW HV;refine cZ 6 (fun k=>false) (by kernel_rfl) (fun qk=>(brR6 b gt s TY).getD qk .any) (by kernel_rfl) ?_ ?_
   ·refine aj.cons rfl [] [0] rfl rfl (by kernel_rfl) (by kernel_rfl) (fun qK qa wr hB qO qF hK=>?_) ?_
    ·have e0:qa.tmps[0]? =some (.pointer (some ⟨b,0,none⟩)):=qO.1.trans rfl;clear qO qF;go_simp;exact hK _ _ zR rfl
    refine aj.cons rfl [0] [] rfl rfl (by kernel_rfl) (by kernel_rfl) (fun qK qa wr hB qO qF hK=>?_) ?_
    ·have e26:=aH qF.1 rfl rfl;clear qO qF;go_simp;exact hK _ _ zR rfl
    refine aj.cons rfl [1] [] rfl rfl (by kernel_rfl) (by kernel_rfl) (fun qK qa wr hB qO qF hK=>?_) ?_
    ·have e27:=aH qF.1 rfl rfl;clear qO qF;go_simp;exact hK _ _ zR rfl
    refine aj.cons rfl [2] [] rfl rfl (by kernel_rfl) (by kernel_rfl) (fun qK qa wr hB qO qF hK=>?_) ?_
    ·have e28:=aH qF.1 rfl rfl;clear qO qF;have hs0:=zE hB s0;have hs1:=zE hB s1;go_simp;exact hK _ _ zR rfl
    refine aj.cons rfl [] [12] rfl rfl (by kernel_rfl) (by kernel_rfl) (fun qK qa wr hB qO qF hK=>?_) ?_
    ·have e12:qa.tmps[12]? =some (.pointer (some ⟨gt,0,none⟩)):=qO.1.trans rfl;clear qO qF;go_simp;exact hK _ _ zR rfl
    refine aj.cons rfl [4] [] rfl rfl (by kernel_rfl) (by kernel_rfl) (fun qK qa wr hB qO qF hK=>?_) ?_
    ·have e30:=aH qF.1 rfl rfl;clear qO qF;have ht1:=zE hB t1;go_simp;exact hK _ _ zR rfl
    exact aj.nil
   intro vals wr hl hB hR hS
   match vals,hl with
   |[z26,z27,z28,z29,z30,z31],_=>
   have r3:z29=.agg #[.slice s.ta s.types.length s.tc,.slice s.sa s.syms.length s.sc]:=hR 3 _ rfl;subst r3;have r5:z31=.string TY:=hR 5 _ rfl;subst r5;clear hS;clear hR;simp only[List.take_succ_cons,List.take_zero,List.drop_succ_cons,List.drop_zero,List.toList_toArray,List.cons_append,List.nil_append,aN,Act.put,List.setIfInBounds_toArray,List.set_cons_zero,List.set_cons_succ];have HB:=zH hB;have t2:wr.cell? ⟨gt,2,none⟩=some (.string NM):=(vW.out.2.old hB).cell 2;clear hB s0 s1 t1;go_wp2_with fail
   refine(HTA.out _ HB.out).mono ?_;rintro r w2 ⟨rfl,hb2⟩;have t2:w2.cell? ⟨gt,2,none⟩=some (.string NM):=zE hb2 t2;have HB2:=zH (HB.out.trans (hb2.mono HB.out.size));clear HTA hb2 HB;go_wp2_with fail
   refine(xK.out _ HB2.out).mono ?_;rintro r w3 ⟨rfl,hb3⟩;have HB3:=zH (HB2.out.trans (hb3.mono HB2.out.size));clear xK hb3 HB2 t2;go_upto_region 8 with(first|(refine ae fQ rfl _ _ rfl rfl [.string YN,.int .i64 yb,.int .i64 yp,.int .i64 yo,.int .i64 yf,.int .i64 yk] rfl (Bk.new w3 _ _) rfl rfl rfl ?_;intro w4 p4;go_frame))
   have hb4:Below w1.heap.size w1 w4:=p4.below _ _ (HB3.out.alloc HB3.out.size _) HB3.out.size;have gZ:Hid (Cj b B s nR m' gr gb w0.heap.size br within A j c ps iv w w4/\Bk w4 gt 126 #[.int .i64 fo,.string TY,.string NM,.int .i64 po]):=zH ⟨vW.out.1.old hb4,vW.out.2.old hb4⟩;clear p4 hb4 HB3 vW;obtain⟨q4,hq4⟩:∃z,(ng||fb)=z:=⟨_,rfl⟩
   have hm1:=yh.out;rw[hq4]at hm1;have yh:=zH hm1;have HQ4:=zH hq4;clear hm1 hq4
   go_cut[44] (fun v44 wx=>v44=.bool q4/\w4=wx)
   case first=>
    as_aux_lemma=>
    cases ng
    ·have hn:¬kd<0:=by have:=YZ.out;simpa using this
     cases fb
     all_goals
      obtain rfl:=HQ4.out;go_wp2_with fail
      go_meet
      exact⟨rfl,rfl⟩
    ·have hn:kd<0:=by have:=YZ.out;simpa using this
     obtain rfl:=HQ4.out;go_wp2_with fail
     go_meet
     exact⟨rfl,rfl⟩
   case rest=>
   obtain⟨rfl,hwc⟩:=hcut;subst hwc;go_upto_if 44 with fail
   go_cut[] (fun wx=>Hid (Cj b B s nR m1 gr gb w0.heap.size br within A j c ps iv w wx/\Bk wx gt 126 #[.int .i64 fo,.string TY,.string NM,.int .i64 po]))
   case first=>
    as_aux_lemma=>
    have hm:=yh.out;cases q4
    ·rw[if_neg (by decide)]at hm;subst hm;clear yh;go_wp2_with fail
     go_meet
     exact gZ
    ·rw[if_pos rfl]at hm;have jG:=zH (jk b B s nR m' w4 10 po gZ.out.1.st hbB);rw[hm]at jG;have t3:w4.cell? ⟨gt,3,none⟩=some (.int .i64 po):=gZ.out.2.cell 3;clear yh hm;go_wp2_with fail
     refine jG.out.mono ?_;rintro r w5 ⟨rfl,hs5⟩;have ZX:Hid (Cj b B s nR m1 gr gb w0.heap.size br within A j c ps iv w w5/\Bk w5 gt 126 #[.int .i64 fo,.string TY,.string NM,.int .i64 po]):=zH ⟨gZ.out.1.stp hs5 (by omega) Wl RH hw0,gZ.out.2.grown hs5.grown (aC RJ)⟩;clear jG hs5 t3;go_wp2_with fail
     go_meet
     exact ZX
   case rest=>
   rename World=>DJ
   have HV5:=hcut;clear gZ hcut;obtain⟨w5,rfl⟩:∃z:World,z=DJ:=⟨_,rfl⟩
   go_upto_region 10 with fail
   have t0:w5.cell? ⟨gt,0,none⟩=some (.int .i64 fo):=HV5.out.2.cell 0
   go_cut[55] (fun v55 wx=>v55=.bool q3/\w5=wx)
   case first=>
    as_aux_lemma=>
    have hq:=HQ3.out
    by_cases h0:j=0
    ·have e0:((j:Int)==0)=true:=by rw[beq_iff_eq];omega
     by_cases h3:fo=3
     ·have e3:((fo:Int)==3)=true:=by rw[beq_iff_eq];omega
      have hq:q3=true:=by rw[<-hq];simp[h0,h3]
      subst hq;clear h0 h3;go_wp2_with fail
      go_meet
      exact⟨rfl,rfl⟩
     ·have e3:((fo:Int)==3)=false:=by rw[beq_eq_false_iff_ne];omega
      have hq:q3=false:=by rw[<-hq];simp[h3]
      subst hq;clear h0 h3;go_wp2_with fail
      go_meet
      exact⟨rfl,rfl⟩
    ·have e0:((j:Int)==0)=false:=by rw[beq_eq_false_iff_ne];omega
     have hq:q3=false:=by rw[<-hq];simp[h0]
     subst hq;clear h0;go_wp2_with fail
     go_meet
     exact⟨rfl,rfl⟩
   case rest=>
   obtain⟨rfl,hwc⟩:=hcut;subst hwc;clear t0;go_upto_if 55 with fail
   go_cut[] (fun wx=>Hid (Cj b B s nR m2 gr gb w0.heap.size br within A j c ps iv w wx/\Bk wx gt 126 #[.int .i64 fo,.string TY,.string NM,.int .i64 po]))
   case first=>
    as_aux_lemma=>
    have hm:=lF.out;cases q3
    ·rw[if_neg (by decide)]at hm;subst hm;clear lF;go_wp2_with fail
     go_meet
     exact HV5
    ·rw[if_pos rfl]at hm;have jG:=zH (jk b B s nR m1 w5 15 po HV5.out.1.st hbB);rw[hm]at jG;have t3:w5.cell? ⟨gt,3,none⟩=some (.int .i64 po):=HV5.out.2.cell 3;clear lF hm;go_wp2_with fail
     refine jG.out.mono ?_;rintro r w5 ⟨rfl,hs5⟩;have ZX:Hid (Cj b B s nR m2 gr gb w0.heap.size br within A j c ps iv w w5/\Bk w5 gt 126 #[.int .i64 fo,.string TY,.string NM,.int .i64 po]):=zH ⟨HV5.out.1.stp hs5 (by omega) Wl RH hw0,HV5.out.2.grown hs5.grown (aC RJ)⟩;clear jG hs5 t3;go_wp2_with fail
     go_meet
     exact ZX
   case rest=>
   rename World=>DJ
   have dS:=hcut;clear HV5 hcut;obtain⟨w6,rfl⟩:∃z:World,z=DJ:=⟨_,rfl⟩
   go_upto_region 12 with fail
   obtain⟨AI,ci,hiv,-⟩:=bF dS.out.1.st.own;subst hiv;obtain⟨L,hL⟩:∃z,m2.items.length=z:=⟨_,rfl⟩
   have vC:=zH hL;have hL1:L+(N-j)<=1000:=by rw[<-hL,HML.out];exact hml
   have zJ:=dS.out.1.st.own;have i2:w6.cell? ⟨b,2,none⟩=some (.slice AI L ci):=by rw[<-hL];exact dS.out.1.st.bk.cell 2
   have t2:w6.cell? ⟨gt,2,none⟩=some (.string NM):=dS.out.2.cell 2;have t0:w6.cell? ⟨gt,0,none⟩=some (.int .i64 fo):=dS.out.2.cell 0;rw[hL]at zJ;have hB6:B<=w6.heap.size:=by have:=dS.out.1.far.size;omega
   have hW6:w.heap.size<=w6.heap.size:=dS.out.1.far.size;obtain⟨iI,hI,hI0,hI1,hI2⟩:=info_parts Dv;have HOWN:=zH zJ;have rJ:Hid (bytes nm=NM):=HNMH;obtain⟨wz,hwz⟩:∃z,w.heap.size=z:=⟨_,rfl⟩
   obtain⟨xs,hxs⟩:∃z,m2.items.flatMap cO.cells=z:=⟨_,rfl⟩
   have Ud:=zH hwz;have HXS:=zH hxs;rw[hxs]at zJ;have HOWN:=zH zJ;have hW6z:wz<=w6.heap.size:=by omega
   clear zJ hL hwz hxs;refine mr 16 15 ((Value.slice AI L ci).ownBlock) (by decide) (by kernel_rfl) (fun qk=>(ZR b gt br j pn fo kd NM AI L ci B wz xs).getD qk .any) (by kernel_rfl) ?_ ?_
   ·refine bC.pure rfl [] [0] rfl rfl (by kernel_rfl) (by kernel_rfl) (.pointer (some ⟨b,0,none⟩)) rfl (fun qK qa wr qO qF hK=>?_) ?_
    ·have e0:qa.tmps[0]? =some (.pointer (some ⟨b,0,none⟩)):=qO.1.trans rfl;clear qO qF;go_simp;exact hK
    refine bC.cons rfl [] [0] rfl _ rfl (by kernel_rfl) rfl (by kernel_rfl) (by kernel_rfl) (fun qK qa wr hB qO qF hK=>?_) ?_
    ·have e0:qa.tmps[0]? =some (.pointer (some ⟨b,0,none⟩)):=qO.1.trans rfl;clear qO qF;go_simp;exact hK _ _ zR rfl
    refine bC.cons rfl [1] [] rfl _ rfl (by kernel_rfl) rfl (by kernel_rfl) (by kernel_rfl) (fun qK qa wr hB qO qF hK=>?_) ?_
    ·have e61:=aH qF.1 rfl rfl;clear qO qF;go_simp;exact hK _ _ zR rfl
    refine bC.cons rfl [2] [] rfl _ rfl (by kernel_rfl) rfl (by kernel_rfl) (by kernel_rfl) (fun qK qa wr hB qO qF hK=>?_) ?_
    ·have e62:=aH qF.1 rfl rfl;clear qO qF;go_simp;exact hK _ _ zR rfl
    refine bC.cons rfl [3] [] rfl _ rfl (by kernel_rfl) rfl (by kernel_rfl) (by kernel_rfl) (fun qK qa wr hB qO qF hK=>?_) ?_
    ·have e63:=aH qF.1 rfl rfl;clear qO qF;have hi2:=zE hB i2;go_simp;exact hK _ _ zR rfl
    refine bC.cons rfl [] [12] rfl _ rfl (by kernel_rfl) rfl (by kernel_rfl) (by kernel_rfl) (fun qK qa wr hB qO qF hK=>?_) ?_
    ·have e12:qa.tmps[12]? =some (.pointer (some ⟨gt,0,none⟩)):=qO.1.trans rfl;clear qO qF;go_simp;exact hK _ _ zR rfl
    refine bC.cons rfl [5] [] rfl _ rfl (by kernel_rfl) rfl (by kernel_rfl) (by kernel_rfl) (fun qK qa wr hB qO qF hK=>?_) ?_
    ·have e65:=aH qF.1 rfl rfl;clear qO qF;have ht2:=zE hB t2;go_simp;exact hK _ _ zR rfl
    refine bC.cons rfl [] [1] rfl _ rfl (by kernel_rfl) rfl (by kernel_rfl) (by kernel_rfl) (fun qK qa wr hB qO qF hK=>?_) ?_
    ·have e1:qa.tmps[1]? =some (.int .i64 br):=qO.1.trans rfl;clear qO qF;go_simp;exact hK _ _ zR rfl
    refine bC.cons rfl [] [11] rfl _ rfl (by kernel_rfl) rfl (by kernel_rfl) (by kernel_rfl) (fun qK qa wr hB qO qF hK=>?_) ?_
    ·have e11:qa.tmps[11]? =some (.int .i64 j):=qO.1.trans rfl;clear qO qF;go_simp;exact hK _ _ zR rfl
    refine bC.cons rfl [] [10] rfl _ rfl (by kernel_rfl) rfl (by kernel_rfl) (by kernel_rfl) (fun qK qa wr hB qO qF hK=>?_) ?_
    ·have e10:qa.tmps[10]? =some (.int .i64 pn):=qO.1.trans rfl;clear qO qF;go_simp;exact hK _ _ zR rfl
    refine bC.cons rfl [] [12] rfl _ rfl (by kernel_rfl) rfl (by kernel_rfl) (by kernel_rfl) (fun qK qa wr hB qO qF hK=>?_) ?_
    ·have e12:qa.tmps[12]? =some (.pointer (some ⟨gt,0,none⟩)):=qO.1.trans rfl;clear qO qF;go_simp;exact hK _ _ zR rfl
    refine bC.cons rfl [10] [] rfl _ rfl (by kernel_rfl) rfl (by kernel_rfl) (by kernel_rfl) (fun qK qa wr hB qO qF hK=>?_) ?_
    ·have e70:=aH qF.1 rfl rfl;clear qO qF;have ht0:=zE hB t0;go_simp;exact hK _ _ zR rfl
    refine bC.cons rfl [] [13] rfl _ rfl (by kernel_rfl) rfl (by kernel_rfl) (by kernel_rfl) (fun qK qa wr hB qO qF hK=>?_) ?_
    ·have e13:qa.tmps[13]? =some (.int .i64 kd):=qO.1.trans rfl;clear qO qF;go_simp;exact hK _ _ zR rfl
    refine bC.cons rfl [6,7,8,9,11,12] [] rfl _ rfl (by kernel_rfl) rfl (by kernel_rfl) (by kernel_rfl) (fun qK qa wr hB qO qF hK=>?_) ?_
    ·have e66:=aH qF.1 rfl rfl;have e67:=aH qF.2.1 rfl rfl;have e68:=aH qF.2.2.1 rfl rfl;have e69:=aH qF.2.2.2.1 rfl rfl;have e71:=aH qF.2.2.2.2.1 rfl rfl;have e72:=aH qF.2.2.2.2.2.1 rfl rfl;clear qO qF;refine FV (.tmp 66) (.tmp 67) (.tmp 68) (.tmp 69) (.tmp 71) (.tmp 72) rfl (bK e66) (bK e67) (bK e68) (bK e69) (bK e71) (bK e72) ?_;exact hK _ _ zR rfl
    refine bC.cons rfl [13] [] rfl _ rfl (by kernel_rfl) rfl (by kernel_rfl) (by kernel_rfl) (fun qK qa wr hB qO qF hK=>?_) ?_
    ·have e73:=aH qF.1 rfl rfl;clear qO qF;refine Iz (.tmp 73) rfl (bK e73) ?_;exact hK _ _ (zR.alloc zL _) ⟨_,rfl,Bk.new _ _ _⟩
    refine bC.app rfl [4,14] [] rfl (by kernel_rfl) (by kernel_rfl) (fun qK qa wr hB qO qF hK=>?_) ?_
    ·have e64:=aH qF.1 rfl rfl;obtain⟨u74,e74,OG⟩:=qF.2.1;obtain⟨g74,h74,k74⟩:=(show∃g,u74=.slice (some ⟨g,0,none⟩) 1 1/\Bk wr g 141 #[.string NM,.int .i64 br,.int .i64 j,.int .i64 pn,.int .i64 fo,.int .i64 kd]from OG)
     subst h74;have e74:qa.tmps[74]? =some (.slice (some ⟨g74,0,none⟩) 1 1):=e74;clear qO qF;refine eF _ _ 109 rfl B 141 iI _ 6 56 Try.underlying109 hI hI0 hI1 hI2 rfl (by decide) (.slice AI L ci) L _ (bK e64) (aP HOWN.out hB) (g74+1) (some ⟨g74,0,none⟩) 1 1 [.string NM,.int .i64 br,.int .i64 j,.int .i64 pn,.int .i64 fo,.int .i64 kd] (bK e74) (Rd.bk k74 (Nat.lt_succ_self _)) rfl (by intro u hu;simp at hu;rcases hu with rfl|rfl|rfl|rfl|rfl|rfl<;>rfl) (by unfold maxLen;omega) (by omega) (by have:=hB.size;omega) ?_;intro A9 c9 w9 bD jO hwh;exact hK _ _ (World.grownBy.trans (below_grown hB _) jO) jO.size ⟨A9,c9,rfl,bD,hwh.imp id fun h k hk=>by rw[h]at hk;injection hk with hk;have:=hB.size;omega⟩
    exact bC.nil
   intro vals wr hl hG hR
   match vals,hl with
   |[z60,z61,z62,z63,z64,z65,z66,z67,z68,z69,z70,z71,z72,z73,z74,z75],_=>
   have r0:z60=.pointer (some ⟨b,0,none⟩):=hR 0 _ rfl;subst r0;have ZY:(fun v w=>∃(A:Option Addr) (c:Nat),v=.slice A (L+1) c/\w.ownsRow B 141 6 (.slice A (L+1) c) (L+1) (xs++[.string NM,.int .i64 br,.int .i64 j,.int .i64 pn,.int .i64 fo,.int .i64 kd])/\((Value.slice A (L+1) c).ownBlock=(Value.slice AI L ci).ownBlock\/∀k,(Value.slice A (L+1) c).ownBlock=some k->wz<=k)) z75 wr:=yC (hR 15 _ rfl);clear hR;simp only[List.take_succ_cons,List.take_zero,List.drop_succ_cons,List.drop_zero,List.toList_toArray,List.cons_append,List.nil_append,aN,Act.put,List.setIfInBounds_toArray,List.set_cons_zero,List.set_cons_succ];obtain⟨A9,c9,rfl,bD,hwh⟩:=ZY;have hvi:=dS.out.1.item (x:=⟨nm,br,j,pn,fo,kd⟩) (nR:=.slice A9 (L+1) c9) hbB (by omega) Wl RH (by rw[vC.out,HXS.out];simpa[cO.cells,rJ.out]using bD) (by rw[vC.out];exact hG) (by rw[vC.out];rw[<-Ud.out]at hwh;exact hwh);have hne:some b≠(Value.slice AI L ci).ownBlock:=fun e=>by have:=(HOWN.out.lt b e.symm).1;omega
   have ZZ:some gt≠(Value.slice AI L ci).ownBlock:=aF HOWN.out dS.out.2 (by decide);have VX:=dS.out.1.st.bk.grown hG hne;have f2:=VX.frozen 2;have c2:wr.cell? ⟨b,2,none⟩=some (.slice AI m2.items.length ci):=VX.cell 2;have kt9:=(dS.out.2.grown hG ZZ).far (p:=⟨b,2,none⟩) (by show gt≠b;exact RJ) (.slice A9 (L+1) c9);have qH:=zH (And.intro hvi kt9);clear bD hwh hG hvi hne ZZ VX kt9 i2 t2 t0 HOWN hB6 hW6 dS;go_upto_region 13 with fail
   generalize wr.setCell ⟨b,2,none⟩ (.slice A9 (L+1) c9)=w8 at qH⊢;clear f2 c2;have t0:w8.cell? ⟨gt,0,none⟩=some (.int .i64 fo):=qH.out.2.cell 0;obtain⟨pn2,RN⟩:∃z,(if fo≠3 then pn+1 else pn)=z:=⟨_,rfl⟩
   have hR:=HR3.out;rw[RN]at hR;have HR4:=zH hR;have HPN:=zH RN;have hpn3:pn2<=j+1:=by rw[<-RN];split<;>omega
   clear hR HR3 RN;have HG8:Hid (Cj b B s (.slice A9 (L+1) c9) ⟨m2.items++[⟨nm,br,j,pn,fo,kd⟩],m2.err,m2.pos⟩ gr gb w0.heap.size br within A j c ps iv w w8/\Bk w8 gt 126 #[.int .i64 fo,.string TY,.string NM,.int .i64 po]):=qH;clear qH;have hj1000:pn<=1000:=by omega
   go_upto_if 80 with fail
   go_cut[10] (fun v wx=>v=.int .i64 pn2/\w8=wx)
   case first=>
    as_aux_lemma=>
    have hp:=HPN.out
    by_cases h3:fo=3
    ·have e3:((fo:Int) !=3)=false:=by rw[bne_eq_false_iff_eq];omega
     rw[if_neg (by simpa using h3)]at hp;subst hp;clear h3;go_wp2_with fail
     go_meet
     exact⟨rfl,rfl⟩
    ·have e3:((fo:Int) !=3)=true:=by rw[bne_iff_ne];omega
     rw[if_pos h3]at hp;subst hp;clear h3;go_wp2_with fail
     go_meet
     exact⟨by go_num,rfl⟩
   case rest=>
   obtain⟨rfl,hwc⟩:=hcut;subst hwc;obtain⟨iP,hP,hP0,hP1,hP2⟩:=info_parts FT;have b2:w8.cell? ⟨gb,2,none⟩=some (.slice A j c):=HG8.out.1.kb.cell 2;have fV:Below w8.heap.size w8 (w8.alloc (.cells #[.int .i64 fo,.int .i64 kd,.slice none 0 0,.slice none 0 0] 31)):=zR.alloc zL _;have hvA:=HG8.out.1.old fV;have Md:=zH hvA;have bz:=hvA.own;have kK:w0.heap.size<=(w8.alloc (.cells #[.int .i64 fo,.int .i64 kd,.slice none 0 0,.slice none 0 0] 31)).heap.size:=hvA.sz;clear hvA HPN HG8;go_wp2_with (first|at_builtin;(refine az (by rfl) _ _ 26 (by rfl) w0.heap.size 31 iP _ 4 64 Try.underlying26 hP hP0 hP1 hP2 rfl (by decide) (.slice A j c) j _ (by rfl) bz (w8.heap.size+1) (some ⟨w8.heap.size,0,none⟩) 1 1 [.int .i64 fo,.int .i64 kd,.slice none 0 0,.slice none 0 0] (by rfl) (Rd.lit rfl _ _) (by rfl) ?c2 ?c3 ?c4 kK ?_))
   case c2=>intro u hu;simp at hu;rcases hu with rfl|rfl|rfl|rfl<;>rfl
   case c3=>unfold maxLen;omega
   case c4=>omega
   intro A6 c6 w9 hown6 iy _;have zK:some gb≠(Value.slice A j c).ownBlock:=aF bz Md.out.kb (by decide);have RP:=Md.out.kb.grown iy zK;have f9:=RP.frozen 2;have c9':w9.cell? ⟨gb,2,none⟩=some (.slice A j c):=RP.cell 2;have HVP:=zH (Md.out.part (x:=(fo,kd)) (by omega) (by omega) RH (by omega) (by omega) (by omega) (by omega) hown6 iy)
   have Z4:Hid ((m2.items++[(⟨nm,br,j,pn,fo,kd⟩:cO)]).length+(N-(j+1))<=1000):=zH (by
    rw[List.length_append,vC.out]
    show L+1+(N-(j+1))<=1000
    omega)
   have LZ:Hid ((ps++[(fo,kd)]).length=j+1):=zH (by rw[List.length_append,hps];rfl);clear hown6 iy bz kK zK RP fV Md b2;go_wp2
   go_roundw
   case rel=>exact⟨j+1,pn2,.slice A9 (L+1) c9,⟨m2.items++[⟨nm,br,j,pn,fo,kd⟩],m2.err,m2.pos⟩,A6,c6,ps++[(fo,kd)],by omega,rfl,hpn3,by go_num,LZ.out,Z4.out,HR4,HVP⟩
   case measure=>simp[intOf];omega
  ·as_aux_lemma=>
   obtain rfl:j=N:=by omega
   have hR:=HR.out;rw[List.drop_eq_nil_of_le (by rw[GY.out];exact Nat.le_refl _)]at hR;have hR:(ps,m')=(PS,MF):=hR;injection hR with h1 h2
   subst h1;subst h2;obtain⟨x0,x1,x2⟩:=zc3 HV.out.kb;have kr:=HV.out.kr;clear HR HRW GY hlt hj;go_wp2_with (first|(refine ae JB rfl _ _ rfl rfl [.int .i64 br,.int .i64 within,.slice A j c] rfl kr rfl rfl rfl ?_;intro w9 p9))
   obtain⟨u0,u1,u2⟩:=zc3 p9.bk;refine bodyPost_ret (v:=.agg #[.int .i64 br,.int .i64 within,.slice A j c]) (by simp[results,Try.results46,go_sem,u0,u1,u2]) rfl ?_;have hgw:w.heap.size<=gr:=by omega
   have hst:ja b B s nR m' w9:=⟨HV.out.st.bk.grown p9.grown (aC (by omega)),HV.out.st.Bf.iZ (p9.below b _ zR (by omega)),HV.out.st.own.kept p9.grown (.inr fun e=>aF HV.out.st.own HV.out.kr (by decide) e.symm)⟩
   exact⟨A,j,c,nR,rfl,hps.symm,dF (fP HV.out.own p9.grown (by omega)) (by omega),hst,HV.out.far.put p9 hgw,HV.out.iv⟩
end Go.Proofs.Ytbjnhllkdilpfaa
