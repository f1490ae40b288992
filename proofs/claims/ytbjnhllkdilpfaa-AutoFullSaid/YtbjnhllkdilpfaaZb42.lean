/- Part 42 of the proof. No conditions. -/
import Derived.Test.YtbjnhllkdilpfaaZb41
namespace Go.Proofs.Ytbjnhllkdilpfaa
open Go.RowKit
set_option linter.unusedSimpArgs false
set_option linter.unusedVariables false
set_option maxHeartbeats 16000000
set_option maxRecDepth 100000
def ig (D B:Nat) (t:lW) (v:Value) (W:World):Prop:=∃(kv bv:Value) (bs:List fB),v=.agg #[.int .i64 t.aS,kv,bv]/\W.ownsRow B 3 1 kv t.keys.length (aI t.keys)/\jX B D bv bs W/\bs.map (lU D)=t.branches
theorem jX.nil (B D:Nat) (W:World):jX B D (.slice none 0 0) [] W:=
 ⟨World.ownsRow_nil _ _ _ _,fun b hb=>absurd hb (by simp),List.Pairwise.nil,fun x hx=>absurd hx (by simp[dR]),List.Pairwise.nil,fun x hx=>absurd hx (by simp[dR])⟩
theorem ig.zero (D B:Nat) (W:World):ig D B uS (.agg #[.int .i64 0,.slice none 0 0,.slice none 0 0]) W:=
 ⟨_,_,[],rfl,World.ownsRow_nil _ _ _ _,jX.nil _ _ _,rfl⟩
def Pn (D:Nat) (s:ah) (q:bU) (w:World) (e:Ending) (w':World):Prop:=
 ∃pv:Value,e=.returned (.tuple #[pv,.int .i64 ((mJ s q).2.1:Nat),.int .i64 (mJ s q).2.2])/\ig D w.heap.size (mJ s q).1 pv w'/\Below w.heap.size w w'
theorem jo (w:World):(sizeOf 25).run Try.prog w=.ok 3 w:=by
 obtain⟨i,hi,h0,h1,h2⟩:=info_parts (show(Try.prog.info? 25).map (fun i=>(i.zero,i.size,i.bytes))=some (some (.agg #[.int .i64 0,.slice none 0 0,.slice none 0 0]),3,56) by kernel_rfl);simp[sizeOf,typeInfo,hi,h1]
theorem jX.chg {b B B1 D:Nat} {s:ah} {iv bv:Value} {m:MS} {bs:List fB} {W W':World} (h:jX B1 D bv bs W) (hm:ja b B s iv m W) (hc:tN b iv.ownBlock W W') (hb1:b<B1) (h0:∀x∈dR bs,x.2=[]):jX B1 D bv bs W':=by
 have key:∀{e k n:Nat} {v:Value} {xs:List Value},141≠e->W.ownsRow B1 e k v n xs->W'.ownsRow B1 e k v n xs:=fun {e k n v xs} hne hr=>by
  refine⟨hr.1,?_⟩;rcases hr.2 with h|⟨g,cap,cur,hv,hb0,hh,hx⟩
  ·exact .inl h
  ·have hk:Bk W g e cur:=hh;exact .inr ⟨g,cap,cur,hv,hb0,(hc.block g hk.lt (by omega) (aF hm.own hk hne)).trans hh,hx⟩
 exact⟨key (by decide) h.dC,fun x hx=>key (by decide) (h.prt x hx),h.wJ,fun x hx=>key (by decide) (h.Bo x hx),h.IK,fun x hx y hy=>by rw[h0 x hx]at hy;cases hy⟩
theorem jX.snoc {B1 D n c wz : Nat} {A : Option Addr} {v' : Value} {bs : List fB} {x : fB} {W W' : World} (h : jX B1 D (.slice A n c) bs W) (hn : bs.length = n) (h0 : ∀ z ∈ dR bs, z.2 = []) (hx : W.ownsRow wz 31 4 x.parts x.ps.length (x.ps.flatMap bW.cells)) (hB : B1 ≤ wz) (hlow : ∀ y ∈ bs, ∀ k, y.parts.ownBlock = some k → k < wz)
  (hpe:∀z∈Le x,z=(.slice none 0 0,[])) (hown:W'.ownsRow B1 28 3 v' (n+1) (bs.flatMap fB.cells++x.cells)) (hg:W.grownBy W' (Value.slice A n c).ownBlock):jX B1 D v' (bs++[x]) W'/\∀z∈dR (bs++[x]),z.2=[]:=by
 have hnr:dR (bs++[x])=dR bs++Le x:=by unfold dR;rw[List.flatMap_append];simp
 have he:∀z∈dR (bs++[x]),z.2=[]:=by
  intro z hz;rw[hnr]at hz;rcases List.mem_append.1 hz with hz|hz
  ·exact h0 z hz
  ·rw[hpe z hz]
 refine⟨⟨?_,?_,?_,?_,?_,fun z hz y hy=>by rw[he z hz]at hy;cases hy⟩,he⟩
 ·rw[List.flatMap_append]
  simpa[hn]using hown
 ·intro y hy;rcases List.mem_append.1 hy with hy|hy
  ·exact dB (h.prt y hy) h.dC (by decide) hg
  ·simp only[List.mem_cons,List.not_mem_nil,or_false]at hy;subst hy;exact dF (dB hx h.dC (by decide) hg) hB
 ·rw[List.pairwise_append];refine⟨h.wJ,by simp,fun y hy z hz=>?_⟩;simp only[List.mem_cons,List.not_mem_nil,or_false]at hz;subst hz;rcases hk:y.parts.ownBlock with _|k
  ·exact .inl rfl
  ·right
   intro e;have h1:=hlow y hy k hk;have h2:=(hx.lt k e.symm).1;omega
 ·intro z hz;rw[hnr]at hz;rcases List.mem_append.1 hz with hz|hz
  ·exact dB (h.Bo z hz) h.dC (by decide) hg
  ·rw[hpe z hz];exact World.ownsRow_nil _ _ _ _
 ·rw[hnr,List.pairwise_append];refine⟨h.IK,?_,fun y hy z hz=>?_⟩
  ·refine List.Pairwise.imp_of_mem (R:=fun _ _=>True) (fun {a b} ha hb _=>.inl (by rw[hpe a ha];rfl)) (List.pairwise_of_forall (fun _ _=>trivial))
  ·rcases hk:y.1.ownBlock with _|k
   ·exact .inl rfl
   ·exact .inr (by rw[hpe z hz];simp[Value.ownBlock])
theorem ja.zAf {b B B1 e k n:Nat} {s:ah} {iv v:Value} {m:MS} {xs:List Value} {W W':World} (h:ja b B s iv m W) (hr:W.ownsRow B1 e k v n xs) (hne:141≠e) (hb:b<B1) (hg:W.grownBy W' v.ownBlock):ja b B s iv m W':=by
 have hb2:some b≠v.ownBlock:=fun e'=>by have:=(hr.lt b e'.symm).1;omega
 exact⟨h.bk.grown hg hb2,h.Bf.iZ (iY zR hr (Nat.le_of_lt hb) hg (Nat.le_of_lt h.bk.lt)),dB h.own hr hne hg⟩
theorem ja.Po {b B:Nat} {s:ah} {iv:Value} {m:MS} {W:World} {g t:Nat} {cs:Array Value} (h:ja b B s iv m W) (hk:Bk W g t cs) (hg:b<g) (ht:141≠t) (i:Nat) (u:Value):ja b B s iv m (W.setCell ⟨g,i,none⟩ u):=
 ⟨h.bk.far (by show b≠g;omega) _,h.Bf.iZ (zR.setCell (Nat.le_of_lt hg) _),mg h.own hk ht i u⟩
structure SV (b B1 gp bq br D:Nat) (s:ah) (iv:Value) (m:MS) (bg:Int) (kv bv:Value) (bs:List fB) (qc:Array Value) (w W:World):Prop where
 st:ja b B1 s iv m W
 pl:jX B1 D bv bs W
 kp:Bk W gp 25 #[.int .i64 bg,kv,bv]
 kq:Bk W bq 80 qc
 kr:Bk W br 25 #[.int .i64 0,.slice none 0 0,.slice none 0 0]
 bel:Below w.heap.size w W
theorem SV.old {b B1 gp bq br D:Nat} {s:ah} {iv:Value} {m:MS} {bg:Int} {kv bv:Value} {bs:List fB} {qc:Array Value} {w W W':World} (h:SV b B1 gp bq br D s iv m bg kv bv bs qc w W) (hb:Below W.heap.size W W'):SV b B1 gp bq br D s iv m bg kv bv bs qc w W':=
 ⟨h.st.old hb,h.pl.old hb,h.kp.old hb,h.kq.old hb,h.kr.old hb,h.bel.trans (hb.mono h.bel.size)⟩
theorem tN.trans {b:Nat} {o:Option Nat} {w w1 w2:World} (h:tN b o w w1) (h2:tN b o w1 w2):tN b o w w2:=
 ⟨h2.os.trans h.os,h2.tape.trans h.tape,h2.output.trans h.output,Nat.le_trans h.size h2.size,fun k hk a1 a2=>(h2.block k (Nat.lt_of_lt_of_le hk h.size) a1 a2).trans (h.block k hk a1 a2)⟩
theorem sZ (b:Nat) (o:Option Nat) (W:World):Gs W (fun w=>tN b o W w):=⟨fun w h=>tN.below h,fun w w' h hb=>h.more hb⟩
structure Xh (b B1:Nat) (s:ah) (iv:Value) (MF:MS) (wz:Nat) (PS:List (Nat×Int)) (A:Option Addr) (n c:Nat) (nR:Value) (w:World):Prop where
 ln:n=PS.length
 own:w.ownsRow wz 31 4 (.slice A n c) n (PS.flatMap Wj)
 st:ja b B1 s nR MF w
 iv:nR.ownBlock=iv.ownBlock\/∀k,nR.ownBlock=some k->wz<=k
theorem Xh.old {b B1:Nat} {s:ah} {iv:Value} {MF:MS} {wz:Nat} {PS:List (Nat×Int)} {A:Option Addr} {n c:Nat} {nR:Value} {w w':World} (h:Xh b B1 s iv MF wz PS A n c nR w) (hb:Below w.heap.size w w'):Xh b B1 s iv MF wz PS A n c nR w':=
 ⟨h.ln,aP h.own hb,h.st.old hb,h.iv⟩
def Pq (k:Nat) (win:Nat) (v:Value) (PS:List (Nat×Int)):fB:=⟨k,win,v,PS.map fun p=>⟨p.1,p.2,.slice none 0 0,.slice none 0 0,[],[]⟩⟩
theorem Lr (PS:List (Nat×Int)):(PS.map fun p=>(⟨p.1,p.2,.slice none 0 0,.slice none 0 0,[],[]⟩:bW)).flatMap bW.cells=PS.flatMap Wj:=by
 rw[List.flatMap_map];rfl
theorem Pv (k win:Nat) (v:Value) (PS:List (Nat×Int)):∀z∈Le (Pq k win v PS),z=(.slice none 0 0,[]):=by
 intro z hz;unfold Le Pq at hz;obtain⟨p,hp,hz⟩:=List.mem_flatMap.1 hz;obtain⟨a,_,rfl⟩:=List.mem_map.1 hp;simp[o9]at hz;exact hz
theorem Px (D k win:Nat) (v:Value) (PS:List (Nat×Int)):lU D (Pq k win v PS)=⟨k,win,PS.map prT⟩:=by
 unfold lU Pq;simp only[List.map_map]
 congr 1
theorem IY {q:bU} (h:qi q=0):lT q=true/\q.branches.length<=4/\iw q<=200/\∀l∈q.branches,l.length<=8:=by
 unfold qi at h
 split at h
 ·cases h
 ·rename_i h1
  split at h
  ·cases h
  ·rename_i h2
   split at h
   ·cases h
   ·rename_i h3
    refine⟨by simpa using h1,by omega,by omega,fun l hl=>?_⟩;have h3:=Bool.eq_false_iff.2 h3;rw[List.any_eq_false]at h3;have:=h3 l hl
    simpa using this
theorem SX:∀(l:List (List bu)),0<l.length->(∀x∈l,0<x.length)->0<(l.map List.length).sum
 |[],h,_=>by simp at h
 |x::l,_,h=>by have:=h x (by simp);simp;omega
theorem CS:∀(l:List au) (i:Nat),l.length<=aX i l
 |[],i=>by simp
 |x::l,i=>by
  have h1:=CS l (i+1);have h2:1<=aG x:=by cases x<;>simp[aG]<;>omega
  rw[lL,List.length_cons];omega
theorem SY {bs bs':List qj} (h:AO bs'=AO bs) (h0:∀b∈bs,0<b.ps.length):∀b∈bs',0<b.ps.length:=by
 intro b hb;have h1:b.ps.length∈AO bs':=List.mem_map.2 ⟨b,hb,rfl⟩;rw[h]at h1;obtain⟨a,ha,he⟩:=List.mem_map.1 h1;rw[<-he];exact h0 a ha
theorem Py:(Try.prog.info? 28).map (fun i=>(i.zero,i.size,i.bytes))=some (some (.agg #[.int .i64 0,.int .i64 0,.slice none 0 0]),3,40):=by kernel_rfl
def Tc (b br:Nat) (m':MS):List Spec:=[.is (.agg #[.int .i64 0,.slice none 0 0,.slice none 0 0]),
 .is (.pointer (some ⟨b,0,none⟩)),
 .is (.pointer (some ⟨b,0,none⟩)),
 .is (.pointer (some ⟨b,4,none⟩)),
 .is (.int .i64 (m'.pos:Nat)),
 .is (.pointer (some ⟨b,0,none⟩)),
 .is (.pointer (some ⟨b,0,none⟩)),
 .is (.pointer (some ⟨b,3,none⟩)),
 .is (.int .i64 (m'.err:Nat)),
 .st (fun v W=>Bk W br 25 #[.int .i64 0,.slice none 0 0,.slice none 0 0]) (fun v w w2 hb h=>h.old hb),
 .is (.int .i64 (m'.pos:Nat)),
 .is (.int .i64 (m'.err:Nat))]
def Td (b B1 gp bq k win c c' NL wz:Nat) (A A':Option Addr) (s:ah) (iv:Value) (MF:MS) (PS:List (Nat×Int)):List Spec:=[.is (.pointer (some ⟨gp,2,none⟩)),
 .is (.slice A k c),
 .is (.pointer (some ⟨b,0,none⟩)),
 .is (.int .i64 (k:Nat)),
 .is (.slice A' NL c'),
 .is (.pointer (some ⟨bq,3,none⟩)),
 .is (.int .i64 (win:Nat)),
 .st (fun v w=>∃(A:Option Addr) (n c:Nat) (Gq:Value),v=.agg #[.int .i64 (k:Nat),.int .i64 (win:Nat),.slice A n c]/\Xh b B1 s iv MF wz PS A n c Gq w) (fun _ _ _ hb ⟨A,n,c,Gq,h1,h2⟩=>⟨A,n,c,Gq,h1,h2.old hb⟩),
 .st (fun v w=>∃(g:Nat) (A:Option Addr) (n c:Nat) (Gq:Value),v=.slice (some ⟨g,0,none⟩) 1 1/\Bk w g 28 #[.int .i64 (k:Nat),.int .i64 (win:Nat),.slice A n c]/\Xh b B1 s iv MF wz PS A n c Gq w) (fun _ _ _ hb ⟨g,A,n,c,Gq,h1,h2,h3⟩=>⟨g,A,n,c,Gq,h1,h2.old hb,h3.old hb⟩)]
theorem Pz (D : Nat) (hD : 200 ≤ D) (s : ah) (q : bU) (A1 A2 : Option Addr) (n1 n2 c1 c2 Bq : Nat) (w : World) (hs : s.ok w w.heap.size) (hbr : jK Bq w (.slice A1 n1 c1) q.branches) (hwh : wZ Bq w (.slice A2 n2 c2) q.cond) (hbd : ∀ e ∈ q.cond, jQ e) (hn : n1 ≤ 1000 ∧ n2 ≤ 100000) (hst : q.aS ≤ 1000) (hwin : q.window ≤ 9223372036854775807) (hit : ∀ l ∈ q.branches, l.length ≤ 1000) (hnq : iw q ≤ 1000000) :
  Calls Try.prog 34 #[s.val,.agg (q.cells (.slice A1 n1 c1) (.slice A2 n2 c2)).toArray] w (Pn D s q w):=by
 have HS:=zH hs;have QZ:=zH hbr;have WT:=zH hwh;have vJ:=zH hbd;have RU:=zH (fun h:lT q=true=>xu h);have Z4:=zH hbr.len;have HLW:=zH hwh.len;have AA:Hid (∀W,Below w.heap.size w W->Calls Try.prog 45 #[.agg (q.cells (.slice A1 n1 c1) (.slice A2 n2 c2)).toArray] W (DW q W)):=zH fun W hW=>print_any Bq W q A1 A2 n1 n2 c1 c2 (hbr.old hW) (hwh.old hW) hbd hn hst hwin hit hnq
 have HCK:Hid (∀W,Below w.heap.size w W->Calls Try.prog 44 #[s.val] W fun e w'=>e=.returned (.int .i64 (DX s))/\Below W.heap.size W w'):=zH fun W hW=>Ic s W ((hs.iZ hW).more hW.size)
 obtain⟨⟨PT,AT,ER⟩,hres⟩:∃z,mJ s q=z:=⟨_,rfl⟩
 have aK:=zH hres;unfold Pn;rw[hres];simp only[];obtain⟨QC,hqc⟩:∃z,(q.cells (.slice A1 n1 c1) (.slice A2 n2 c2)).toArray=z:=⟨_,rfl⟩
 have hqe:QC=#[.slice A1 n1 c1,.slice A2 n2 c2,.int .i64 q.aS,.int .i64 q.window,.string (bytes q.key),.int .i64 q.keyAt]:=by rw[<-hqc];rfl
 obtain⟨ce,hce⟩:∃z,DX s=z:=⟨_,rfl⟩
 obtain⟨pe,hpe⟩:∃z,qi q=z:=⟨_,rfl⟩
 unfold DW at AA;rw[hqc,hpe]at AA;rw[hce]at HCK;rw[hqc,hqe];rw[hqe]at AA;have HCE:=zH hce;have HPE:=zH hpe;have GY:=zH hn;unfold ah.val at HCK⊢;obtain⟨bg,Ae⟩:∃z,q.aS=z:=⟨_,rfl⟩
 obtain⟨win,hwn⟩:∃z,q.window=z:=⟨_,rfl⟩
 obtain⟨KEY,hkey⟩:∃z,bytes q.key=z:=⟨_,rfl⟩
 obtain⟨ka,hka⟩:∃z,q.keyAt=z:=⟨_,rfl⟩
 have HQ:=zH (And.intro Ae (And.intro hwn (And.intro hkey hka)));rw[Ae,hwn,hkey,hka]at AA⊢;clear hs hbr hwh hbd hn hst hwin hit hnq hres hqc hqe hce hpe Ae hwn hkey hka
 go_enter Try.func34,Try.ntmps34
 go_upto_region 1 with fail
 have kS:=Bk.new w 61 #[.slice s.ta s.types.length s.tc,.slice s.sa s.syms.length s.sc];have hbS:Below w.heap.size w (w.alloc (.cells #[.slice s.ta s.types.length s.tc,.slice s.sa s.syms.length s.sc] 61)):=zR.alloc zL _;obtain⟨wS,Xi⟩:∃z,w.alloc (.cells #[.slice s.ta s.types.length s.tc,.slice s.sa s.syms.length s.sc] 61)=z:=⟨_,rfl⟩
 rw[Xi]at kS hbS⊢;have kQ:=Bk.new wS 80 #[.slice A1 n1 c1,.slice A2 n2 c2,.int .i64 bg,.int .i64 win,.string KEY,.int .i64 ka];have hbQ:Below wS.heap.size wS (wS.alloc (.cells #[.slice A1 n1 c1,.slice A2 n2 c2,.int .i64 bg,.int .i64 win,.string KEY,.int .i64 ka] 80)):=zR.alloc zL _;obtain⟨wQ,hwQ⟩:∃z,wS.alloc (.cells #[.slice A1 n1 c1,.slice A2 n2 c2,.int .i64 bg,.int .i64 win,.string KEY,.int .i64 ka] 80)=z:=⟨_,rfl⟩
 rw[hwQ]at kQ hbQ⊢;have kP:=Bk.new wQ 25 #[.int .i64 0,.slice none 0 0,.slice none 0 0];have QG:Below wQ.heap.size wQ (wQ.alloc (.cells #[.int .i64 0,.slice none 0 0,.slice none 0 0] 25)):=zR.alloc zL _;obtain⟨w0,hw0⟩:∃z,wQ.alloc (.cells #[.int .i64 0,.slice none 0 0,.slice none 0 0] 25)=z:=⟨_,rfl⟩
 rw[hw0]at kP QG⊢;have hB0:Below w.heap.size w w0:=(hbS.trans (hbQ.mono hbS.size)).trans (QG.mono (Nat.le_trans hbS.size hbQ.size));have hl1:=kS.lt;have hl2:=kQ.lt;have hl3:=kP.lt;have QH:=(kS.old hbQ).old QG;have kQ0:=kQ.old QG;have hsz0:wS.heap.size=w.heap.size+1:=by rw[<-Xi];simp
 have hsz1:wQ.heap.size=w.heap.size+2:=by rw[<-hwQ];simp;omega
 rw[hsz0]at kQ0;rw[hsz1]at kP;obtain⟨bq,hbq⟩:∃z,w.heap.size+1=z:=⟨_,rfl⟩
 obtain⟨br,hbr⟩:∃z,w.heap.size+2=z:=⟨_,rfl⟩
 have Xj:w.heap.size<=br:=by omega
 have hbq0:w.heap.size<=bq:=by omega
 have hbrw:br<w0.heap.size:=by omega
 have hbqr:bq<br:=by omega
 rw[hbq]at kQ0⊢;rw[hbr]at kP;rw[show bq+1=br by omega];obtain⟨b0,hb0⟩:∃z,w.heap.size=z:=⟨_,rfl⟩
 have hkS:=QH;rw[hb0]at QH⊢;have HW0:Hid (Bk w0 b0 61 #[.slice s.ta s.types.length s.tc,.slice s.sa s.syms.length s.sc]/\Bk w0 bq 80 #[.slice A1 n1 c1,.slice A2 n2 c2,.int .i64 bg,.int .i64 win,.string KEY,.int .i64 ka]/\Bk w0 br 25 #[.int .i64 0,.slice none 0 0,.slice none 0 0]/\Below w.heap.size w w0):=zH ⟨QH,kQ0,kP,hB0⟩;have HB0:=zH hb0;have y0:=QH.cell 0;have y1:=QH.cell 1;simp only[List.getElem?_toArray,List.getElem?_cons_zero,List.getElem?_cons_succ]at y0 y1;clear kS hbS Xi kQ hbQ hwQ kP QG hw0 hB0 QH kQ0 hl1 hl2 hl3 hsz1 hsz0 hb0 hbq hbr hkS;go_wp2_with fail
 refine(HCK.out _ HW0.out.2.2.2).mono ?_;rintro r w1 ⟨rfl,hb1⟩;have HW1:Hid (Bk w1 b0 61 #[.slice s.ta s.types.length s.tc,.slice s.sa s.syms.length s.sc]/\Bk w1 bq 80 #[.slice A1 n1 c1,.slice A2 n2 c2,.int .i64 bg,.int .i64 win,.string KEY,.int .i64 ka]/\Bk w1 br 25 #[.int .i64 0,.slice none 0 0,.slice none 0 0]/\Below w.heap.size w w1):=zH ⟨HW0.out.1.old hb1,HW0.out.2.1.old hb1,HW0.out.2.2.1.old hb1,HW0.out.2.2.2.trans (hb1.mono HW0.out.2.2.2.size)⟩;clear hb1 HW0 HCK y0 y1
 by_cases hce:ce=0
 case neg=>
  as_aux_lemma=>
  have cI:(ce !=0)=true:=by rw[bne_iff_ne];exact hce
  have hR:mJ s q=(uS,0,ce):=by unfold mJ;rw[HCE.out,if_pos hce]
  have hR2:=aK.out;rw[hR]at hR2;injection hR2 with h1 h2
  injection h2 with h2 h3
  subst h1;subst h2;subst h3;have kr:=HW1.out.2.2.1;clear hR aK hce AA;go_wp2_with (first|(refine ae jo rfl _ _ rfl rfl [.int .i64 0,.slice none 0 0,.slice none 0 0] rfl kr rfl rfl rfl ?_;intro w9 p9))
  obtain⟨u0,u1,u2⟩:=zc3 p9.bk;refine bodyPost_ret (v:=.tuple #[.agg #[.int .i64 0,.slice none 0 0,.slice none 0 0],.int .i64 0,.int .i64 ce]) (by simp[results,Try.results34,go_sem,u0,u1,u2]) rfl ?_;exact⟨_,rfl,ig.zero _ _ _,p9.below _ _ HW1.out.2.2.2 Xj⟩
 case pos=>
 have cI:(ce !=0)=false:=by rw[bne_eq_false_iff_eq];exact hce
 obtain⟨z0,z1,z2,z3,z4,z5⟩:=zc6 HW1.out.2.1;simp only[List.getElem?_toArray,List.getElem?_cons_zero,List.getElem?_cons_succ]at z0 z1 z2 z3 z4 z5;go_wp2_with fail
 refine(AA.out _ HW1.out.2.2.2).mono ?_;rintro r w2 ⟨S,rfl,hb2⟩;have HW2:Hid (Bk w2 b0 61 #[.slice s.ta s.types.length s.tc,.slice s.sa s.syms.length s.sc]/\Bk w2 bq 80 #[.slice A1 n1 c1,.slice A2 n2 c2,.int .i64 bg,.int .i64 win,.string KEY,.int .i64 ka]/\Bk w2 br 25 #[.int .i64 0,.slice none 0 0,.slice none 0 0]/\Below w.heap.size w w2):=zH ⟨HW1.out.1.old hb2,HW1.out.2.1.old hb2,HW1.out.2.2.1.old hb2,HW1.out.2.2.2.trans (hb2.mono HW1.out.2.2.2.size)⟩;have Tf:=hb2.size;clear hb2 HW1 AA z0 z1 z2 z3 z4 z5 cI
 by_cases hpe:pe=0
 case neg=>
  as_aux_lemma=>
  have cI:((pe:Int) !=0)=true:=by rw[bne_iff_ne];omega
  have hR:mJ s q=(uS,0,(pe:Int)):=by
   unfold mJ;rw[HCE.out,if_neg (by simp[hce]),HPE.out,if_pos hpe]
  have hR2:=aK.out;rw[hR]at hR2;injection hR2 with h1 h2
  injection h2 with h2 h3
  subst h1;subst h2;subst h3;have kr:=HW2.out.2.2.1;clear hR aK hce hpe;go_wp2_with (first|(refine ae jo rfl _ _ rfl rfl [.int .i64 0,.slice none 0 0,.slice none 0 0] rfl kr rfl rfl rfl ?_;intro w9 p9))
  obtain⟨u0,u1,u2⟩:=zc3 p9.bk;refine bodyPost_ret (v:=.tuple #[.agg #[.int .i64 0,.slice none 0 0,.slice none 0 0],.int .i64 0,.int .i64 pe]) (by simp[results,Try.results34,go_sem,u0,u1,u2]) rfl ?_;exact⟨_,rfl,ig.zero _ _ _,p9.below _ _ HW2.out.2.2.2 Xj⟩
 case pos=>
 have cI:((pe:Int) !=0)=false:=by rw[bne_eq_false_iff_eq];omega
 have hpz:=IY (HPE.out.trans hpe);have HPZ:=zH hpz;have OU:=zH (RU.out hpz.1);obtain⟨⟨MB,M1⟩,hr1⟩:∃z,mZ s q.window 0 q.branches [] ms0=z:=⟨_,rfl⟩
 obtain⟨⟨KS,M2⟩,hr2⟩:∃z,keysT s q.key q.keyAt M1=z:=⟨_,rfl⟩
 obtain⟨⟨Ye,M3⟩,hr3⟩:∃z,ni s q.cond MB M2=z:=⟨_,rfl⟩
 have hR:(if M3.err≠0 then(uS,M3.pos,(M3.err:Int))else(⟨q.aS,KS,Ye⟩,0,0))=(PT,AT,ER):=by
  have h1:=aK.out;unfold mJ at h1;rw[HCE.out,if_neg (by simp[hce]),HPE.out,if_neg (by simp[hpe]),hr1]at h1;simp only[]at h1;rw[hr2]at h1;simp only[]at h1;rw[hr3]at h1;exact h1
 have hsp:=CQ s q.window q.branches 0 [] ms0 rfl (fun y hy=>absurd hy (by simp[ms0])) (fun b hb=>absurd hb (by simp)) OU.out.2.2.2.2.2.1;rw[hr1]at hsp;have JK:=zH hsp;have HR1:=zH hr1;have HR2:=zH hr2;have HR3:=zH hr3;have HRR:=zH hR;have y0:=HW2.out.1.cell 0;have y1:=HW2.out.1.cell 1;have z2:=HW2.out.2.1.cell 2;simp only[List.getElem?_toArray,List.getElem?_cons_zero,List.getElem?_cons_succ]at y0 y1 z2;clear hpz hr1 hr2 hr3 hR hsp hce hpe aK;go_upto_region 8 with fail
 have kb:=Bk.new w2 111 #[.slice s.ta s.types.length s.tc,.slice s.sa s.syms.length s.sc,.slice none 0 0,.int .i64 0,.int .i64 0];have hb3:Below w2.heap.size w2 (w2.alloc (.cells #[.slice s.ta s.types.length s.tc,.slice s.sa s.syms.length s.sc,.slice none 0 0,.int .i64 0,.int .i64 0] 111)):=zR.alloc zL _;obtain⟨wb,hwb⟩:∃z,w2.alloc (.cells #[.slice s.ta s.types.length s.tc,.slice s.sa s.syms.length s.sc,.slice none 0 0,.int .i64 0,.int .i64 0] 111)=z:=⟨_,rfl⟩
 rw[hwb]at kb hb3⊢;have hszb:wb.heap.size=w2.heap.size+1:=by rw[<-hwb];simp
 have z2b:=zE hb3 z2;clear z2 hwb y0 y1 cI;go_upto_region 9 with fail
 have kp:=Bk.new wb 25 #[.int .i64 bg,.slice none 0 0,.slice none 0 0];have hb4:Below wb.heap.size wb (wb.alloc (.cells #[.int .i64 bg,.slice none 0 0,.slice none 0 0] 25)):=zR.alloc zL _;obtain⟨w3,hw3⟩:∃z,wb.alloc (.cells #[.int .i64 bg,.slice none 0 0,.slice none 0 0] 25)=z:=⟨_,rfl⟩
 rw[hw3]at kp hb4⊢;have hbb:Below w2.heap.size w2 w3:=hb3.trans (hb4.mono hb3.size);have LY:=kb.old hb4;rw[hszb]at kp;obtain⟨gp,yG⟩:∃z,w2.heap.size+1=z:=⟨_,rfl⟩
 rw[yG]at kp⊢;obtain⟨b,hbe⟩:∃z,w2.heap.size=z:=⟨_,rfl⟩
 have hbw:w.heap.size<=b:=by have:=HW2.out.2.2.2.size;omega
 have hbg:b<gp:=by omega
 have hgp3:gp<w3.heap.size:=by have:=kp.lt;omega
 have hbw3:b<w3.heap.size:=by omega
 have hbrb:br<b:=by have:=HW2.out.2.2.1.lt;omega
 rw[hbe]at LY⊢;obtain⟨B1,hB1⟩:∃z,w3.heap.size=z:=⟨_,rfl⟩
 have hst3:ja b B1 s (.slice none 0 0) ms0 w3:=⟨LY,(HS.out.iZ (HW2.out.2.2.2.trans (hbb.mono HW2.out.2.2.2.size))).more hbw,World.ownsRow_nil _ _ _ _⟩
 have mX:Hid (SV b B1 gp bq br D s (.slice none 0 0) ms0 bg (.slice none 0 0) (.slice none 0 0) [] #[.slice A1 n1 c1,.slice A2 n2 c2,.int .i64 bg,.int .i64 win,.string KEY,.int .i64 ka] w w3/\∀z∈dR [],z.2=[]):=zH ⟨⟨hst3,jX.nil _ _ _,kp,HW2.out.2.1.old hbb,HW2.out.2.2.1.old hbb,HW2.out.2.2.2.trans (hbb.mono HW2.out.2.2.2.size)⟩,fun z hz=>absurd hz (by simp[dR])⟩;have HB1:=zH hB1;have hb1:b<B1:=by omega
 have hg1:gp<B1:=by omega
 have hgb:gp≠b:=by omega
 clear kb hb3 hszb hb4 hbb kp LY hw3 hbe yG hst3 Tf z2b HW2 hB1;have x0:=mX.out.1.kq.cell 0;simp only[List.getElem?_toArray,List.getElem?_cons_zero]at x0;have H1:Hid (mZ s q.window 0 (q.branches.drop 0) (([]:List fB).map (lU D)) ms0=(MB,M1)):=zH (by rw[List.drop_zero];exact HR1.out);have hn1m:=GY.out.1;have hw1e:B1<=w3.heap.size:=by rw[HB1.out];exact Nat.le_refl _
 go_wp2_with fail
 clear x0
 go_loopw[39] (fun i wr=>∃(k:Nat) (iv:Value) (m:MS) (A:Option Addr) (c:Nat) (bs:List fB),k<=n1/\i=.int .i64 k/\Hid (bs.length=k/\mZ s q.window k (q.branches.drop k) (bs.map (lU D)) m=(MB,M1)/\m.items.length<=8*k)/\Hid (SV b B1 gp bq br D s iv m bg (.slice none 0 0) (.slice A k c) bs #[.slice A1 n1 c1,.slice A2 n2 c2,.int .i64 bg,.int .i64 win,.string KEY,.int .i64 ka] w wr/\(∀z∈dR bs,z.2=[])/\B1<=wr.heap.size)) (fun i _=>n1-(intOf i).toNat)
 case atStart=>exact⟨0,.slice none 0 0,ms0,none,0,[],Nat.zero_le _,rfl,zH ⟨rfl,H1.out,by simp[ms0]⟩,zH ⟨mX.out.1,mX.out.2,hw1e⟩⟩
 case round=>
  clear H1 mX hw1e;obtain⟨k,iv,m,A,c,bs,hk,rfl,HR,HV⟩:=hrel;obtain⟨W,rfl⟩:∃W:World,W=wr:=⟨_,rfl⟩
  by_cases hlt:k<n1
  ·as_aux_lemma=>
   have hkl:k<q.branches.length:=by rw[<-Z4.out];exact hlt
   obtain⟨g,o,A',c',rfl,hg,hcell,hrd⟩:=QZ.out.get k hkl;have PD:=HPZ.out.2.2.2 _ (List.getElem_mem hkl);have hr:=HR.out.2.1;rw[List.drop_eq_getElem_cons hkl]at hr;obtain⟨l,hl⟩:∃z,q.branches[k]=z:=⟨_,rfl⟩
   rw[hl]at hcell hrd hr PD;obtain⟨⟨PS,MF⟩,hbf⟩:∃z,Ci s k l 0 0 [] m=z:=⟨_,rfl⟩
   have hspec:=zZ s k l 0 0 [] m;rw[hbf]at hspec;have hr2:mZ s q.window (k+1) (q.branches.drop (k+1)) (bs.map (lU D)++[⟨k,q.window,(Ci s k l 0 0 [] m).1.map prT⟩]) (Ci s k l 0 0 [] m).2=(MB,M1):=hr;rw[hbf,HQ.out.2.1]at hr2;have hml:=HR.out.2.2;have hk4:k<4:=by have:=HPZ.out.2.1;omega
   have uP:=zH (And.intro hr2 hspec);have HL8:=zH PD;obtain⟨NL,hnl⟩:∃z,l.length=z:=⟨_,rfl⟩
   rw[hnl]at hcell;have hBW:=HV.out.2.2
   have HBC : Hid (∀ wr, Below W.heap.size W wr → Calls Try.prog 46 #[.pointer (some ⟨b, 0, none⟩), .int .i64 k, .slice A' NL c', .int .i64 win] wr fun r w' =>
     ∃(A:Option Addr) (n c:Nat) (nR:Value),r=.returned (.agg #[.int .i64 k,.int .i64 win,.slice A n c])/\n=PS.length/\w'.ownsRow wr.heap.size 31 4 (.slice A n c) n (PS.flatMap Wj)/\ja b B1 s nR MF w'/\tN b iv.ownBlock wr w'/\(nR.ownBlock=iv.ownBlock\/∀k,nR.ownBlock=some k->wr.heap.size<=k)):=zH fun wr hB=>by
    have hm:=HV.out.1.st.old hB
    have h1:=FW b B1 s iv m k (win:Int) l A' c' wr hm hb1 (by have:=hB.size;omega) (by omega) (fun j hj=>by
     obtain⟨g',o',hA',hg',hc'⟩:=hrd.elem (n:=4) zS (by omega) hj;have hbel:=HV.out.1.bel.trans (hB.mono HV.out.1.bel.size);refine⟨g',o',hA',by have:=hbel.size;omega,by omega,fun e=>?_,fun q u hu=>?_⟩
     ·have:=(hm.own.lt g' e.symm).1;omega
     ·have h2:=hc' q u hu;rw[Nat.add_assoc]at h2
      exact(aU hbel g' _ hg').trans h2)
    rw[hnl,hbf]at h1;exact h1
   have e1:W.cell? ⟨g,o+k,none⟩=some (.slice A' NL c'):=(aU HV.out.1.bel g _ hg).trans hcell;have y0:W.cell? ⟨bq,0,none⟩=some (.slice (some ⟨g,o,none⟩) n1 c1):=HV.out.1.kq.cell 0;have y3:W.cell? ⟨bq,3,none⟩=some (.int .i64 win):=HV.out.1.kq.cell 3;have p2:W.cell? ⟨gp,2,none⟩=some (.slice A k c):=HV.out.1.kp.cell 2;obtain⟨wz,hwz⟩:∃z,W.heap.size=z:=⟨_,rfl⟩
   have Xk:Hid (some gp≠iv.ownBlock):=zH (aF HV.out.1.st.own HV.out.1.kp (by decide));have hgpW:=HV.out.1.kp.lt;have HP2:=zH p2;clear hcell hrd hr hr2 hl hbf hspec hg hnl hml PD;go_upto_region 12 with fail
   refine Gp 9 7 (fun w=>tN b iv.ownBlock W w) (by decide) (by kernel_rfl) (fun qk=>(Td b B1 gp bq k win c c' NL wz A A' s iv MF PS).getD qk .any) (by kernel_rfl) ?_ ?_
   ·refine jH.pure rfl [] [11] rfl rfl (by kernel_rfl) (by kernel_rfl) (.pointer (some ⟨gp,2,none⟩)) rfl (fun qK qa wr qO qF hK=>?_) ?_
    ·have e11:qa.tmps[11]? =some (.pointer (some ⟨gp,0,none⟩)):=qO.1.trans rfl;clear qO qF;go_simp;exact hK
    refine jH.read (sZ b iv.ownBlock W) rfl [0] [] rfl rfl (by kernel_rfl) (by kernel_rfl) (.slice A k c) rfl (fun qK qa wr hG qO qF hK=>?_) ?_
    ·have e44:=jC qF.1 rfl rfl;clear qO qF;have hp2:wr.cell? ⟨gp,2,none⟩=some (.slice A k c):=(World.cell?_of_block (w:=W) (hG.block gp hgpW hgb Xk.out)).trans HP2.out;clear hG;go_simp;exact hK
    refine jH.cons (sZ b iv.ownBlock W) rfl [] [10] rfl _ rfl (by kernel_rfl) rfl (by kernel_rfl) (by kernel_rfl) (fun qK qa wr hB qO qF hK=>?_) ?_
    ·have e10:qa.tmps[10]? =some (.pointer (some ⟨b,0,none⟩)):=qO.1.trans rfl;clear qO qF;go_simp;exact hK _ _ zR rfl
    refine jH.cons (sZ b iv.ownBlock W) rfl [] [12] rfl _ rfl (by kernel_rfl) rfl (by kernel_rfl) (by kernel_rfl) (fun qK qa wr hB qO qF hK=>?_) ?_
    ·have e12:qa.tmps[12]? =some (.int .i64 (k:Nat)):=qO.1.trans rfl;clear qO qF;go_simp;exact hK _ _ zR rfl
    refine jH.cons (sZ b iv.ownBlock W) rfl [] [13] rfl _ rfl (by kernel_rfl) rfl (by kernel_rfl) (by kernel_rfl) (fun qK qa wr hB qO qF hK=>?_) ?_
    ·have e13:qa.tmps[13]? =some (.slice A' NL c'):=qO.1.trans rfl;clear qO qF;go_simp;exact hK _ _ zR rfl
    refine jH.cons (sZ b iv.ownBlock W) rfl [] [3] rfl _ rfl (by kernel_rfl) rfl (by kernel_rfl) (by kernel_rfl) (fun qK qa wr hB qO qF hK=>?_) ?_
    ·have e3:qa.tmps[3]? =some (.pointer (some ⟨bq,0,none⟩)):=qO.1.trans rfl;clear qO qF;go_simp;exact hK _ _ zR rfl
    refine jH.cons (sZ b iv.ownBlock W) rfl [5] [] rfl _ rfl (by kernel_rfl) rfl (by kernel_rfl) (by kernel_rfl) (fun qK qa wr hB qO qF hK=>?_) ?_
    ·have e49:=aH qF.1 rfl rfl;clear qO qF;have hy3:=zE hB y3;go_simp;exact hK _ _ zR rfl
    refine jH.app rfl [2,3,4,6] [] rfl (by kernel_rfl) (by kernel_rfl) (fun qK qa wr hB qO qF hK=>?_) ?_
    ·have e46:=aH qF.1 rfl rfl;have e47:=aH qF.2.1 rfl rfl;have e48:=aH qF.2.2.1 rfl rfl;have e50:=aH qF.2.2.2.1 rfl rfl;clear qO qF;go_simp
     go_at_call 46
     refine(HBC.out wr hB).mono ?_;rintro r w9 ⟨An,nn,cn,Gq,rfl,hln,bD,hst9,hch9,hiv9⟩;exact hK _ _ ((tN.below hB).trans hch9) hch9.size ⟨An,nn,cn,Gq,rfl,⟨hln,dF bD (by have:=hB.size;omega),hst9,hiv9.imp id fun h k hk=>Nat.le_trans (by have:=hB.size;omega) (h k hk)⟩⟩
    refine jH.post (sZ b iv.ownBlock W) rfl [7] [] rfl (by kernel_rfl) rfl (by kernel_rfl) (by kernel_rfl) (fun qK qa wr hG qO qF hK=>?_) ?_
    ·obtain⟨u51,e51,q7⟩:=qF.1;have r7:(fun v w=>∃(A:Option Addr) (n c:Nat) (Gq:Value),v=.agg #[.int .i64 (k:Nat),.int .i64 (win:Nat),.slice A n c]/\Xh b B1 s iv MF wz PS A n c Gq w) u51 wr:=iD q7 rfl;obtain⟨An,nn,cn,Gq,q7v,kR⟩:=r7;subst q7v;have e51:qa.tmps[51]? =some (.agg #[.int .i64 (k:Nat),.int .i64 (win:Nat),.slice An nn cn]):=e51;clear qO qF;go_simp;exact hK _ _ (zR.alloc zL _) ⟨_,_,_,_,_,rfl,Bk.new _ _ _,kR.old (zR.alloc zL _)⟩
    exact(jH.nil)
   intro vals wr hl hG hR
   match vals,hl with
   |[z44,z45,z46,z47,z48,z49,z50,z51,z52],_=>
   have r1:z45=.slice A k c:=hR 1 _ rfl;subst r1;have r8:(fun v w=>∃(g:Nat) (A:Option Addr) (n c:Nat) (Gq:Value),v=.slice (some ⟨g,0,none⟩) 1 1/\Bk w g 28 #[.int .i64 (k:Nat),.int .i64 (win:Nat),.slice A n c]/\Xh b B1 s iv MF wz PS A n c Gq w) z52 wr:=iD (hR 8 _ rfl) rfl;clear hR;simp only[List.take_succ_cons,List.take_zero,List.drop_succ_cons,List.drop_zero,List.toList_toArray,List.cons_append,List.nil_append,aN,Act.put,List.setIfInBounds_toArray,List.set_cons_zero,List.set_cons_succ];obtain⟨g8,An,nn,cn,Gq,rfl,k8,kR⟩:=r8;have hGc:=hG;have hpl:=HV.out.1.pl.chg HV.out.1.st hGc hb1 HV.out.2.1;have bD:=hpl.dC;have hbn:=HR.out.1;rw[hbn]at bD;have hkp9:Bk wr gp 25 #[.int .i64 bg,.slice none 0 0,.slice A k c]:=(hGc.block gp HV.out.1.kp.lt hgb Xk.out).trans HV.out.1.kp;obtain⟨iB,hB0',hB1',hB2',hB3'⟩:=info_parts Py;have IZ:=zH (And.intro hGc (And.intro hpl (And.intro hkp9 (And.intro kR bD))));have kK:B1<=wr.heap.size:=by have:=hGc.size;omega
   have hrd8:=Rd.bk k8 (Nat.lt_succ_self _);clear hGc hpl hkp9 kR hG e1 y0 y3 p2;go_wp2_with (first|at_builtin;(refine az (by rfl) _ _ 23 (by rfl) B1 28 iB _ 3 40 Try.underlying23 hB0' hB1' hB2' hB3' rfl (by decide) (.slice A k c) k _ (by rfl) bD (g8+1) (some ⟨g8,0,none⟩) 1 1 _ (by rfl) hrd8 (by rfl) ?c2 ?c3 ?c4 kK ?_))
   case c2=>first|exact⟨rfl,rfl,rfl⟩|(intro u hu;simp at hu;rcases hu with rfl|rfl|rfl<;>rfl)
   case c3=>unfold maxLen;omega
   case c4=>omega
   intro A6 c6 w6 hown6 iy _;have Xl:=IZ.out.2.2.1;have hneP:some gp≠(Value.slice A k c).ownBlock:=aF bD Xl (by decide);have kp6:=Xl.grown iy hneP;have f6:=kp6.frozen 2;have c6':w6.cell? ⟨gp,2,none⟩=some (.slice A k c):=kp6.cell 2;have Uz:=zH (And.intro hown6 iy);have HK6:=zH kp6;clear hown6 iy kp6 Xl hneP hrd8 k8;have uk:=(IZ.out.2.2.2.1.st.zAf bD (by decide) hb1 Uz.out.2).Po HK6.out (by omega) (by decide) 2 (.slice A6 (k+1) c6)
   have hsn:=jX.snoc (x:=Pq k win (.slice An nn cn) PS) (v':=.slice A6 (k+1) c6) IZ.out.2.1 HR.out.1 HV.out.2.1 (wz:=wz) (by
    show wr.ownsRow wz 31 4 (.slice An nn cn) (PS.map _).length ((PS.map _).flatMap bW.cells)
    rw[Lr,List.length_map,<-IZ.out.2.2.2.1.ln]
    exact IZ.out.2.2.2.1.own) (by omega) (fun y hy k' hk'=>by rw[<-hwz];exact((HV.out.1.pl.prt y hy).lt k' hk').2) (Pv _ _ _ _) Uz.out.1 Uz.out.2
   have hpl6:jX B1 D (.slice A6 (k+1) c6) (bs++[Pq k win (.slice An nn cn) PS]) (w6.setCell ⟨gp,2,none⟩ (.slice A6 (k+1) c6)):=hsn.1.grown (aY (World.grownBy.refl _ _)) hg1
   have PE:Bk (w6.setCell ⟨gp,2,none⟩ (.slice A6 (k+1) c6)) bq 80 #[.slice (some ⟨g,o,none⟩) n1 c1,.slice A2 n2 c2,.int .i64 bg,.int .i64 win,.string KEY,.int .i64 ka]:=
    ((show Bk wr bq _ _ from(IZ.out.1.block bq HV.out.1.kq.lt (by omega) (aF HV.out.1.st.own HV.out.1.kq (by decide))).trans HV.out.1.kq).grown Uz.out.2 (aF bD (show Bk wr bq _ _ from(IZ.out.1.block bq HV.out.1.kq.lt (by omega) (aF HV.out.1.st.own HV.out.1.kq (by decide))).trans HV.out.1.kq) (by decide))).far (by show bq≠gp;omega) _
   have PG:Bk (w6.setCell ⟨gp,2,none⟩ (.slice A6 (k+1) c6)) br 25 #[.int .i64 0,.slice none 0 0,.slice none 0 0]:=
    ((show Bk wr br _ _ from(IZ.out.1.block br HV.out.1.kr.lt (by omega) (aF HV.out.1.st.own HV.out.1.kr (by decide))).trans HV.out.1.kr).grown Uz.out.2 (aF bD (show Bk wr br _ _ from(IZ.out.1.block br HV.out.1.kr.lt (by omega) (aF HV.out.1.st.own HV.out.1.kr (by decide))).trans HV.out.1.kr) (by decide))).far (by show br≠gp;omega) _
   have oO:Below w.heap.size w (w6.setCell ⟨gp,2,none⟩ (.slice A6 (k+1) c6)):=by
    have hb:=HV.out.1.bel;have h1:Below w.heap.size w wr:=⟨IZ.out.1.os.trans hb.os,IZ.out.1.tape.trans hb.tape,IZ.out.1.output.trans hb.output,Nat.le_trans hb.size IZ.out.1.size,fun q hq=>(IZ.out.1.block q (by have:=hb.size;omega) (by omega) (fun e=>by have:=(HV.out.1.st.own.lt q e.symm).1;omega)).trans (hb.block q hq)⟩
    exact(gU h1 bD (by omega) Uz.out.2 (by have:=h1.size;omega)).setCell (by show w.heap.size<=gp;omega) _
   have dS:Hid (SV b B1 gp bq br D s Gq MF bg (.slice none 0 0) (.slice A6 (k+1) c6) (bs++[Pq k win (.slice An nn cn) PS]) #[.slice (some ⟨g,o,none⟩) n1 c1,.slice A2 n2 c2,.int .i64 bg,.int .i64 win,.string KEY,.int .i64 ka] w (w6.setCell ⟨gp,2,none⟩ (.slice A6 (k+1) c6))/\(∀z∈dR (bs++[Pq k win (.slice An nn cn) PS]),z.2=[])/\B1<=(w6.setCell ⟨gp,2,none⟩ (.slice A6 (k+1) c6)).heap.size):=zH
    ⟨⟨uk,hpl6,HK6.out.put 2 _,PE,PG,oO⟩,hsn.2,by have:=Uz.out.2.size;simp;omega⟩
   have Xm:Hid ((bs++[Pq k win (.slice An nn cn) PS]).length=k+1/\mZ s q.window (k+1) (q.branches.drop (k+1)) ((bs++[Pq k win (.slice An nn cn) PS]).map (lU D)) MF=(MB,M1)/\MF.items.length<=8*(k+1)):=zH
    ⟨by simp[HR.out.1],by rw[List.map_append,List.map_cons,List.map_nil,Px,HQ.out.2.1];exact uP.out.1,by
     have h1:=uP.out.2.2.1;have h2:=HR.out.2.2;have h3:=HL8.out
     omega⟩
   clear uk hsn hpl6 PE PG oO Uz HK6 IZ bD kK HV HR uP HBC Xk HP2 hbn;go_wp2
   go_roundw
   case rel=>exact⟨k+1,Gq,MF,A6,c6,bs++[Pq k win (.slice An nn cn) PS],by omega,by go_num,Xm,dS⟩
   case measure=>simp[intOf];omega
  ·as_aux_lemma=>
   obtain rfl:k=n1:=by omega
   have hr:=HR.out.2.1;rw[List.drop_eq_nil_of_le (by rw[<-Z4.out];exact Nat.le_refl _)]at hr;have hr:(bs.map (lU D),m)=(MB,M1):=hr;injection hr with hp1 hm1
   have hmi:=HR.out.2.2;subst hm1;have rX:=zH hp1;have hbs:=HR.out.1;have HBS:=zH hbs
   have UA:0<m.items.length:=by
    have h1:=JK.out.2.2.1;have h2:=SX q.branches OU.out.2.2.2.2.2.2 OU.out.2.2.2.2.2.1;omega
   have hk4:k<=4:=by have:=HPZ.out.2.1;have:=Z4.out;omega
   have Uc:=zH (OH b B1 s iv m (.slice A1 k c1) (.slice A2 n2 c2) (.int .i64 bg) (.int .i64 win) KEY ka W HV.out.1.st hb1 (by omega) UA)
   have hkt:keysT s KEY.toList ka m=(KS,M2):=by
    rw[<-HR2.out,<-HQ.out.2.2.1,aJ,HQ.out.2.2.2]
   rw[hkt]at Uc;simp only[]at Uc;obtain⟨z0,z1,z2,z3,z4,z5⟩:=zc6 HV.out.1.kq;simp only[List.getElem?_toArray,List.getElem?_cons_zero,List.getElem?_cons_succ]at z0 z1 z2 z3 z4 z5;have HMI:=zH hmi;clear hr hp1 hbs UA hkt HR hmi hlt hk;go_upto_region 14 with fail
   go_wp2_with fail
   refine Uc.out.mono ?_;rintro r w4 ⟨Ak,nk,ck,rfl,hnk,hown4,hs4⟩;have Ti:=HV.out.1.kp.grown hs4.grown (aC hgb);have f4:=Ti.frozen 1;have c4':w4.cell? ⟨gp,1,none⟩=some (.slice none 0 0):=Ti.cell 1;have IE:=zH (And.intro hs4 (And.intro hown4 (And.intro Ti hnk)));clear hs4 hown4 Ti hnk Uc z0 z1 z2 z3 z4 z5;have hst5:=IE.out.1.st.Po IE.out.2.2.1 hbg (by decide) 1 (.slice Ak nk ck);have hpl5:jX B1 D (.slice A k c) bs (w4.setCell ⟨gp,1,none⟩ (.slice Ak nk ck)):=(HV.out.1.pl.grown IE.out.1.grown hb1).grown (aY (World.grownBy.refl _ _)) hg1;have hkq5:=(HV.out.1.kq.grown IE.out.1.grown (aC (show bq≠b by omega))).far (p:=⟨gp,1,none⟩) (by show bq≠gp;omega) (.slice Ak nk ck);have hkr5:=(HV.out.1.kr.grown IE.out.1.grown (aC (show br≠b by omega))).far (p:=⟨gp,1,none⟩) (by show br≠gp;omega) (.slice Ak nk ck);have xg:Below w.heap.size w (w4.setCell ⟨gp,1,none⟩ (.slice Ak nk ck)):=(HV.out.1.bel.grown IE.out.1.grown HV.out.1.bel.size (fun k hk=>by injection hk with hk;omega)).setCell (by show w.heap.size<=gp;omega) _;have hkv5:=mg (dF IE.out.2.1 HV.out.2.2) IE.out.2.2.1 (by decide) 1 (.slice Ak nk ck)
   have HV5:Hid (SV b B1 gp bq br D s iv M2 bg (.slice Ak nk ck) (.slice A k c) bs #[.slice A1 k c1,.slice A2 n2 c2,.int .i64 bg,.int .i64 win,.string KEY,.int .i64 ka] w (w4.setCell ⟨gp,1,none⟩ (.slice Ak nk ck))/\(w4.setCell ⟨gp,1,none⟩ (.slice Ak nk ck)).ownsRow B1 3 1 (.slice Ak nk ck) nk (aI KS)/\B1<=(w4.setCell ⟨gp,1,none⟩ (.slice Ak nk ck)).heap.size):=zH
    ⟨⟨hst5,hpl5,IE.out.2.2.1.put 1 _,hkq5,hkr5,xg⟩,hkv5,by have:=IE.out.1.grown.size;have:=HV.out.2.2;simp;omega⟩
   have HNK:Hid (nk=KS.length):=zH IE.out.2.2.2
   have hMi:M2.items=m.items:=by
    have:=Gn s q.key q.keyAt m;rw[HR2.out]at this;exact this
   have hrl0:jS MB 0:=fun b hb p hp=>by
    have:=(JK.out.2.2.2 b hb).2 p hp;rw[this.1,this.2];exact⟨Nat.le_refl _,Nat.le_refl _⟩
   have HL0:Hid (ni s (q.cond.drop 0) (bs.map (lU D)) M2=(Ye,M3)/\M2.items=m.items/\AO (bs.map (lU D))=AO MB/\jS (bs.map (lU D)) 0):=zH ⟨by rw[List.drop_zero,rX.out];exact HR3.out,hMi,by rw[rX.out],by rw[rX.out];exact hrl0⟩;have x1:=HV5.out.1.kq.cell 1;simp only[List.getElem?_toArray,List.getElem?_cons_zero,List.getElem?_cons_succ]at x1
   have hn200:n2<=200:=by
    have h1:=CS q.cond 0;have h2:iw q=aX 0 q.cond:=rfl;have:=HPZ.out.2.2.1;have:=HLW.out;omega
   clear hst5 hpl5 hkq5 hkr5 xg hkv5 hMi hrl0 IE HV;go_wp2_with fail
   clear x1 f4 c4'
   go_loopw[63] (fun i wr=>∃(t:Nat) (m':MS) (bs':List fB),t<=n2/\i=.int .i64 t/\Hid (ni s (q.cond.drop t) (bs'.map (lU D)) m'=(Ye,M3)/\m'.items=m.items/\AO (bs'.map (lU D))=AO MB/\jS (bs'.map (lU D)) t)/\Hid (SV b B1 gp bq br D s iv m' bg (.slice Ak nk ck) (.slice A k c) bs' #[.slice A1 k c1,.slice A2 n2 c2,.int .i64 bg,.int .i64 win,.string KEY,.int .i64 ka] w wr/\wr.ownsRow B1 3 1 (.slice Ak nk ck) nk (aI KS)/\B1<=wr.heap.size)) (fun i _=>n2-(intOf i).toNat)
   case atStart=>exact⟨0,M2,bs,Nat.zero_le _,rfl,HL0,HV5⟩
   case round=>
    clear HL0 HV5;obtain⟨t,m',bs',ht,rfl,HR,HV⟩:=hrel;obtain⟨W,rfl⟩:∃W:World,W=wr:=⟨_,rfl⟩
    by_cases hlt:t<n2
    ·as_aux_lemma=>
     have hkl:t<q.cond.length:=by rw[<-HLW.out];exact hlt
     obtain⟨g,o,y0,y1,y2,y3,y4,y5,y6,rfl,hg,hok,hc⟩:=WT.out.get t hkl;have hmem:=List.getElem_mem hkl;have hr:=HR.out.1;rw[List.drop_eq_getElem_cons hkl]at hr;have hnd:=sW q.cond 0 _ hmem;have hrt:=OU.out.2.1 _ hmem;have hbd:=vJ.out _ hmem;obtain⟨e,he⟩:∃z,q.cond[t]=z:=⟨_,rfl⟩
     rw[he]at hok hr hnd hrt hbd;have hr2:ni s (q.cond.drop (t+1)) (mG s e (bs'.map (lU D)) m').1 (mG s e (bs'.map (lU D)) m').2=(Ye,M3):=hr;have hnd2:aG e<=200:=by have h2:iw q=aX 0 q.cond:=rfl;have:=HPZ.out.2.2.1;omega
     have hokW:kN (fun g=>g<B1/\g≠b) W e [y0,y1,y2,y3,y4,y5,y6]:=hok.keep fun g' hP hlt'=>⟨⟨by omega,by omega⟩,HV.out.1.bel.block g' hlt'⟩
     have hinP:∀y∈m'.items,InT (bs'.map (lU D)) y:=fun y hy=>by
      rw[HR.out.2.1]at hy;exact(JK.out.2.1 y hy).sh HR.out.2.2.1
     have hin0:InT (bs'.map (lU D)) Ig:=by
      have hl:0<MB.length:=by rw[JK.out.1,Nat.zero_add];exact OU.out.2.2.2.2.2.2
      exact InT.sh HR.out.2.2.1 ⟨MB[0],List.getElem?_eq_getElem hl,(JK.out.2.2.2 _ (List.getElem_mem hl)).1⟩
     have hsz:m'.items.length<=1000:=by rw[HR.out.2.1];have:=HMI.out;omega
     have hCD:=Lm b B1 B1 D gp s iv m' (bg:Int) (.slice Ak nk ck) (.slice A k c) bs' (bs'.map (lU D)) e [y0,y1,y2,y3,y4,y5,y6] W HV.out.1.st hb1 hb1 hg1 HV.out.2.2 HV.out.1.pl HV.out.1.kp hokW rfl hsz (qY e hrt hbd) (qZ e hrt) (by omega) (by have:=rq e;omega) hinP hin0 (SY HR.out.2.2.1 fun b hb=>(JK.out.2.2.2 b hb).1) (fun b hb p hp=>by have:=HR.out.2.2.2 b hb p hp;exact⟨by omega,by omega⟩);have hsp2:=IW s e (bs'.map (lU D)) m' t HR.out.2.2.2;obtain⟨⟨PTn,Mn⟩,hcf⟩:∃z,mG s e (bs'.map (lU D)) m'=z:=⟨_,rfl⟩
     rw[hcf]at hCD hr2 hsp2;simp only[]at hCD;have HCD:=zH hCD;have uP:=zH (And.intro hr2 hsp2)
     have hcc:∀(j:Nat) (u:Value),[y0,y1,y2,y3,y4,y5,y6][j]? =some u->W.cell? ⟨g,o+t*7+j,none⟩=some u:=fun j u hu=>by
      have h1:=hc j u hu;rw[<-Nat.add_assoc]at h1;exact(aU HV.out.1.bel g _ hg).trans h1
     have r0:W.cell? ⟨g,o+t*7,none⟩=some y0:=hcc 0 _ rfl;have r1:W.cell? ⟨g,o+t*7+1,none⟩=some y1:=hcc 1 _ rfl;have r2:W.cell? ⟨g,o+t*7+2,none⟩=some y2:=hcc 2 _ rfl;have r3:W.cell? ⟨g,o+t*7+3,none⟩=some y3:=hcc 3 _ rfl;have r4:W.cell? ⟨g,o+t*7+4,none⟩=some y4:=hcc 4 _ rfl;have r5:W.cell? ⟨g,o+t*7+5,none⟩=some y5:=hcc 5 _ rfl;have r6:W.cell? ⟨g,o+t*7+6,none⟩=some y6:=hcc 6 _ rfl;have x1:=HV.out.1.kq.cell 1;simp only[List.getElem?_toArray,List.getElem?_cons_zero,List.getElem?_cons_succ]at x1;clear hok hc hcc hr hnd hrt hbd he hr2 hnd2 hokW hinP hin0 hsz hCD hsp2 hcf hmem hg;go_wp2_with fail
     refine HCD.out.mono ?_;rintro r w6 ⟨rfl,O1,hcd⟩
     have oO:Below w.heap.size w w6:=by
      have hb:=HV.out.1.bel;exact⟨hcd.fr.os.trans hb.os,hcd.fr.tape.trans hb.tape,hcd.fr.output.trans hb.output,Nat.le_trans hb.size hcd.fr.size,fun q hq=>(hcd.fr.block q (by have:=hb.size;omega) (by omega) (HV.out.1.pl.low (by omega))).trans (hb.block q hq)⟩
     have PE:=(hcd.fr.block bq HV.out.1.kq.lt (by omega) (HV.out.1.pl.uK HV.out.1.kq (by decide) (by decide) (by decide))).trans HV.out.1.kq;have PG:=(hcd.fr.block br HV.out.1.kr.lt (by omega) (HV.out.1.pl.low (by omega))).trans HV.out.1.kr
     have hkv6:w6.ownsRow B1 3 1 (.slice Ak nk ck) nk (aI KS):=by
      refine⟨HV.out.2.1.1,?_⟩;rcases HV.out.2.1.2 with h0|⟨g',cap,cur,hv,hb0,hh,hx⟩
      ·exact .inl h0
      ·have hk':Bk W g' 3 cur:=hh;exact .inr ⟨g',cap,cur,hv,hb0,(hcd.fr.block g' hk'.lt (by omega) (HV.out.1.pl.uK hk' (by decide) (by decide) (by decide))).trans hh,hx⟩
     have dS:Hid (SV b B1 gp bq br D s iv Mn bg (.slice Ak nk ck) (.slice A k c) O1 #[.slice A1 k c1,.slice (some ⟨g,o,none⟩) n2 c2,.int .i64 bg,.int .i64 win,.string KEY,.int .i64 ka] w w6/\w6.ownsRow B1 3 1 (.slice Ak nk ck) nk (aI KS)/\B1<=w6.heap.size):=zH
      ⟨⟨hcd.st,hcd.pl,hcd.kp,PE,PG,oO⟩,hkv6,by have:=hcd.fr.size;have:=HV.out.2.2;omega⟩
     have Xm:Hid (ni s (q.cond.drop (t+1)) (O1.map (lU D)) Mn=(Ye,M3)/\Mn.items=m.items/\AO (O1.map (lU D))=AO MB/\jS (O1.map (lU D)) (t+1)):=zH (by
      rw[hcd.tr]
      exact⟨uP.out.1,uP.out.2.2.2.trans HR.out.2.1,uP.out.2.1.trans HR.out.2.2.1,uP.out.2.2.1⟩)
     clear hcd oO PE PG hkv6 uP HCD HV HR r0 r1 r2 r3 r4 r5 r6 x1;go_wp2
     go_roundw
     case rel=>exact⟨t+1,Mn,O1,by omega,by go_num,Xm,dS⟩
     case measure=>simp[intOf];omega
    ·as_aux_lemma=>
     obtain rfl:t=n2:=by omega
     have hr:=HR.out.1;rw[List.drop_eq_nil_of_le (by rw[<-HLW.out];exact Nat.le_refl _)]at hr;have hr:(bs'.map (lU D),m')=(Ye,M3):=hr;injection hr with hp3 hm3
     subst hm3;have HP3:=zH hp3;have e3:=HV.out.1.st.c3;clear hr hp3 HR hlt ht
     by_cases h0:m'.err=0
     case neg=>
      as_aux_lemma=>
      have iQ:((m'.err:Int) !=0)=true:=by rw[bne_iff_ne];omega
      have hR:=HRR.out;rw[if_pos h0]at hR;injection hR with h1 h2
      injection h2 with h2 h3
      subst h1;subst h2;subst h3;go_upto_region 21 with fail
      have c4:=HV.out.1.st.c4;have c3:=e3;have hs3:=HV.out.1.st;have k3:=HV.out.1.kr;have hbrne:br≠b:=by omega
      have hwz:=HV.out.1.kr.lt;clear h0 HRR e3 iQ;refine kD 12 9 (some br) (by decide) (by kernel_rfl) (fun qk=>(Tc b br m').getD qk .any) (by kernel_rfl) ?_ ?_
      ·refine cu.cons rfl [] [] rfl _ rfl (by kernel_rfl) rfl (by kernel_rfl) (by kernel_rfl) (fun qK qa wr hB qO qF hK=>?_) ?_
       ·clear qO qF;go_simp;exact hK _ _ zR rfl
       refine cu.pure rfl [] [10] rfl rfl (by kernel_rfl) (by kernel_rfl) (.pointer (some ⟨b,0,none⟩)) rfl (fun qK qa wr qO qF hK=>?_) ?_
       ·have e10:qa.tmps[10]? =some (.pointer (some ⟨b,0,none⟩)):=qO.1.trans rfl;clear qO qF;go_simp;exact hK
       refine cu.pure rfl [1] [] rfl rfl (by kernel_rfl) (by kernel_rfl) (.pointer (some ⟨b,0,none⟩)) rfl (fun qK qa wr qO qF hK=>?_) ?_
       ·have e80:=jC qF.1 rfl rfl;clear qO qF;go_simp;exact hK
       refine cu.pure rfl [2] [] rfl rfl (by kernel_rfl) (by kernel_rfl) (.pointer (some ⟨b,4,none⟩)) rfl (fun qK qa wr qO qF hK=>?_) ?_
       ·have e81:=jC qF.1 rfl rfl;clear qO qF;go_simp;exact hK
       refine cu.read rfl [3] [] rfl rfl (by kernel_rfl) (by kernel_rfl) (.int .i64 (m'.pos:Nat)) rfl (fun qK qa wr hG qO qF hK=>?_) ?_
       ·have e82:=jC qF.1 rfl rfl;clear qO qF;have c4:wr.cell? ⟨b,4,none⟩=some (.int .i64 (m'.pos:Nat)):=(hs3.bk.grown hG (aC (by omega))).cell 4;clear hG;go_simp;exact hK
       refine cu.pure rfl [] [10] rfl rfl (by kernel_rfl) (by kernel_rfl) (.pointer (some ⟨b,0,none⟩)) rfl (fun qK qa wr qO qF hK=>?_) ?_
       ·have e10:qa.tmps[10]? =some (.pointer (some ⟨b,0,none⟩)):=qO.1.trans rfl;clear qO qF;go_simp;exact hK
       refine cu.pure rfl [5] [] rfl rfl (by kernel_rfl) (by kernel_rfl) (.pointer (some ⟨b,0,none⟩)) rfl (fun qK qa wr qO qF hK=>?_) ?_
       ·have e84:=jC qF.1 rfl rfl;clear qO qF;go_simp;exact hK
       refine cu.pure rfl [6] [] rfl rfl (by kernel_rfl) (by kernel_rfl) (.pointer (some ⟨b,3,none⟩)) rfl (fun qK qa wr qO qF hK=>?_) ?_
       ·have e85:=jC qF.1 rfl rfl;clear qO qF;go_simp;exact hK
       refine cu.read rfl [7] [] rfl rfl (by kernel_rfl) (by kernel_rfl) (.int .i64 (m'.err:Nat)) rfl (fun qK qa wr hG qO qF hK=>?_) ?_
       ·have e86:=jC qF.1 rfl rfl;clear qO qF;have c3:wr.cell? ⟨b,3,none⟩=some (.int .i64 (m'.err:Nat)):=(hs3.bk.grown hG (aC (by omega))).cell 3;clear hG;go_simp;exact hK
       refine cu.app rfl [0] [4] rfl (by kernel_rfl) (by kernel_rfl) (fun qK qa wr hB qO qF hK=>?_) ?_
       ·have e4:qa.tmps[4]? =some (.pointer (some ⟨br,0,none⟩)):=qO.1.trans rfl;have e79:=aH qF.1 rfl rfl;clear qO qF;exact yw jo _ _ rfl (pU (by assumption)) [.int .i64 0,.slice none 0 0,.slice none 0 0] (pU (by assumption)) (k3.old hB) rfl rfl rfl (fun w9 p9=>hK _ _ ((below_grown hB _).trans p9.grown) (Nat.le_of_eq p9.size.symm) p9.bk)
       refine cu.pure rfl [4] [] rfl rfl (by kernel_rfl) (by kernel_rfl) (.int .i64 (m'.pos:Nat)) rfl (fun qK qa wr qO qF hK=>?_) ?_
       ·have e83:=jC qF.1 rfl rfl;clear qO qF;go_simp;exact hK
       refine cu.pure rfl [8] [] rfl rfl (by kernel_rfl) (by kernel_rfl) (.int .i64 (m'.err:Nat)) rfl (fun qK qa wr qO qF hK=>?_) ?_
       ·have e87:=jC qF.1 rfl rfl;clear qO qF;go_simp;exact hK
       exact cu.nil
      intro vals wr hl hG hR
      match vals,hl with
      |[z79,z80,z81,z82,z83,z84,z85,z86,z87,zn9,z5,z6],_=>
      have r0:z79=.agg #[.int .i64 0,.slice none 0 0,.slice none 0 0]:=hR 0 _ rfl;subst r0;have r4:z83=.int .i64 (m'.pos:Nat):=hR 4 _ rfl;subst r4;have r8:z87=.int .i64 (m'.err:Nat):=hR 8 _ rfl;subst r8;have r10:z5=.int .i64 (m'.pos:Nat):=hR 10 _ rfl;subst r10;have r11:z6=.int .i64 (m'.err:Nat):=hR 11 _ rfl;subst r11;have r9:(fun v W=>Bk W br 25 #[.int .i64 0,.slice none 0 0,.slice none 0 0]) zn9 wr:=iD (hR 9 _ rfl) rfl;clear hR;simp only[List.take_succ_cons,List.take_zero,List.drop_succ_cons,List.drop_zero,List.toList_toArray,List.cons_append,List.nil_append,aN,Act.put,List.setIfInBounds_toArray,List.set_cons_zero,List.set_cons_succ];clear k3 c3 c4;have HF:Hid (Below w.heap.size w wr):=zH (HV.out.1.bel.grown hG HV.out.1.bel.size (fun k hk=>by injection hk with hk;omega));clear hG;go_wp2
      obtain⟨u0,u1,u2⟩:=zc3 r9;refine bodyPost_ret (v:=.tuple #[.agg #[.int .i64 0,.slice none 0 0,.slice none 0 0],.int .i64 (m'.pos:Nat),.int .i64 (m'.err:Nat)]) (by simp[results,Try.results34,go_sem,u0,u1,u2]) rfl ?_;exact⟨_,rfl,ig.zero _ _ _,HF.out⟩
     case pos=>
      as_aux_lemma=>
      have iQ:((m'.err:Int) !=0)=false:=by rw[bne_eq_false_iff_eq];omega
      have hR:=HRR.out;rw[if_neg (by omega)]at hR;injection hR with h1 h2
      injection h2 with h2 h3
      obtain⟨k0,k1,k2⟩:=zc3 HV.out.1.kp;simp only[List.getElem?_toArray,List.getElem?_cons_zero,List.getElem?_cons_succ]at k0 k1 k2;have kr:=HV.out.1.kr;have yD:=zH h1;subst h2;subst h3;clear h0 HRR h1;go_wp2_with (first|(refine ae jo rfl _ _ rfl rfl [.int .i64 bg,.slice Ak nk ck,.slice A k c] rfl kr rfl rfl rfl ?_;intro w9 p9))
      have u0:=p9.bk.cell 0;have u1:=p9.bk.cell 1;have u2:=p9.bk.cell 2
      have HF:Hid (ig D w.heap.size PT (.agg #[.int .i64 bg,.slice Ak nk ck,.slice A k c]) w9/\Below w.heap.size w w9):=zH
       ⟨⟨.slice Ak nk ck,.slice A k c,bs',by rw[<-yD.out,HQ.out.1],by rw[<-yD.out];show w9.ownsRow _ _ _ _ KS.length _;rw[<-HNK.out];exact dF (fP HV.out.2.1 p9.grown (by omega)) (by omega),(HV.out.1.pl.grown p9.grown (by omega)).mono (by omega),by rw[<-yD.out];exact HP3.out⟩,p9.below _ _ HV.out.1.bel Xj⟩
      clear p9 k0 k1 k2 kr;refine bodyPost_ret (v:=.tuple #[.agg #[.int .i64 bg,.slice Ak nk ck,.slice A k c],.int .i64 0,.int .i64 0]) (by simp[results,Try.results34,go_sem,u0,u1,u2]) rfl ?_;exact⟨_,rfl,HF.out.1,HF.out.2⟩
end Go.Proofs.Ytbjnhllkdilpfaa
