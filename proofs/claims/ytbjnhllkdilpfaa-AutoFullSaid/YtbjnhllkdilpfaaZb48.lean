/- Part 48 of the proof. No conditions. -/
import Derived.Test.YtbjnhllkdilpfaaZb47
namespace Go.Proofs.Ytbjnhllkdilpfaa
open Go.RowKit
set_option linter.unusedSimpArgs false
set_option linter.unusedVariables false
def pf (f:Nat):bW:=⟨f,0,.slice none 0 0,.slice none 0 0,[],[]⟩
structure yJ (B:Nat) (bv:Value) (bs:List fB) (W:World):Prop where
 dC:W.ownsRow B 28 3 bv bs.length (bs.flatMap fB.cells)
 prt:∀b∈bs,W.ownsRow B 31 4 b.parts b.ps.length (b.ps.flatMap bW.cells)
 wJ:bs.Pairwise fun x y=>x.parts.ownBlock=none\/x.parts.ownBlock≠y.parts.ownBlock
 Tz:∀b∈bs,b.ps.length<=1000000/\∀p∈b.ps,∃f,p=pf f
section
variable {B:Nat} {bv:Value} {bs:List fB} {W W':World}
theorem yJ.old (h:yJ B bv bs W) (hb:Below W.heap.size W W'):yJ B bv bs W':=
 ⟨aP h.dC hb,fun b hb'=>aP (h.prt b hb') hb,h.wJ,h.Tz⟩
theorem yJ.far (h:yJ B bv bs W) {g t:Nat} {cs:Array Value} (hk:Bk W g t cs) (h1:28≠t) (h2:31≠t) (i:Nat) (u:Value):yJ B bv bs (W.setCell ⟨g,i,none⟩ u):=
 ⟨mg h.dC hk h1 i u,fun b hb'=>mg (h.prt b hb') hk h2 i u,h.wJ,h.Tz⟩
theorem yJ.zero (B:Nat) (W:World):yJ B (.slice none 0 0) [] W:=
 ⟨World.ownsRow_nil _ _ _ _,fun b hb=>absurd hb (by simp),List.Pairwise.nil,fun b hb=>absurd hb (by simp)⟩
theorem yJ.snoc {w1 : World} (h : yJ B bv bs w1) (hb : Below w1.heap.size w1 W) (hB : B ≤ w1.heap.size) {b : fB} (hr : W.ownsRow w1.heap.size 31 4 b.parts b.ps.length (b.ps.flatMap bW.cells)) (hs : b.ps.length ≤ 1000000 ∧ ∀ p ∈ b.ps, ∃ f, p = pf f) {X9 : Value}
  (hown:W'.ownsRow B 28 3 X9 (bs.length+1) (bs.flatMap fB.cells++b.cells)) (hg:W.grownBy W' bv.ownBlock):yJ B X9 (bs++[b]) W':=by
 have h':=h.old hb;refine⟨by rw[List.flatMap_append,List.length_append];simpa using hown,fun x hx=>?_,?_,fun x hx=>?_⟩
 ·rcases List.mem_append.1 hx with hx|hx
  ·exact dB (h'.prt x hx) h'.dC (by decide) hg
  ·simp only[List.mem_cons,List.not_mem_nil,or_false]at hx;subst hx;exact dB (dF hr hB) h'.dC (by decide) hg
 ·rw[List.pairwise_append];refine⟨h.wJ,List.pairwise_singleton _ _,fun x hx y hy=>?_⟩;simp only[List.mem_cons,List.not_mem_nil,or_false]at hy;subst hy;rcases hk:x.parts.ownBlock with _|k
  ·exact .inl rfl
  ·refine .inr fun e=>?_
   have h1:=((h.prt x hx).lt k hk).2;have h2:=(hr.lt k e.symm).1;omega
 ·rcases List.mem_append.1 hx with hx|hx
  ·exact h.Tz x hx
  ·simp only[List.mem_cons,List.not_mem_nil,or_false]at hx;subst hx;exact hs
theorem yJ.app {b : fB} {l : List fB} (h : yJ B bv (b :: l) W) {gb : Nat} (hgb : bv.ownBlock = some gb) {f : Nat} {v' : Value} (hl : b.ps.length + 1 ≤ 1000000)
  (hown:W'.ownsRow B 31 4 v' (b.ps.length+1) (b.ps.flatMap bW.cells++(pf f).cells)) (hg:W.grownBy W' b.parts.ownBlock) (hwh:v'.ownBlock=b.parts.ownBlock\/∀k,v'.ownBlock=some k->W.heap.size<=k):
  yJ B bv (⟨b.id,b.window,v',b.ps++[pf f]⟩::l) (W'.setCell ⟨gb,2,none⟩ v'):=by
 have hp0:=h.prt b (by simp);have hbr:=dB h.dC hp0 (by decide) hg;have hd:=List.pairwise_cons.1 h.wJ
 have hne:∀{n:Nat} {v:Value} {xs:List Value},W'.ownsRow B 31 4 v n xs->v.ownBlock≠some gb:=fun {n v xs} hr e=>by
  rcases own_ne hbr hr (by decide)with e0|e0
  ·rw[hgb]at e0;cases e0
  ·exact e0 (hgb.trans e.symm)
 refine⟨?_,fun x hx=>?_,?_,fun x hx=>?_⟩
 ·have h0:=lu hbr hgb 2 (by rw[nK _ 3 oH,List.length_cons];omega) v';have e2:=ql fB.cells 3 oH [] b ⟨b.id,b.window,v',b.ps++[pf f]⟩ l 2 v' (by decide) rfl;simp only[List.nil_append,List.length_nil,Nat.zero_mul,Nat.zero_add]at e2;rw[e2]at h0
  simpa using h0
 ·rcases List.mem_cons.1 hx with rfl|hx
  ·have:=ownsRow_setCell_other hown (hne hown) v' (a:=⟨gb,2,none⟩)
   simpa using this
  ·have hx0:=h.prt x (by simp[hx])
   have hx1:=hx0.kept hg (by
    rcases hk:x.parts.ownBlock with _|k
    ·exact .inl rfl
    ·refine .inr fun e'=>?_
     rcases hd.1 x hx with e|e
     ·rw[e]at e';cases e'
     ·exact e (e'.symm.trans hk.symm))
   exact ownsRow_setCell_other hx1 (hne hx1) v' (a:=⟨gb,2,none⟩)
 ·rw[List.pairwise_cons];refine⟨fun x hx=>?_,hd.2⟩;rcases hk:x.parts.ownBlock with _|k
  ·rcases hv:v'.ownBlock with _|k'
   ·exact .inl rfl
   ·exact .inr (by simp)
  ·refine .inr fun e=>?_
   have h1:=((h.prt x (by simp[hx])).lt k hk).2;rcases hwh with e'|e'
   ·rw[e']at e;rcases hd.1 x hx with e0|e0
    ·rw[e0]at e;cases e
    ·exact e0 (e.trans hk.symm)
   ·have:=e' k e;omega
 ·rcases List.mem_cons.1 hx with rfl|hx
  ·refine⟨by simpa using hl,fun p hp=>?_⟩;rcases List.mem_append.1 hp with hp|hp
   ·exact(h.Tz b (by simp)).2 p hp
   ·simp only[List.mem_cons,List.not_mem_nil,or_false]at hp;exact⟨f,hp⟩
  ·exact h.Tz x (by simp[hx])
theorem yJ.set {b : fB} {l : List fB} {ps : List bW} {f0 f : Nat} (h : yJ B bv (b :: l) W) (hps : b.ps = ps ++ [pf f0]) {gq : Nat} (hgq : b.parts.ownBlock = some gq) :
  yJ B bv (⟨b.id,b.window,b.parts,ps++[pf f]⟩::l) (W.setCell ⟨gq,ps.length*4,none⟩ (.int .i64 f)):=by
 have hp0:=h.prt b (by simp);have hd:=List.pairwise_cons.1 h.wJ;have hl:b.ps.length=ps.length+1:=by rw[hps];simp
 refine⟨?_,fun x hx=>?_,?_,fun x hx=>?_⟩
 ·have:=ownsRow_setCell_other h.dC (fun e=>by
   rcases own_ne h.dC hp0 (by decide)with e0|e0
   ·rw[e0]at e;cases e
   ·exact e0 (e.trans hgq.symm)) (.int .i64 f) (a:=⟨gq,ps.length*4,none⟩)
  simpa[fB.cells]using this
 ·rcases List.mem_cons.1 hx with rfl|hx
  ·have h0:=lu hp0 hgq (ps.length*4) (by rw[nK _ 4 jR,hl];omega) (.int .i64 f);have e2:=ql bW.cells 4 jR ps (pf f0) (pf f) [] 0 (.int .i64 f) (by decide) rfl;rw[Nat.add_zero]at e2;rw[hps,e2]at h0
   simpa using h0
  ·have hx0:=h.prt x (by simp[hx])
   exact ownsRow_setCell_other hx0 (fun e=>by
    rcases hd.1 x hx with e0|e0
    ·rw[hgq]at e0;cases e0
    ·exact e0 (hgq.trans e.symm)) (.int .i64 f) (a:=⟨gq,ps.length*4,none⟩)
 ·rw[List.pairwise_cons];exact⟨hd.1,hd.2⟩
 ·rcases List.mem_cons.1 hx with rfl|hx
  ·have h1:=h.Tz b (by simp);rw[hps]at h1;refine⟨by simpa using h1.1,fun p hp=>?_⟩;rcases List.mem_append.1 hp with hp|hp
   ·exact h1.2 p (by simp[hp])
   ·simp only[List.mem_cons,List.not_mem_nil,or_false]at hp;exact⟨f,hp⟩
  ·exact h.Tz x (by simp[hx])
theorem yJ.in (h:yJ B bv bs W) (hl:bs.length<=17592186044416):Yg 200 (.slice none 0 0) bv [] bs W:=by
 obtain⟨Ab,cb,rfl,_⟩:=bF h.dC;refine⟨⟨none,0,rfl,.inl rfl⟩,⟨Ab,cb,rfl,bP h.dC⟩,fun b hb=>?_,fun b hb p hp=>?_,Nat.zero_le _,hl,fun b hb=>(h.Tz b hb).1⟩
 ·have h1:=h.prt b hb;obtain⟨A,c,hv,_⟩:=bF h1;rw[hv]at h1;exact⟨A,c,hv,bP h1⟩
 ·obtain⟨f,rfl⟩:=(h.Tz b hb).2 p hp;have hn:UK 200 (.slice none 0 0) [] W:=⟨⟨none,0,rfl,.inl rfl⟩,by simp,fun y hy=>absurd hy (by simp)⟩
  exact⟨hn,hn⟩
end
def shB (b:fB):Nat×Int×List bW:=(b.id,b.window,b.ps)
theorem D7 (d:Nat) (bs:List fB):bs.map (lU d)=(bs.map shB).map fun x=>⟨x.1,x.2.1,x.2.2.map (partT d)⟩:=by
 rw[List.map_map];rfl
def oZ (fs:List (List Nat)):lW:=⟨3,[],(List.range fs.length).zip fs |>.map fun x=>⟨x.1,0,x.2.map fun f=>⟨f,0,[],[]⟩⟩⟩
def ones:List Nat:=List.replicate 8 1
theorem zAm:(iL (oZ [ones,ones,ones,ones])).2=0:=by kernel_rfl
theorem XF:(iL (oZ [ones,ones,ones,ones])).1.states.length=32:=by kernel_rfl
theorem zAn:(iL (oZ [ones++[2],ones,ones,ones])).2=4:=by kernel_rfl
theorem XG:(iL (oZ [ones++[2],ones,ones,ones])).1.states.length=0:=by kernel_rfl
theorem zAp:(iL (oZ [ones++[3],ones,ones,ones])).2=0:=by kernel_rfl
theorem su.len {D B:Nat} {a:uV} {v:Value} {W:World} (h:su D B a v W):∃(kA:Option Addr) (kn kc:Nat) (A:Option Addr) (c:Nat),v=.agg #[.int .i64 a.aS,.slice kA kn kc,.slice A a.states.length c]:=by
 obtain⟨kv,A,c,dK,rfl,hk,hown,hok,ht⟩:=h;obtain⟨kA,kc,rfl,_⟩:=bF hk;exact⟨kA,_,kc,A,c,by rw[<-ht,List.length_map]⟩
theorem tC.len {D:Nat} {t:lW} {w w':World} {e:Ending} (h:tC D t w e w') {n:Nat} {er:Int} (hn:(iL t).1.states.length=n) (he:(iL t).2=er):∃(kA:Option Addr) (kn kc:Nat) (A:Option Addr) (c:Nat) (st:Int),e=.returned (.tuple #[.agg #[.int .i64 st,.slice kA kn kc,.slice A n c],.int .i64 er])/\Below w.heap.size w w':=by
 obtain⟨av,rfl,ha,hb⟩:=h;obtain⟨kA,kn,kc,A,c,rfl⟩:=ha.len;rw[hn,he];exact⟨kA,kn,kc,A,c,_,rfl,hb⟩
end Go.Proofs.Ytbjnhllkdilpfaa
namespace Go.Proofs.Ytbjnhllkdilpfaa
open Go.RowKit
set_option linter.unusedSimpArgs false
set_option linter.unusedVariables false
set_option maxHeartbeats 16000000
set_option maxRecDepth 100000
theorem bC.load {P : Program} {ops : Array Oper} {Q : Exit → Act → World → Prop} {n p : Nat} {a0 : Act} {W : World} {row : Option Nat} {R : Nat → Spec} {k : Nat} {o : Oper} {rest : List Oper} (ho : ops[k]? = some o) (l ds : List Nat) (hkp : (k == p) = false) (hg : o.guard = none) (hl : (l.all fun j => decide (j < n) && waits ops k j) = true) (hds : ds.all (outer ops) = true) (X : Value) (hX : R k = .is X)
  (h:∀(K:Act->World->Prop) (a:Act) (w:World),W.grownBy w row->dN ops a0 a ds->qQ ops R a l->K (a.put o.dst X) w->o.wp P a w K Q)
  (hr:bC P Q ops n a0 W row p R (k+1) rest):bC P Q ops n a0 W row p R k (o::rest):=by
 refine⟨fun K L a w hi hLk hA hK=>?_,hr⟩;rw[if_pos (by unfold Region.wanted;rw[hg])];rw[hkp,Bool.or_false]at hK
 have hG:W.grownBy w row:=by
  have hs:=hi.s;unfold sU at hs
  split at hs
  ·exact hs
  ·exact below_grown hs _
 refine h K a w hG (bM hi.old ds hds) (uF hi ho hA hl) (hK X w zL hi.s (fun j u _ h=>h) ?_ (fun h=>by cases h));unfold Spec.both;rw[hX]
def LJ (k:Nat):List (Nat×Int×List bW):=(List.range k).map fun i=>(i,(0:Int),List.replicate 8 (pf 1))
theorem LK (k:Nat):LJ (k+1)=LJ k++[(k,0,List.replicate 8 (pf 1))]:=by
 unfold LJ;rw[List.range_succ,List.map_append];rfl
structure UR (gp:Nat) (A:Option Addr) (k c:Nat) (bs:List fB) (w W:World):Prop where
 fl:yJ w.heap.size (.slice A k c) bs W
 kp:Bk W gp 25 #[.int .i64 3,.slice none 0 0,.slice A k c]
 bel:Below w.heap.size w W
theorem UR.old {gp:Nat} {A:Option Addr} {k c:Nat} {bs:List fB} {w W W':World} (h:UR gp A k c bs w W) (hb:Below W.heap.size W W'):UR gp A k c bs w W':=
 ⟨h.fl.old hb,h.kp.old hb,h.bel.trans (hb.mono h.bel.size)⟩
def TA (gp gB gq c cp B wz:Nat) (xs:List Value):List Spec:=[.is (.pointer (some ⟨gp,2,none⟩)),
 .is (.slice (some ⟨gB,0,none⟩) 4 c),
 .is (.pointer (some ⟨gp,2,none⟩)),
 .is (.slice (some ⟨gB,0,none⟩) 4 c),
 .is (.pointer (some ⟨gB,0,none⟩)),
 .is (.pointer (some ⟨gB,2,none⟩)),
 .is (.slice (some ⟨gq,0,none⟩) 8 cp),
 .is (.agg #[.int .i64 2,.int .i64 0,.slice none 0 0,.slice none 0 0]),
 .st (fun v w=>∃g,v=.slice (some ⟨g,0,none⟩) 1 1/\Bk w g 31 #[.int .i64 2,.int .i64 0,.slice none 0 0,.slice none 0 0]) (fun _ _ _ hb ⟨g,h1,h2⟩=>⟨g,h1,h2.old hb⟩),
 .st (fun v w=>∃(A:Option Addr) (c:Nat),v=.slice A 9 c/\w.ownsRow B 31 4 (.slice A 9 c) 9 (xs++[.int .i64 2,.int .i64 0,.slice none 0 0,.slice none 0 0])/\((Value.slice A 9 c).ownBlock=(Value.slice (some ⟨gq,0,none⟩) 8 cp).ownBlock\/∀k,(Value.slice A 9 c).ownBlock=some k->wz<=k)) (fun _ _ _ hb ⟨A,c,h1,h2,h3⟩=>⟨A,c,h1,aP h2 hb,h3⟩)]
theorem zAq (w:World):Calls Try.prog 3 #[] w fun e w'=>e=.returned (.bool true)/\Below w.heap.size w w':=by
 obtain⟨iP,hP,hP0,hP1,hP2⟩:=info_parts FT;obtain⟨iB,hBr,hBr0,hBr1,hBr2⟩:=info_parts Py
 go_enter Try.func3,Try.ntmps3
 go_upto_region 3 with fail
 have kp0:=Bk.new w 25 #[.int .i64 3,.slice none 0 0,.slice none 0 0];have hb0:Below w.heap.size w (w.alloc (.cells #[.int .i64 3,.slice none 0 0,.slice none 0 0] 25)):=zR.alloc zL _;obtain⟨W0,hW0⟩:∃z,w.alloc (.cells #[.int .i64 3,.slice none 0 0,.slice none 0 0] 25)=z:=⟨_,rfl⟩
 rw[hW0]at kp0 hb0⊢;obtain⟨gp,yG⟩:∃z,w.heap.size=z:=⟨_,rfl⟩
 have hgpw:w.heap.size<=gp:=by omega
 have lJ:Hid (UR gp none 0 0 [] w W0):=zH ⟨yJ.zero _ _,by rw[<-yG];exact kp0,hb0⟩;rw[yG];clear kp0 hb0 hW0 yG;go_wp2_with fail
 go_loopw[11] (fun i wr=>∃(k:Nat) (A:Option Addr) (c:Nat) (bs:List fB),k<=4/\i=.int .i64 k/\Hid (bs.length=k/\bs.map shB=LJ k)/\Hid (UR gp A k c bs w wr)) (fun i _=>4-(intOf i).toNat)
 case atStart=>exact⟨0,none,0,[],Nat.zero_le _,rfl,zH ⟨rfl,rfl⟩,lJ⟩
 case round=>
  clear lJ;obtain⟨k,A,c,bs,hk,rfl,HL,HV⟩:=hrel;obtain⟨W,rfl⟩:∃W:World,W=wr:=⟨_,rfl⟩
  by_cases hlt:k<4
  ·as_aux_lemma=>
   go_upto_region 7 with(first|(refine ae Gu rfl _ _ rfl rfl [.int .i64 k,.int .i64 0,.slice none 0 0] rfl (Bk.new W _ _) rfl rfl rfl ?_;intro w4 p4;go_frame))
   have hdk:decide ((k:Int)<4)=true:=by rw[decide_eq_true_eq];omega
   try rw[hdk]
   clear hdk;have hb4:Below W.heap.size W w4:=p4.below _ _ (zR.alloc zL _) zL;obtain⟨gb,hgb⟩:∃z,W.heap.size=z:=⟨_,rfl⟩
   have hkb:=p4.bk;rw[hgb]at hkb⊢;have hgbW:W.heap.size<=gb:=by omega
   have HI0:Hid (w4.ownsRow W.heap.size 31 4 (.slice none 0 0) 0 ((List.replicate 0 (pf 1)).flatMap bW.cells)/\Bk w4 gb 28 #[.int .i64 k,.int .i64 0,.slice none 0 0]/\Below W.heap.size W w4):=zH ⟨World.ownsRow_nil _ _ _ _,hkb,hb4⟩;clear p4 hb4 hkb hgb;go_wp2_with fail
   go_loopw[16] (fun i wr=>∃(j:Nat) (A2:Option Addr) (c2:Nat),j<=8/\i=.int .i64 j/\Hid (wr.ownsRow W.heap.size 31 4 (.slice A2 j c2) j ((List.replicate j (pf 1)).flatMap bW.cells)/\Bk wr gb 28 #[.int .i64 k,.int .i64 0,.slice A2 j c2]/\Below W.heap.size W wr)) (fun i _=>8-(intOf i).toNat)
   case atStart=>exact⟨0,none,0,Nat.zero_le _,rfl,HI0⟩
   case round=>
    clear HI0;obtain⟨j,A2,c2,hj,rfl,HI⟩:=hrel;obtain⟨w8,rfl⟩:∃W:World,W=wr:=⟨_,rfl⟩
    by_cases hjl:j<8
    ·as_aux_lemma=>
     have b2:w8.cell? ⟨gb,2,none⟩=some (.slice A2 j c2):=HI.out.2.1.cell 2;have fV:Below w8.heap.size w8 (w8.alloc (.cells #[.int .i64 1,.int .i64 0,.slice none 0 0,.slice none 0 0] 31)):=zR.alloc zL _;have bz:=aP HI.out.1 fV;have kbA:=HI.out.2.1.old fV;have hbW:=HI.out.2.2.trans (fV.mono HI.out.2.2.size);have kK:W.heap.size<=(w8.alloc (.cells #[.int .i64 1,.int .i64 0,.slice none 0 0,.slice none 0 0] 31)).heap.size:=hbW.size;clear HI;go_wp2_with (first|at_builtin;(refine az (by rfl) _ _ 26 (by rfl) W.heap.size 31 iP _ 4 64 Try.underlying26 hP hP0 hP1 hP2 rfl (by decide) (.slice A2 j c2) j _ (by rfl) bz (w8.heap.size+1) (some ⟨w8.heap.size,0,none⟩) 1 1 [.int .i64 1,.int .i64 0,.slice none 0 0,.slice none 0 0] (by rfl) (Rd.lit rfl _ _) (by rfl) ?c2 ?c3 ?c4 kK ?_))
     case c2=>intro u hu;simp at hu;rcases hu with rfl|rfl|rfl|rfl<;>rfl
     case c3=>unfold maxLen;omega
     case c4=>omega
     intro A6 c6 w9 hown6 iy _;have zK:some gb≠(Value.slice A2 j c2).ownBlock:=aF bz kbA (by decide);have RP:=kbA.grown iy zK;have f9:=RP.frozen 2;have c9':w9.cell? ⟨gb,2,none⟩=some (.slice A2 j c2):=RP.cell 2
     have HN:Hid ((w9.setCell ⟨gb,2,none⟩ (.slice A6 (j+1) c6)).ownsRow W.heap.size 31 4 (.slice A6 (j+1) c6) (j+1) ((List.replicate (j+1) (pf 1)).flatMap bW.cells)/\Bk (w9.setCell ⟨gb,2,none⟩ (.slice A6 (j+1) c6)) gb 28 #[.int .i64 k,.int .i64 0,.slice A6 (j+1) c6]/\Below W.heap.size W (w9.setCell ⟨gb,2,none⟩ (.slice A6 (j+1) c6))):=zH (by
      refine⟨?_,RP.put 2 _,(hbW.grown iy hbW.size fun q hq=>(bz.lt q hq).1).setCell hgbW _⟩;rw[List.replicate_succ',List.flatMap_append]
      exact mg hown6 RP (by decide) 2 _)
     clear hown6 iy bz kK zK RP fV kbA hbW b2;go_wp2
     go_roundw
     case rel=>exact⟨j+1,A6,c6,by omega,by go_num,HN⟩
     case measure=>simp[intOf];omega
    ·as_aux_lemma=>
     obtain rfl:j=8:=by omega
     have b0:w8.cell? ⟨gb,0,none⟩=some (.int .i64 k):=HI.out.2.1.cell 0;have b1:w8.cell? ⟨gb,1,none⟩=some (.int .i64 0):=HI.out.2.1.cell 1;have b2:w8.cell? ⟨gb,2,none⟩=some (.slice A2 8 c2):=HI.out.2.1.cell 2;have hV8:=HV.out.old HI.out.2.2;have p2:w8.cell? ⟨gp,2,none⟩=some (.slice A k c):=hV8.kp.cell 2;have fV:Below w8.heap.size w8 (w8.alloc (.cells #[.int .i64 k,.int .i64 0,.slice A2 8 c2] 28)):=zR.alloc zL _;have hVA:=hV8.old fV;have bz:=hVA.fl.dC;rw[HL.out.1]at bz;have hpr:=aP HI.out.1 fV;have Md:=zH (And.intro hVA (And.intro hpr (HI.out.2.2.trans (fV.mono HI.out.2.2.size))));have kK:w.heap.size<=(w8.alloc (.cells #[.int .i64 k,.int .i64 0,.slice A2 8 c2] 28)).heap.size:=hVA.bel.size;clear hV8 fV hVA hpr HI;go_wp2_with (first|at_builtin;(refine az (by rfl) _ _ 23 (by rfl) w.heap.size 28 iB _ 3 40 Try.underlying23 hBr hBr0 hBr1 hBr2 rfl (by decide) (.slice A k c) k _ (by rfl) bz (w8.heap.size+1) (some ⟨w8.heap.size,0,none⟩) 1 1 [.int .i64 k,.int .i64 0,.slice A2 8 c2] (by rfl) (Rd.lit rfl _ _) (by rfl) ?c2 ?c3 ?c4 kK ?_))
     case c2=>intro u hu;simp at hu;rcases hu with rfl|rfl|rfl<;>rfl
     case c3=>unfold maxLen;omega
     case c4=>omega
     intro A6 c6 w9 hown6 iy _;have zK:some gp≠(Value.slice A k c).ownBlock:=aF bz Md.out.1.kp (by decide);have kp9:=Md.out.1.kp.grown iy zK;have f9:=kp9.frozen 2;have c9':w9.cell? ⟨gp,2,none⟩=some (.slice A k c):=kp9.cell 2
     have hfl:yJ w.heap.size (.slice A6 (k+1) c6) (bs++[⟨k,0,.slice A2 8 c2,List.replicate 8 (pf 1)⟩]) w9:=by
      refine HV.out.fl.snoc (b:=⟨k,0,.slice A2 8 c2,List.replicate 8 (pf 1)⟩) Md.out.2.2 HV.out.bel.size Md.out.2.1 ⟨by simp,fun p hp=>⟨1,(List.eq_of_mem_replicate hp)⟩⟩ ?_ iy;rw[HL.out.1];exact hown6
     have HN:Hid (UR gp A6 (k+1) c6 (bs++[⟨k,0,.slice A2 8 c2,List.replicate 8 (pf 1)⟩]) w (w9.setCell ⟨gp,2,none⟩ (.slice A6 (k+1) c6))):=zH ⟨hfl.far kp9 (by decide) (by decide) 2 _,kp9.put 2 _,(Md.out.1.bel.grown iy Md.out.1.bel.size fun q hq=>(bz.lt q hq).1).setCell hgpw _⟩;have G6:Hid ((bs++[(⟨k,0,.slice A2 8 c2,List.replicate 8 (pf 1)⟩:fB)]).length=k+1/\(bs++[(⟨k,0,.slice A2 8 c2,List.replicate 8 (pf 1)⟩:fB)]).map shB=LJ (k+1)):=zH ⟨by rw[List.length_append,HL.out.1];rfl,by rw[List.map_append,HL.out.2,LK];rfl⟩;clear hown6 iy bz kK zK kp9 hfl Md b0 b1 b2 p2 HV HL;go_wp2
     go_roundw
     case rel=>exact⟨k+1,A6,c6,_,by omega,by go_num,G6,HN⟩
     case measure=>simp[intOf];omega
  ·as_aux_lemma=>
   obtain rfl:k=4:=by omega
   obtain⟨b0,l,rfl⟩:∃b0 l,bs=b0::l:=by
    match bs,HL.out.1 with
    |b::l,_=>exact⟨b,l,rfl⟩
   obtain⟨wz0,bq0,pv0,ps0⟩:=b0;have hm:=HL.out.2
   obtain⟨x1,x2,x3,rfl⟩:∃x y z,l=[x,y,z]:=by
    match l,HL.out.1 with
    |[x,y,z],_=>exact⟨x,y,z,rfl⟩
   rw[List.map_cons]at hm;have hm0:LJ 4=(0,0,List.replicate 8 (pf 1))::[(1,0,List.replicate 8 (pf 1)),(2,0,List.replicate 8 (pf 1)),(3,0,List.replicate 8 (pf 1))]:=by rfl
   rw[hm0,List.cons.injEq]at hm;obtain⟨hm1,hm2⟩:=hm;unfold shB at hm1;simp only[Prod.mk.injEq]at hm1;obtain⟨rfl,rfl,rfl⟩:=hm1;have hpl:=HV.out.fl.in (by simp)
   have hbd:Calls Try.prog 6 #[.agg #[.int .i64 3,.slice none 0 0,.slice A 4 c]] W (tC 200 (oZ [ones,ones,ones,ones]) W):=rD 200 (oZ [ones,ones,ones,ones]) _ _ _ W hpl (by
    rw[D7,List.map_cons,hm2]
    rfl)
   have vJ:=zH hbd;have v0:W.cell? ⟨gp,0,none⟩=some (.int .i64 3):=HV.out.kp.cell 0;have v1:W.cell? ⟨gp,1,none⟩=some (.slice none 0 0):=HV.out.kp.cell 1;have v2:W.cell? ⟨gp,2,none⟩=some (.slice A 4 c):=HV.out.kp.cell 2;have lF:=zH hm2;clear hm0 hpl hbd hm2 HL;go_wp2_with fail
   refine vJ.out.mono ?_;rintro r w1 hr;obtain⟨kA,kn,kc,A4,c4,st,rfl,hb1⟩:=hr.len XF zAm;have vW:=zH (HV.out.old hb1);clear vJ hr hb1 v0 v1 v2 HV;go_upto_region 14 with(first|(refine ae jU rfl _ _ rfl rfl [.int .i64 st,.slice kA kn kc,.slice A4 32 c4] rfl (Bk.new w1 _ _) rfl rfl rfl ?_;intro w2 p2;go_frame))
   have hb2:Below w1.heap.size w1 w2:=p2.below _ _ (zR.alloc zL _) zL;have ka2:=p2.bk;obtain⟨gA,hgA⟩:∃z,w1.heap.size=z:=⟨_,rfl⟩
   rw[hgA]at ka2⊢;have hV2:=vW.out.old hb2;have iJ:=hV2.fl.prt ⟨0,0,pv0,List.replicate 8 (pf 1)⟩ (by simp);simp only[List.length_replicate]at iJ;obtain⟨gq,cp,hpv,-,-⟩:=jF iJ (by omega);subst hpv;obtain⟨gB,cB,hAB,-,-⟩:=jF hV2.fl.dC (by simp);injection hAB with hAB h4 hc
   subst hAB;subst hc;clear h4;have Qc:w2.ownsRow w.heap.size 28 3 (.slice (some ⟨gB,0,none⟩) 4 c) 4 ((⟨0,0,.slice (some ⟨gq,0,none⟩) 8 cp,List.replicate 8 (pf 1)⟩::[x1,x2,x3]).flatMap fB.cells):=hV2.fl.dC;have HOWN:Hid (w2.ownsRow w.heap.size 31 4 (.slice (some ⟨gq,0,none⟩) 8 cp) 8 ((List.replicate 8 (pf 1)).flatMap bW.cells)):=zH iJ;have p2':w2.cell? ⟨gp,2,none⟩=some (.slice (some ⟨gB,0,none⟩) 4 c):=hV2.kp.cell 2
   have b2:w2.cell? ⟨gB,2,none⟩=some (.slice (some ⟨gq,0,none⟩) 8 cp):=by
    obtain⟨g',o',hA',_,hc'⟩:=(bP Qc).elem (n:=3) (f:=fB.cells) oH (by omega) (k:=0) (by simp);injection hA' with hA'
    injection hA' with e1 e2
    subst e1;subst e2;exact hc' 2 _ rfl
   have HPG:Hid (∀wr,w2.grownBy wr (Value.slice (some ⟨gq,0,none⟩) 8 cp).ownBlock->wr.cell? ⟨gp,2,none⟩=some (.slice (some ⟨gB,0,none⟩) 4 c)):=zH fun wr hG=>(hV2.kp.grown hG (aF iJ hV2.kp (by decide))).cell 2
   have hwz:=hV2.bel.size;have iM:=zH (And.intro hV2 ka2);obtain⟨wz,Tf⟩:∃z,w2.heap.size=z:=⟨_,rfl⟩
   have Ud:=zH Tf;obtain⟨xs,hxs⟩:∃z,(List.replicate 8 (pf 1)).flatMap bW.cells=z:=⟨_,rfl⟩
   rw[hxs]at HOWN;have HXS:=zH hxs;obtain⟨B,hB'⟩:∃z,w.heap.size=z:=⟨_,rfl⟩
   rw[hB']at HOWN hwz;have Ui:=zH hB';have hwle:wz<=w2.heap.size:=by omega
   clear p2 hb2 ka2 hgA hV2 iJ vW Tf hxs hB' Qc;refine mr 10 9 ((Value.slice (some ⟨gq,0,none⟩) 8 cp).ownBlock) (by decide) (by kernel_rfl) (fun qk=>(TA gp gB gq c cp B wz xs).getD qk .any) (by kernel_rfl) ?_ ?_
   ·refine bC.pure rfl [] [1] rfl rfl (by kernel_rfl) (by kernel_rfl) (.pointer (some ⟨gp,2,none⟩)) rfl (fun qK qa wr qO qF hK=>?_) ?_
    ·have e1:qa.tmps[1]? =some (.pointer (some ⟨gp,0,none⟩)):=qO.1.trans rfl;clear qO qF;go_simp;exact hK
    refine bC.load rfl [0] [] rfl rfl (by kernel_rfl) (by kernel_rfl) (.slice (some ⟨gB,0,none⟩) 4 c) rfl (fun qK qa wr hG qO qF hK=>?_) ?_
    ·have e37:=DF qF.1 rfl rfl;clear qO qF;have hp2':=HPG.out wr hG;go_simp;exact hK
    refine bC.cons rfl [] [1] rfl _ rfl (by kernel_rfl) rfl (by kernel_rfl) (by kernel_rfl) (fun qK qa wr hB qO qF hK=>?_) ?_
    ·have e1:qa.tmps[1]? =some (.pointer (some ⟨gp,0,none⟩)):=qO.1.trans rfl;clear qO qF;go_simp;exact hK _ _ zR rfl
    refine bC.cons rfl [2] [] rfl _ rfl (by kernel_rfl) rfl (by kernel_rfl) (by kernel_rfl) (fun qK qa wr hB qO qF hK=>?_) ?_
    ·have e39:=aH qF.1 rfl rfl;clear qO qF;have hp2':=zE hB p2';go_simp;exact hK _ _ zR rfl
    refine bC.cons rfl [3] [] rfl _ rfl (by kernel_rfl) rfl (by kernel_rfl) (by kernel_rfl) (fun qK qa wr hB qO qF hK=>?_) ?_
    ·have e40:=aH qF.1 rfl rfl;clear qO qF;go_simp;exact hK _ _ zR rfl
    refine bC.cons rfl [4] [] rfl _ rfl (by kernel_rfl) rfl (by kernel_rfl) (by kernel_rfl) (fun qK qa wr hB qO qF hK=>?_) ?_
    ·have e41:=aH qF.1 rfl rfl;clear qO qF;go_simp;exact hK _ _ zR rfl
    refine bC.cons rfl [5] [] rfl _ rfl (by kernel_rfl) rfl (by kernel_rfl) (by kernel_rfl) (fun qK qa wr hB qO qF hK=>?_) ?_
    ·have e42:=aH qF.1 rfl rfl;clear qO qF;have hb2:=zE hB b2;go_simp;exact hK _ _ zR rfl
    refine bC.cons rfl [] [] rfl _ rfl (by kernel_rfl) rfl (by kernel_rfl) (by kernel_rfl) (fun qK qa wr hB qO qF hK=>?_) ?_
    ·clear qO qF;go_simp;exact hK _ _ zR rfl
    refine bC.cons rfl [7] [] rfl _ rfl (by kernel_rfl) rfl (by kernel_rfl) (by kernel_rfl) (fun qK qa wr hB qO qF hK=>?_) ?_
    ·have e44:=aH qF.1 rfl rfl;clear qO qF;go_simp;exact hK _ _ (zR.alloc zL _) ⟨_,rfl,Bk.new _ _ _⟩
    refine bC.app rfl [6,8] [] rfl (by kernel_rfl) (by kernel_rfl) (fun qK qa wr hB qO qF hK=>?_) ?_
    ·have e43:=aH qF.1 rfl rfl;obtain⟨u45,e45,r8⟩:=qF.2.1;obtain⟨XH,h45,k45⟩:=(show∃g,u45=.slice (some ⟨g,0,none⟩) 1 1/\Bk wr g 31 #[.int .i64 2,.int .i64 0,.slice none 0 0,.slice none 0 0]from r8)
     subst h45;have e45:qa.tmps[45]? =some (.slice (some ⟨XH,0,none⟩) 1 1):=e45;clear qO qF;refine eF _ _ 26 rfl B 31 iP _ 4 64 Try.underlying26 hP hP0 hP1 hP2 rfl (by decide) (.slice (some ⟨gq,0,none⟩) 8 cp) 8 _ (bK e43) (aP HOWN.out hB) (XH+1) (some ⟨XH,0,none⟩) 1 1 [.int .i64 2,.int .i64 0,.slice none 0 0,.slice none 0 0] (bK e45) (Rd.bk k45 (Nat.lt_succ_self _)) rfl (by intro u hu;simp at hu;rcases hu with rfl|rfl|rfl|rfl<;>rfl) (by unfold maxLen;omega) (by omega) (by have:=hB.size;omega) ?_;intro A9 c9 w9 bD jO hwh;exact hK _ _ (World.grownBy.trans (below_grown hB _) jO) jO.size ⟨A9,c9,rfl,bD,hwh.imp id fun h k hk=>by rw[h]at hk;injection hk with hk;have:=hB.size;omega⟩
    exact bC.nil
   intro vals wr hl hG hR
   match vals,hl with
   |[z37,z38,z39,z40,z41,z42,z43,z44,z45,z46],_=>
   have r1:z38=.slice (some ⟨gB,0,none⟩) 4 c:=hR 1 _ rfl;subst r1;have r9:(fun v w=>∃(A:Option Addr) (c:Nat),v=.slice A 9 c/\w.ownsRow B 31 4 (.slice A 9 c) 9 (xs++[.int .i64 2,.int .i64 0,.slice none 0 0,.slice none 0 0])/\((Value.slice A 9 c).ownBlock=(Value.slice (some ⟨gq,0,none⟩) 8 cp).ownBlock\/∀k,(Value.slice A 9 c).ownBlock=some k->wz<=k)) z46 wr:=yC (hR 9 _ rfl);clear hR;simp only[List.take_succ_cons,List.take_zero,List.drop_succ_cons,List.drop_zero,List.toList_toArray,List.cons_append,List.nil_append,aN,Act.put,List.setIfInBounds_toArray,List.set_cons_zero,List.set_cons_succ];obtain⟨A9,c9,rfl,bD,hwh⟩:=r9
   have XV:yJ w.heap.size (.slice (some ⟨gB,0,none⟩) 4 c) (⟨0,0,.slice A9 9 c9,List.replicate 8 (pf 1)++[pf 2]⟩::[x1,x2,x3]) (wr.setCell ⟨gB,2,none⟩ (.slice A9 9 c9)):=by
    refine iM.out.1.fl.app rfl (f:=2) (by simp) ?_ hG ?_
    ·rw[<-Ui.out,<-HXS.out]at bD;exact bD
    ·rw[<-Ud.out]at hwh;exact hwh
   have hbr:wr.ownsRow w.heap.size 28 3 (.slice (some ⟨gB,0,none⟩) 4 c) 4 ((⟨0,0,.slice (some ⟨gq,0,none⟩) 8 cp,List.replicate 8 (pf 1)⟩::[x1,x2,x3]).flatMap fB.cells):=dB iM.out.1.fl.dC HOWN.out (by decide) hG;have f2:=jb hbr (g:=gB) rfl 2
   have c2:wr.cell? ⟨gB,2,none⟩=some (.slice (some ⟨gq,0,none⟩) 8 cp):=by
    obtain⟨g',o',hA',_,hc'⟩:=(bP hbr).elem (n:=3) (f:=fB.cells) oH (by omega) (k:=0) (by simp);injection hA' with hA'
    injection hA' with e1 e2
    subst e1;subst e2;exact hc' 2 _ rfl
   have hkp:=(iM.out.1.kp.grown hG (aF HOWN.out iM.out.1.kp (by decide)))
   have hka:=(iM.out.2.grown hG (aF HOWN.out iM.out.2 (by decide)))
   have hgBp:gp≠gB:=fun e=>aF hbr hkp (by decide) (by rw[e];rfl)
   have hgBA:gA≠gB:=fun e=>aF hbr hka (by decide) (by rw[e];rfl)
   have hgBw:w.heap.size<=gB:=(hbr.lt gB rfl).1;have mX:Hid (UR gp (some ⟨gB,0,none⟩) 4 c (⟨0,0,.slice A9 9 c9,List.replicate 8 (pf 1)++[pf 2]⟩::[x1,x2,x3]) w (wr.setCell ⟨gB,2,none⟩ (.slice A9 9 c9))/\Bk (wr.setCell ⟨gB,2,none⟩ (.slice A9 9 c9)) gA 34 #[.int .i64 st,.slice kA kn kc,.slice A4 32 c4]):=zH ⟨⟨XV,hkp.far hgBp _,(iM.out.1.bel.grown hG iM.out.1.bel.size fun q hq=>by rw[Ui.out];exact(HOWN.out.lt q hq).1).setCell hgBw _⟩,hka.far hgBA _⟩;clear bD hwh XV hbr hkp hka hgBp hgBA hgBw iM HOWN p2' b2 hG;go_upto_region 15 with fail
   generalize wr.setCell ⟨gB,2,none⟩ (.slice A9 9 c9)=w3 at mX⊢;clear f2 c2;have hpl:=mX.out.1.fl.in (by simp)
   have hbd:Calls Try.prog 6 #[.agg #[.int .i64 3,.slice none 0 0,.slice (some ⟨gB,0,none⟩) 4 c]] w3 (tC 200 (oZ [ones++[2],ones,ones,ones]) w3):=rD 200 (oZ [ones++[2],ones,ones,ones]) _ _ _ w3 hpl (by
    rw[D7,List.map_cons,lF.out]
    rfl)
   have vJ:=zH hbd;have v0:w3.cell? ⟨gp,0,none⟩=some (.int .i64 3):=mX.out.1.kp.cell 0;have v1:w3.cell? ⟨gp,1,none⟩=some (.slice none 0 0):=mX.out.1.kp.cell 1;have v2:w3.cell? ⟨gp,2,none⟩=some (.slice (some ⟨gB,0,none⟩) 4 c):=mX.out.1.kp.cell 2;clear hpl hbd;go_wp2_with fail
   refine vJ.out.mono ?_;rintro r w4 hr;obtain⟨kA',kn',kc',A4',c4',st',rfl,hb4⟩:=hr.len XG zAn;have gZ:=zH (And.intro (mX.out.1.old hb4) (mX.out.2.old hb4));clear vJ hr hb4 v0 v1 v2 mX;go_upto_region 16 with(first|(refine ae jU rfl _ _ rfl rfl [.int .i64 st',.slice kA' kn' kc',.slice A4' 0 c4'] rfl (Bk.new w4 _ _) rfl rfl rfl ?_;intro w5 p5;go_frame))
   have hb5:Below w4.heap.size w4 w5:=p5.below _ _ (zR.alloc zL _) zL;have ka5:=p5.bk;obtain⟨gC,XT⟩:∃z,w4.heap.size=z:=⟨_,rfl⟩
   rw[XT]at ka5⊢;have UT:=gZ.out.1.old hb5;have hA5:=gZ.out.2.old hb5;have iJ:=UT.fl.prt ⟨0,0,.slice A9 9 c9,List.replicate 8 (pf 1)++[pf 2]⟩ (by simp);have iJ:w5.ownsRow w.heap.size 31 4 (.slice A9 9 c9) 9 ((List.replicate 8 (pf 1)++[pf 2]).flatMap bW.cells):=iJ;obtain⟨gr,cr,hAr,-,-⟩:=jF iJ (by omega);injection hAr with hAr _ hcr
   subst hAr;subst hcr;have Qc:w5.ownsRow w.heap.size 28 3 (.slice (some ⟨gB,0,none⟩) 4 c) 4 ((⟨0,0,.slice (some ⟨gr,0,none⟩) 9 c9,List.replicate 8 (pf 1)++[pf 2]⟩::[x1,x2,x3]).flatMap fB.cells):=UT.fl.dC
   have b2:w5.cell? ⟨gB,2,none⟩=some (.slice (some ⟨gr,0,none⟩) 9 c9):=by
    obtain⟨g',o',hA',_,hc'⟩:=(bP Qc).elem (n:=3) (f:=fB.cells) oH (by omega) (k:=0) (by simp);injection hA' with hA'
    injection hA' with e1 e2
    subst e1;subst e2;exact hc' 2 _ rfl
   have p2':w5.cell? ⟨gp,2,none⟩=some (.slice (some ⟨gB,0,none⟩) 4 c):=UT.kp.cell 2
   have q2:w5.cell? ⟨gr,32,none⟩=some (.int .i64 2):=by
    obtain⟨g',o',hA',_,hc'⟩:=(bP iJ).elem (n:=4) (f:=bW.cells) jR (by omega) (k:=8) (by simp);injection hA' with hA'
    injection hA' with e1 e2
    subst e1;subst e2;exact hc' 0 _ rfl
   have f2:=jb iJ (g:=gr) rfl 32;have hgrp:gp≠gr:=fun e=>aF iJ UT.kp (by decide) (by rw[e];rfl)
   have hgrA:gA≠gr:=fun e=>aF iJ hA5 (by decide) (by rw[e];rfl)
   have hgrC:gC≠gr:=fun e=>aF iJ ka5 (by decide) (by rw[e];rfl)
   have KE:w.heap.size<=gr:=(iJ.lt gr rfl).1;have hfs:yJ w.heap.size (.slice (some ⟨gB,0,none⟩) 4 c) (⟨0,0,.slice (some ⟨gr,0,none⟩) 9 c9,List.replicate 8 (pf 1)++[pf 3]⟩::[x1,x2,x3]) (w5.setCell ⟨gr,32,none⟩ (.int .i64 3)):=UT.fl.set (b:=⟨0,0,.slice (some ⟨gr,0,none⟩) 9 c9,List.replicate 8 (pf 1)++[pf 2]⟩) (ps:=List.replicate 8 (pf 1)) (f0:=2) (f:=3) rfl rfl;have dS:Hid (UR gp (some ⟨gB,0,none⟩) 4 c (⟨0,0,.slice (some ⟨gr,0,none⟩) 9 c9,List.replicate 8 (pf 1)++[pf 3]⟩::[x1,x2,x3]) w (w5.setCell ⟨gr,32,none⟩ (.int .i64 3))/\Bk (w5.setCell ⟨gr,32,none⟩ (.int .i64 3)) gA 34 #[.int .i64 st,.slice kA kn kc,.slice A4 32 c4]/\Bk (w5.setCell ⟨gr,32,none⟩ (.int .i64 3)) gC 34 #[.int .i64 st',.slice kA' kn' kc',.slice A4' 0 c4']):=zH ⟨⟨hfs,UT.kp.far hgrp _,UT.bel.setCell KE _⟩,hA5.far hgrA _,ka5.far hgrC _⟩;clear p5 hb5 ka5 XT UT hA5 iJ Qc hgrp hgrA hgrC KE hfs gZ;go_upto_region 17 with fail
   generalize w5.setCell ⟨gr,32,none⟩ (.int .i64 3)=w6 at dS⊢;clear f2 q2 p2' b2;have hpl:=dS.out.1.fl.in (by simp)
   have hbd:Calls Try.prog 6 #[.agg #[.int .i64 3,.slice none 0 0,.slice (some ⟨gB,0,none⟩) 4 c]] w6 (tC 200 (oZ [ones++[3],ones,ones,ones]) w6):=rD 200 (oZ [ones++[3],ones,ones,ones]) _ _ _ w6 hpl (by
    rw[D7,List.map_cons,lF.out]
    rfl)
   have vJ:=zH hbd;have v0:w6.cell? ⟨gp,0,none⟩=some (.int .i64 3):=dS.out.1.kp.cell 0;have v1:w6.cell? ⟨gp,1,none⟩=some (.slice none 0 0):=dS.out.1.kp.cell 1;have v2:w6.cell? ⟨gp,2,none⟩=some (.slice (some ⟨gB,0,none⟩) 4 c):=dS.out.1.kp.cell 2;obtain⟨n3,hn3⟩:∃z,(iL (oZ [ones++[3],ones,ones,ones])).1.states.length=z:=⟨_,rfl⟩
   clear hpl hbd;go_wp2_with fail
   refine vJ.out.mono ?_;rintro r w7 hr;obtain⟨kA2,kn2,kc2,A42,c42,st2,rfl,hb7⟩:=hr.len hn3 zAp;have vz:=zH (And.intro (dS.out.1.bel.trans (hb7.mono dS.out.1.bel.size)) (And.intro (dS.out.2.1.old hb7) (dS.out.2.2.old hb7)));clear vJ hr hb7 v0 v1 v2 dS hn3;go_upto_region 18 with(first|(refine ae jU rfl _ _ rfl rfl [.int .i64 st2,.slice kA2 kn2 kc2,.slice A42 n3 c42] rfl (Bk.new w7 _ _) rfl rfl rfl ?_;intro w9 p9;go_frame))
   have dZ:Below w7.heap.size w7 w9:=p9.below _ _ (zR.alloc zL _) zL;obtain⟨g7,Qr⟩:∃z,w7.heap.size=z:=⟨_,rfl⟩
   have pq:=zH (And.intro (vz.out.1.trans (dZ.mono vz.out.1.size)) (And.intro (vz.out.2.1.old dZ) (vz.out.2.2.old dZ)));rw[Qr];clear p9 dZ Qr vz;go_wp2_with fail
   refine(qy _).mono ?_;rintro r w10 ⟨rfl,D8⟩;have z1:w10.cell? ⟨gA,2,none⟩=some (.slice A4 32 c4):=(pq.out.2.1.old D8).cell 2;have z2:w10.cell? ⟨gC,2,none⟩=some (.slice A4' 0 c4'):=(pq.out.2.2.old D8).cell 2;have HF:=zH (pq.out.1.trans (D8.mono pq.out.1.size));clear D8 pq;go_wp2_with fail
   go_ret
   exact⟨rfl,HF.out⟩
end Go.Proofs.Ytbjnhllkdilpfaa
