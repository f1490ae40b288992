/- Part 53 of the proof. No conditions. -/
import Derived.Test.YtbjnhllkdilpfaaZb52
import Derived.Test.YtbjnhllkdilpfaaZb47
namespace Go.Proofs.Ytbjnhllkdilpfaa
open Go.RowKit
set_option linter.unusedSimpArgs false
set_option linter.unusedVariables false
def wL (l:List kG):Prop:=∀(k:Nat) (s:kG),l[k]? =some s-> -1<=s.p/\s.p<(k:Int)
theorem Au:∀(l:List kG) (j:Nat),nP j l=true->∀(k:Nat) (s:kG),l[k]? =some s-> -1<=s.p/\s.p<((j+k:Nat):Int)
 |[],j,_,k,s,h=>by simp at h
 |x::l,j,h,0,s,hs=>by
  simp only[List.getElem?_cons_zero,Option.some.injEq]at hs;subst hs;unfold nP at h;simp only[Bool.and_eq_true,Bool.not_eq_true']at h;have hb:=h.1.1;unfold Gw at hb;simp only[Bool.or_eq_false_iff,decide_eq_false_iff_not]at hb
  constructor<;>omega
 |x::l,j,h,k+1,s,hs=>by
  unfold nP at h;simp only[Bool.and_eq_true]at h;have:=Au l (j+1) h.2 k s (by simpa using hs)
  constructor<;>omega
theorem GG {bg:Int} {l:List kG} (h:uY bg l=true):wL l/\l.length<=32:=by
 unfold uY at h
 split at h
 ·cases h
 ·rename_i hb
  refine⟨fun k s hs=>by have:=Au l 0 h k s hs;simpa using this,?_⟩;simp only[Bool.or_eq_true,decide_eq_true_eq]at hb;omega
theorem JR {i:Int}:∀(l:List kG) (j:Nat) (k:Nat) (s:kG),l[k]? =some s->s.p=i->((j+k:Nat):Int)∈Ah i j l
 |[],j,k,s,h,_=>by simp at h
 |x::l,j,0,s,h,hp=>by
  simp only[List.getElem?_cons_zero,Option.some.injEq]at h;subst h;unfold Ah;rw[if_pos hp];simp
 |x::l,j,k+1,s,h,hp=>by
  have:=JR l (j+1) k s (by simpa using h) hp;rw[show j+1+k=j+(k+1) by omega]at this;unfold Ah
  split
  ·exact List.mem_cons_of_mem _ this
  ·exact this
theorem wM (i:Int):∀(l:List kG) (j:Nat),(Ah i j l).length=l.countP fun s:kG=>decide (s.p=i)
 |[],j=>rfl
 |x::l,j=>by
  have ih:=wM i l (j+1);unfold Ah;rw[List.countP_cons]
  by_cases h:x.p=i
  ·rw[if_pos h,List.length_cons,ih,if_pos (by simpa using h)]
  ·rw[if_neg h,ih,if_neg (by simpa using h)];rfl
def cntF (l:List kG) (k:Nat):Nat:=l.countP fun s:kG=>decide (s.p<(k:Int))
theorem LM {l:List kG} (h:wL l):cntF l 0=(Ah (-1) 0 l).length:=by
 rw[wM];unfold cntF
 apply List.countP_congr
 intro s hs;obtain⟨k,hk,rfl⟩:=List.mem_iff_getElem.1 hs;have:=h k _ (List.getElem?_eq_getElem hk);simp only[decide_eq_true_eq];omega
theorem LQ (l:List kG) (k:Nat):cntF l (k+1)=cntF l k+(Ah k 0 l).length:=by
 rw[wM];unfold cntF
 induction l with
 |nil=>rfl
 |cons x l ih=>
  rw[List.countP_cons,List.countP_cons,List.countP_cons,ih]
  by_cases h1:x.p<k
  ·rw[if_pos (by simp;omega),if_pos (by simpa using h1),if_neg (by simp;omega)];omega
  ·by_cases h2:x.p=k
   ·rw[if_pos (by simp;omega),if_neg (by simpa using h1),if_pos (by simpa using h2)];omega
   ·rw[if_neg (by simp;omega),if_neg (by simpa using h1),if_neg (by simpa using h2)];omega
theorem Qd {l:List kG} (h:wL l):cntF l l.length=l.length:=by
 unfold cntF;rw[List.countP_eq_length];intro s hs;obtain⟨k,hk,rfl⟩:=List.mem_iff_getElem.1 hs;have:=h k _ (List.getElem?_eq_getElem hk);simp only[decide_eq_true_eq];omega
theorem JS (l:List kG) (k:Nat):cntF l k<=l.length:=List.countP_le_length
theorem CX (l:List kG):oW l (-1)=[]:=by unfold oW;rw[if_neg (by omega)]
theorem wO {l:List kG} (h:wL l) {k:Nat} (hk:k<l.length):mO l k=mO l l[k].p++[(k:Int)]:=by
 have hp:=h k _ (List.getElem?_eq_getElem hk);have hs:=Ar (l:=l) (i:=(k:Int)) (by omega) (by simpa using hk);simp only[Int.toNat_natCast]at hs;rw[if_pos hp.2]at hs;unfold mO;rw[hs,List.reverse_cons]
theorem CY {l:List kG} (h:wL l):∀(n k:Nat),k<n->k<l.length->∃(r:Nat) (t:List Int) (s:kG),mO l k=(r:Int)::t/\l[r]? =some s/\s.p= -1
 |0,k,h0,_=>by omega
 |n+1,k,hkn,hk=>by
  have hp:=h k _ (List.getElem?_eq_getElem hk);rw[wO h hk]
  by_cases h1:l[k].p= -1
  ·refine⟨k,[],l[k],?_,List.getElem?_eq_getElem hk,h1⟩;rw[h1];unfold mO;rw[CX];rfl
  ·obtain⟨q,hq⟩:∃q:Nat,l[k].p=q:=⟨l[k].p.toNat,by omega⟩
   rw[hq];rw[hq]at hp;obtain⟨r,t,s,h2,h3,h4⟩:=CY h n q (by omega) (by omega);exact⟨r,t++[(k:Int)],s,by rw[h2];rfl,h3,h4⟩
theorem GH {l:List kG} (h:wL l):∀(n k:Nat),k<n->k<l.length->(mO l k).length<=k+1
 |0,k,h0,_=>by omega
 |n+1,k,hkn,hk=>by
  have hp:=h k _ (List.getElem?_eq_getElem hk);rw[wO h hk,List.length_append]
  by_cases h1:l[k].p= -1
  ·rw[h1];unfold mO;rw[CX];simp
  ·obtain⟨q,hq⟩:∃q:Nat,l[k].p=q:=⟨l[k].p.toNat,by omega⟩
   rw[hq];rw[hq]at hp;have:=GH h n q (by omega) (by omega);simp only[List.length_cons,List.length_nil];omega
end Go.Proofs.Ytbjnhllkdilpfaa
namespace Go.Proofs.Ytbjnhllkdilpfaa
open Go.RowKit
set_option linter.unusedVariables false
section
variable {P:Program} {ops:Array Oper} {Q:Exit->Act->World->Prop} {n p:Nat} {a0:Act} {W:World} {row:Option Nat} {R:Nat->Spec} {k:Nat} {o:Oper}
theorem D9 {L:Nat->Bool} {a:Act} {w:World} (hi:uD ops n (fun _=>false) a0 p (sU W row) (Spec.both p R) L a w) (ho:ops[k]? =some o) (hA:∀e∈o.after,Region.binds .any e=true->L e.on=true) {g:Nat} {b:Bool} (hR:R g=.is (.bool b)) (hd:((ops[g]?).bind (·.dst)).isSome=true) (hw:(decide (g<n)&&waits ops k g)=true):yielded ops a.tmps g=some b:=by
 simp only[Bool.and_eq_true,decide_eq_true_eq]at hw;obtain⟨v,h1,h2⟩:=hi.got g hw.1 (dH ho hw.2 hi.closed hA);unfold Spec.both at h2;rw[hR]at h2;have h2:v=.bool b:=h2;subst h2;exact vO (w:=w) hR hd ⟨_,h1,by unfold Spec.holds;rw[hR]⟩
theorem bC.GI {rest : List Oper} (ho : ops[k]? = some o) (l ds : List Nat) (hkp : (k == p) = false) (op : Oper) (hop : ops[p]? = some op) (hw : waits ops p k = true) (g : Nat) (b : Bool) (hg : o.guard = some (g, b)) (hR : R g = .is (.bool b)) (hd : ((ops[g]?).bind (·.dst)).isSome = true) (hwg : (decide (g < n) && waits ops k g) = true) (hl : (l.all fun j => decide (j < n) && waits ops k j) = true) (hds : ds.all (outer ops) = true)
  (h:∀(K:Act->World->Prop) (a:Act) (w:World),Below W.heap.size W w->dN ops a0 a ds->Facts ops (fun k v w=>(R k).holds v w) a w l->(∀v w',Below w.heap.size w w'->(R k).holds v w'->K (a.put o.dst v) w')->o.wp P a w K Q)
  (hr:bC P Q ops n a0 W row p R (k+1) rest):bC P Q ops n a0 W row p R k (o::rest):=by
 refine⟨fun K L a w hi hLk hA hK=>?_,hr⟩;have hy:=D9 hi ho hA hR hd hwg;rw[if_pos (by unfold Region.wanted;rw[hg];simp[hy])]
 have yu:L p=false:=by
  cases hx:L p with
  |false=>rfl
  |true=>
   have:=dH hop hw hi.closed (fun e he hb=>hi.closed p op hop hx e he hb);rw[hLk]at this;cases this
 have hs:=hi.s;rw[yu]at hs hK;rw[hkp]at hK;exact h K a w hs (bM hi.old ds hds) (zI hi yu ho hA hl) (fun v w' h1 h2=>hK v w' h1.size (sU.keep hs h1) (fun j u _ h=>wu h1 h) (wF.2 h2) (fun h=>by cases h))
theorem bC.appY {rest : List Oper} (ho : ops[p]? = some o) (l ds : List Nat) (g : Nat) (b : Bool) (hg : o.guard = some (g, b)) (hR : R g = .is (.bool b)) (hd : ((ops[g]?).bind (·.dst)).isSome = true) (hwg : (decide (g < n) && waits ops p g) = true) (hl : (l.all fun j => decide (j < n) && waits ops p j) = true) (hds : ds.all (outer ops) = true)
  (h:∀(K:Act->World->Prop) (a:Act) (w:World),Below W.heap.size W w->dN ops a0 a ds->Facts ops (fun k v w=>(R k).holds v w) a w l->(∀v w',W.grownBy w' row->w.heap.size<=w'.heap.size->(R p).holds v w'->K (a.put o.dst v) w')->o.wp P a w K Q)
  (hr:bC P Q ops n a0 W row p R (p+1) rest):bC P Q ops n a0 W row p R p (o::rest):=by
 refine⟨fun K L a w hi hLk hA hK=>?_,hr⟩;have hy:=D9 hi ho hA hR hd hwg;rw[if_pos (by unfold Region.wanted;rw[hg];simp[hy])];have hs:=hi.s;rw[hLk]at hs hK;rw[show(false||(p==p))=true from by simp]at hK;refine h K a w hs (bM hi.old ds hds) (zI hi hLk ho hA hl) (fun v w' h1 h0 h2=>hK v w' h0 h1 (fun j u hj h=>Cf hj h) ?_ (fun h=>by cases h));unfold Spec.both;cases hR:R p with
 |any=>trivial
 |is x=>rw[hR]at h2;exact h2
 |st q hq=>rw[hR]at h2;exact .inr h2
theorem bC.Aw {rest : List Oper} (ho : ops[k]? = some o) (l ds : List Nat) (hkp : (k == p) = false) (g : Nat) (b : Bool) (hg : o.guard = some (g, b)) (hRg : R g = .is (.bool b)) (hd : ((ops[g]?).bind (·.dst)).isSome = true) (hwg : (decide (g < n) && waits ops k g) = true) (hl : (l.all fun j => decide (j < n) && waits ops k j) = true) (hds : ds.all (outer ops) = true) (X : Value) (hX : R k = .is X)
  (h:∀(K:Act->World->Prop) (a:Act) (w:World),W.grownBy w row->dN ops a0 a ds->qQ ops R a l->K (a.put o.dst X) w->o.wp P a w K Q)
  (hr:bC P Q ops n a0 W row p R (k+1) rest):bC P Q ops n a0 W row p R k (o::rest):=by
 refine⟨fun K L a w hi hLk hA hK=>?_,hr⟩;have hy:=D9 hi ho hA hRg hd hwg;rw[if_pos (by unfold Region.wanted;rw[hg];simp[hy])];rw[hkp,Bool.or_false]at hK
 have hG:W.grownBy w row:=by
  have hs:=hi.s;unfold sU at hs
  split at hs
  ·exact hs
  ·have hs:Below W.heap.size W w:=hs;exact⟨hs.os,hs.tape,hs.output,hs.size,fun q hq _=>hs.block q hq⟩
 refine h K a w hG (bM hi.old ds hds) (uF hi ho hA hl) (hK X w zL hi.s (fun j u _ h=>h) ?_ (fun h=>by cases h));unfold Spec.both;rw[hX]
theorem bC.aftY {rest : List Oper} (ho : ops[k]? = some o) (l ds : List Nat) (hkp : (k == p) = false) (hp : (decide (p < n) && waits ops k p) = true) (g : Nat) (b : Bool) (hg : o.guard = some (g, b)) (hRg : R g = .is (.bool b)) (hd : ((ops[g]?).bind (·.dst)).isSome = true) (hwg : (decide (g < n) && waits ops k g) = true) (hl : (l.all fun j => decide (j < n) && waits ops k j) = true) (hds : ds.all (outer ops) = true) (X : Value) (hX : R k = .is X)
  (h:∀(K:Act->World->Prop) (a:Act) (w:World),W.grownBy w row->dN ops a0 a ds->qQ ops R a l->(∃v,aT ops a p v/\(R p).holds v w)->(∀w',Below w.heap.size w w'->K (a.put o.dst X) w')->o.wp P a w K Q)
  (hr:bC P Q ops n a0 W row p R (k+1) rest):bC P Q ops n a0 W row p R k (o::rest):=by
 refine⟨fun K L a w hi hLk hA hK=>?_,hr⟩;have hy:=D9 hi ho hA hRg hd hwg;rw[if_pos (by unfold Region.wanted;rw[hg];simp[hy])];rw[hkp,Bool.or_false]at hK;simp only[Bool.and_eq_true,decide_eq_true_eq]at hp;have yu:=dH ho hp.2 hi.closed hA;have hs:=hi.s;obtain⟨v,h1,h2⟩:=hi.got p hp.1 yu;rw[yu]at hs h2;refine h K a w (by unfold sU at hs;rw[if_pos rfl]at hs;exact hs) (bM hi.old ds hds) (uF hi ho hA hl) ⟨v,h1,yC h2⟩ (fun w' hb=>hK X w' hb.size (hi.s.keep hb) (fun j u _ h=>wu hb h) ?_ (fun h=>by cases h));unfold Spec.both;rw[hX]
end
end Go.Proofs.Ytbjnhllkdilpfaa
namespace Go.Proofs.Ytbjnhllkdilpfaa
open Go.RowKit
set_option linter.unusedSimpArgs false
set_option linter.unusedVariables false
set_option maxHeartbeats 16000000
set_option maxRecDepth 100000
theorem I9 (l:List Int):(aI l).length=l.length:=by unfold aI;simp
theorem Ja (l:List Int):∀u∈aI l,u.oneCell'=true:=by
 intro u hu;unfold aI at hu;obtain⟨x,_,rfl⟩:=List.mem_map.1 hu;rfl
theorem GK (l:List Int) (x:Int):aI (l++[x])=aI l++[.int .i64 x]:=by unfold aI;simp
theorem Ea {w w':World} (h:w.grownBy w' none):Below w.heap.size w w':=⟨h.os,h.tape,h.output,h.size,fun k hk=>h.block k hk (by simp)⟩
theorem Eb (base : Nat) {P : Program} {w : World} {o : Oper} {a : Act} {K : Act → World → Prop} {Q : Exit → Act → World → Prop} (s x : Operand) (t : TypeId)
  (ho:o.op=.call {callee:=.builtin .append,args:=#[s,x],argTypes:=#[t,t]})
  (e:TypeId) (i:TypeInfo) (z:Value) (ht:P.underlying t=some (.slice e)) (hi:P.info? e=some i) (hz:i.zero=some z)
  (hsize:i.size=1) (hby:i.bytes=8) (hzs:z.cells.size=1) (g:Nat) (hs:a.eval s=.slice (some ⟨g,0,none⟩) 0 0) (hg:Bk w g e #[]) (hb:base<=g) (hbw:base<=w.heap.size)
  (B:Nat) (A:Option Addr) (m c:Nat) (news:List Value) (hx:a.eval x=.slice A m c) (hr:Rd w B A news) (hl:news.length=m) (h1:∀u∈news,u.oneCell'=true) (hm:m<=1000000)
  (h:∀A' c' w',w'.ownsRow base e 1 (.slice A' m c') m news->Below w.heap.size w w'->K (a.put o.dst (.slice A' m c')) w'):o.wp P a w K Q:=by
 by_cases h0:m=0
 ·subst h0;have hn:news=[]:=List.eq_nil_of_length_eq_zero hl;subst hn;unfold Oper.wp execOp;simp only[ho,resolve,invoke,builtin,Sem.run_bind,Sem.run_pure,Result.andThen_ok,List.map_toArray,List.map_cons,List.map_nil,hs,hx]
  have hrun:(Builtin.append_ #[t,t] o.type #[.slice (some ⟨g,0,none⟩) 0 0,.slice A 0 c]).run P w=.ok (.slice (some ⟨g,0,none⟩) 0 0) w:=by
   rcases A with _|ad
   ·simp[Builtin.append_,run_underlying ht,sizeOf,typeInfo,hi,Builtin.lenOf,Builtin.firstCells,storeCells]
   ·simp[Builtin.append_,run_underlying ht,sizeOf,typeInfo,hi,Builtin.lenOf,Builtin.firstCells,storeCells,loadCells,loadCellsFrom]
  rw[hrun];exact h _ _ _ ⟨rfl,.inr ⟨g,0,#[],rfl,hb,hg,Nat.le_refl _,Nat.zero_le _,rfl,rfl⟩⟩ zR
 ·rcases A with _|ad
  ·rcases hr with h|⟨_,_,h,_⟩
   ·rw[h]at hl;exact absurd hl.symm h0
   ·cases h
  ·have hcells:∀j u,news[j]? =some u->w.cell? (ad.add j)=some u:=by
    intro j u hu;rcases hr with h|⟨b,o,h,hb,hc⟩
    ·rw[h]at hu;simp at hu
    ·obtain rfl:ad=⟨b,o,none⟩:=by injection h
     have e:((⟨b,o,none⟩:Addr).add j)=⟨b,o+j,none⟩:=by unfold Addr.add;by_cases hj:j=0<;>simp[hj]
     rw[e];exact hc j u hu
   have hrun:=run_append_grow (P:=P) w t o.type e i z ht hi hz ⟨g,0,none⟩ 0 0 [] (by simp) (by simp) ad m c news (by rw[hsize,Nat.mul_one];exact hl) hcells (by omega) (by omega) (growslice_fits (by omega) (by rw[hby];omega));simp only[Nat.zero_add,List.nil_append]at hrun;have hcm:grownCap w m 0 e<=maxLen:=grownCap_le_maxLen w m 0 e (by unfold maxLen;omega);have hge:=grownCap_ge w m 0 e;unfold Oper.wp execOp;simp only[ho,resolve,invoke,builtin,Sem.run_bind,Sem.run_pure,Result.andThen_ok,List.map_toArray,List.map_cons,List.map_nil,hs,hx,hrun];refine h _ _ _ ⟨by rw[Nat.mul_one];exact hl,.inr ⟨w.heap.size,_,_,rfl,hbw,heap_alloc_new w.drew _,hge,hcm,?_,?_⟩⟩ ⟨rfl,rfl,rfl,by simp,fun k hk=>heap_alloc_old w.drew _ hk⟩
   ·simp only[Array.size_append,List.size_toArray,size_zeroCells,hzs,hl,List.length_nil,Nat.mul_one];omega
   ·rw[Nat.mul_one];simp only[Array.toList_append,List.nil_append];rw[<-hl];simp
def XI (g1 g o n c gl ol nL cL nU cU k r0 wz:Nat) (AU:Option Addr) (U:List Int):List Spec:=[.is (.slice (some ⟨gl,ol,none⟩) nL cL),
 .is (.int .i64 (nL:Nat)),
 .is (.bool false),
 .is (.bool false),
 .st (fun v w=>∃g,v=.slice (some ⟨g,0,none⟩) 0 0/\wz<=g/\Bk w g 3 #[]) (fun _ _ _ hb ⟨g,h1,h0,h2⟩=>⟨g,h1,h0,h2.old hb⟩),
 .is (.slice AU nU cU),
 .st (fun v w=>∃(A:Option Addr) (c:Nat),v=.slice A nU c/\w.ownsRow wz 3 1 (.slice A nU c) nU (aI U)) (fun _ _ _ hb ⟨A,c,h1,h2⟩=>⟨A,c,h1,aP h2 hb⟩),
 .is (.int .i64 k),
 .st (fun v w=>∃g,v=.slice (some ⟨g,0,none⟩) 1 1/\Bk w g 3 #[.int .i64 k]) (fun _ _ _ hb ⟨g,h1,h2⟩=>⟨g,h1,h2.old hb⟩),
 .st (fun v w=>∃(A:Option Addr) (c:Nat),v=.slice A (nU+1) c/\w.ownsRow wz 3 1 (.slice A (nU+1) c) (nU+1) (aI (U++[(k:Int)]))) (fun _ _ _ hb ⟨A,c,h1,h2⟩=>⟨A,c,h1,aP h2 hb⟩),
 .is (.slice (some ⟨gl,ol,none⟩) nL cL),
 .is (.bool true),
 .is (.bool false),
 .is (.bool false),
 .is (.bool false),
 .is (.pointer (some ⟨g1,2,none⟩)),
 .is (.slice (some ⟨g,o,none⟩) n c),
 .is (.slice (some ⟨gl,ol,none⟩) nL cL),
 .is (.pointer (some ⟨gl,ol,none⟩)),
 .is (.int .i64 r0)]
theorem zAr (bg:Int) (kA A:Option Addr) (kn kc c:Nat) (l:List kG) (w:World) (h:PZ A l w):Calls Try.prog 4 #[.agg #[.int .i64 bg,.slice kA kn kc,.slice A l.length c]] w fun r w'=>r=.returned (.bool true)/\Below w.heap.size w w':=by
 have HI:=zH h;obtain⟨n,hn⟩:∃z,l.length=z:=⟨_,rfl⟩
 have HN:=zH hn;rw[hn];clear h hn
 go_enter Try.func4,Try.ntmps4
 have k1:=Bk.new w 34 #[.int .i64 bg,.slice kA kn kc,.slice A n c];have hb1:Below w.heap.size w (w.alloc (.cells #[.int .i64 bg,.slice kA kn kc,.slice A n c] 34)):=zR.alloc zL _;go_upto_region 1 with fail
 obtain⟨w1,hw1⟩:∃z,w.alloc (.cells #[.int .i64 bg,.slice kA kn kc,.slice A n c] 34)=z:=⟨_,rfl⟩
 rw[hw1]at k1 hb1⊢;obtain⟨g1,hg1⟩:∃z,w.heap.size=z:=⟨_,rfl⟩
 rw[hg1]at k1⊢;have vW:Hid (Below w.heap.size w w1/\Bk w1 g1 34 #[.int .i64 bg,.slice kA kn kc,.slice A n c]):=zH ⟨hb1,k1⟩;clear k1 hb1 hw1 hg1;go_wp2_with fail
 refine(qy _).mono ?_;rintro r w2 ⟨rfl,hb2⟩;have iM:Hid (Below w.heap.size w w2/\Bk w2 g1 34 #[.int .i64 bg,.slice kA kn kc,.slice A n c]):=zH ⟨vW.out.1.trans (hb2.mono vW.out.1.size),vW.out.2.old hb2⟩;have v0:w2.cell? ⟨g1,0,none⟩=some (.int .i64 bg):=iM.out.2.cell 0;have v1:w2.cell? ⟨g1,1,none⟩=some (.slice kA kn kc):=iM.out.2.cell 1;have v2:w2.cell? ⟨g1,2,none⟩=some (.slice A n c):=iM.out.2.cell 2;have hgd:=Gx bg kA A kn kc c l w2 (HI.out.old iM.out.1);rw[HN.out]at hgd;obtain⟨gd,hgd2⟩:∃z,uY bg l=z:=⟨_,rfl⟩
 rw[hgd2]at hgd;have HGD:=zH hgd;have HG:=zH hgd2;clear hb2 vW hgd hgd2;go_wp2_with fail
 refine HGD.out.mono ?_;rintro r w3 ⟨rfl,hb3⟩;have mX:Hid (Below w.heap.size w w3/\Bk w3 g1 34 #[.int .i64 bg,.slice kA kn kc,.slice A n c]):=zH ⟨iM.out.1.trans (hb3.mono iM.out.1.size),iM.out.2.old hb3⟩;clear hb3 HGD v0 v1 v2 iM;cases gd
 case false=>
  as_aux_lemma=>
  go_wp2_with fail
  refine(qy _).mono ?_;rintro r w4 ⟨rfl,hb4⟩;have HF:=zH (mX.out.1.trans (hb4.mono mX.out.1.size));clear hb4 mX;go_wp2
  go_ret
  exact⟨rfl,HF.out⟩
 case true=>
 have htr:=GG HG.out;have HT:=zH htr.1;have hn32:n<=32:=by rw[<-HN.out];exact htr.2
 have v0:w3.cell? ⟨g1,0,none⟩=some (.int .i64 bg):=mX.out.2.cell 0;have v1:w3.cell? ⟨g1,1,none⟩=some (.slice kA kn kc):=mX.out.2.cell 1;have v2:w3.cell? ⟨g1,2,none⟩=some (.slice A n c):=mX.out.2.cell 2;have hch:=oM bg kA A kn kc c l (-1) w3 (HI.out.old mX.out.1);rw[HN.out,<-LM htr.1]at hch;have hc0:cntF l 0<=n:=by rw[<-HN.out];exact JS l 0
 obtain⟨m0,hm0⟩:∃z,cntF l 0=z:=⟨_,rfl⟩
 rw[hm0]at hch hc0;have UU:=zH hch;have Az:=zH hm0;clear hch htr hm0;go_wp2_with fail
 refine UU.out.mono ?_;rintro r w4 ⟨A',c',rfl,_,hb4⟩;have gZ:Hid (Below w.heap.size w w4/\Bk w4 g1 34 #[.int .i64 bg,.slice kA kn kc,.slice A n c]):=zH ⟨mX.out.1.trans (hb4.mono mX.out.1.size),mX.out.2.old hb4⟩;clear hb4 UU v0 v1 v2 mX;have v2:w4.cell? ⟨g1,2,none⟩=some (.slice A n c):=gZ.out.2.cell 2;go_wp2_with fail
 clear v2;have lJ:=gZ;have yh:Hid (m0=cntF l 0):=zH Az.out.symm;clear Az gZ
 go_loopw[3,25] (fun nv iv wr=>∃k m:Nat,k<=n/\m<=n/\nv=.int .i64 m/\iv=.int .i64 k/\Hid (m=cntF l k)/\Hid (Below w.heap.size w wr/\Bk wr g1 34 #[.int .i64 bg,.slice kA kn kc,.slice A n c])) (fun _ iv _=>n-(intOf iv).toNat)
 case atStart=>exact⟨0,m0,Nat.zero_le _,hc0,rfl,rfl,yh,lJ⟩
 case round=>
  clear yh lJ;obtain⟨k,m,hk,hm,rfl,rfl,HM,HV⟩:=hrel;obtain⟨wo,rfl⟩:∃wo:World,wo=wr:=⟨_,rfl⟩
  by_cases hlt:k<n
  ·as_aux_lemma=>
   have hkl:k<l.length:=by rw[HN.out];exact hlt
   obtain⟨g,o,rfl,hg,hc⟩:=HI.out.rd.elem (n:=8) rE (by omega) hkl;obtain⟨s,hs⟩:∃z,l[k]=z:=⟨_,rfl⟩
   rw[hs]at hc;have hps:=wO HT.out hkl;rw[hs]at hps;have hmem:=JR l 0 k s (by rw[List.getElem?_eq_getElem hkl,hs]) rfl;obtain⟨p,t,mb,win,⟨A4,n4,c4⟩,⟨A5,n5,c5⟩,⟨A6,n6,c6⟩,eA,ec,es⟩:=s;simp only[Nat.zero_add]at hps hmem;obtain⟨ne,hne⟩:∃z,es.length=z:=⟨_,rfl⟩
   have hcc:∀(q:Nat) (u:Value),(kG.mk p t mb win ⟨A4,n4,c4⟩ ⟨A5,n5,c5⟩ ⟨A6,n6,c6⟩ eA ec es).cells[q]? =some u->wo.cell? ⟨g,o+k*8+q,none⟩=some u:=fun q u hu=>(aU HV.out.1 g _ hg).trans (hc q u hu)
   have r0:wo.cell? ⟨g,o+k*8,none⟩=some (.int .i64 p):=hcc 0 _ rfl;have r1:wo.cell? ⟨g,o+k*8+1,none⟩=some (.int .i64 t):=hcc 1 _ rfl;have r2:wo.cell? ⟨g,o+k*8+2,none⟩=some (.bool mb):=hcc 2 _ rfl;have r3:wo.cell? ⟨g,o+k*8+3,none⟩=some (.int .i64 win):=hcc 3 _ rfl;have r4:wo.cell? ⟨g,o+k*8+4,none⟩=some (.slice A4 n4 c4):=hcc 4 _ rfl;have r5:wo.cell? ⟨g,o+k*8+5,none⟩=some (.slice A5 n5 c5):=hcc 5 _ rfl;have r6:wo.cell? ⟨g,o+k*8+6,none⟩=some (.slice A6 n6 c6):=hcc 6 _ rfl;have r7:wo.cell? ⟨g,o+k*8+7,none⟩=some (.slice eA ne ec):=by rw[<-hne];exact hcc 7 _ rfl
   have KQ:=zH hps;have HME:=zH hmem;clear hcc hc hps hmem hne hs hg;go_upto_region 7 with(first|(refine ae D5 rfl _ _ rfl rfl [.int .i64 p,.int .i64 t,.bool mb,.int .i64 win,.slice A4 n4 c4,.slice A5 n5 c5,.slice A6 n6 c6,.slice eA ne ec] rfl (Bk.new wo _ _) rfl rfl rfl ?_;intro w5 p5;go_frame))
   have hb5:Below wo.heap.size wo w5:=p5.below _ _ (zR.alloc zL _) zL;obtain⟨gt,hgt⟩:∃z,wo.heap.size=z:=⟨_,rfl⟩
   have hkt:=p5.bk;rw[hgt]at hkt⊢;have HV5:Hid (Below w.heap.size w w5/\Bk w5 g1 34 #[.int .i64 bg,.slice kA kn kc,.slice (some ⟨g,o,none⟩) n c]/\Bk w5 gt 44 #[.int .i64 p,.int .i64 t,.bool mb,.int .i64 win,.slice A4 n4 c4,.slice A5 n5 c5,.slice A6 n6 c6,.slice eA ne ec]):=zH ⟨HV.out.1.trans (hb5.mono HV.out.1.size),HV.out.2.old hb5,hkt⟩;clear r0 r1 r2 r3 r4 r5 r6 r7 p5 hb5 hkt hgt HV;have v0:w5.cell? ⟨g1,0,none⟩=some (.int .i64 bg):=HV5.out.2.1.cell 0;have v1:w5.cell? ⟨g1,1,none⟩=some (.slice kA kn kc):=HV5.out.2.1.cell 1;have v2:w5.cell? ⟨g1,2,none⟩=some (.slice (some ⟨g,o,none⟩) n c):=HV5.out.2.1.cell 2;have hpa:=Gz bg kA (some ⟨g,o,none⟩) kn kc c l (k:Int) w5 (HI.out.old HV5.out.1);rw[HN.out]at hpa;have PK:=zH hpa;clear hpa;go_wp2_with fail
   refine PK.out.mono ?_;rintro r w6 ⟨AL,cL,rfl,UW,hb6⟩;have dS:Hid (Below w.heap.size w w6/\Bk w6 g1 34 #[.int .i64 bg,.slice kA kn kc,.slice (some ⟨g,o,none⟩) n c]/\Bk w6 gt 44 #[.int .i64 p,.int .i64 t,.bool mb,.int .i64 win,.slice A4 n4 c4,.slice A5 n5 c5,.slice A6 n6 c6,.slice eA ne ec]):=zH ⟨HV5.out.1.trans (hb6.mono HV5.out.1.size),HV5.out.2.1.old hb6,HV5.out.2.2.old hb6⟩;have HL6:=zH (bP UW);clear UW hb6 PK v0 v1 v2 HV5;have v0:w6.cell? ⟨g1,0,none⟩=some (.int .i64 bg):=dS.out.2.1.cell 0;have v1:w6.cell? ⟨g1,1,none⟩=some (.slice kA kn kc):=dS.out.2.1.cell 1;have v2:w6.cell? ⟨g1,2,none⟩=some (.slice (some ⟨g,o,none⟩) n c):=dS.out.2.1.cell 2;have t0:w6.cell? ⟨gt,0,none⟩=some (.int .i64 p):=dS.out.2.2.cell 0;have hpa:=Gz bg kA (some ⟨g,o,none⟩) kn kc c l p w6 (HI.out.old dS.out.1);rw[HN.out]at hpa;have PK:=zH hpa;clear hpa;go_wp2_with fail
   refine PK.out.mono ?_;rintro r w7 ⟨AU,cU,rfl,UX,hb7⟩;have vz:Hid (Below w.heap.size w w7/\Bk w7 g1 34 #[.int .i64 bg,.slice kA kn kc,.slice (some ⟨g,o,none⟩) n c]/\Bk w7 gt 44 #[.int .i64 p,.int .i64 t,.bool mb,.int .i64 win,.slice A4 n4 c4,.slice A5 n5 c5,.slice A6 n6 c6,.slice eA ne ec]):=zH ⟨dS.out.1.trans (hb7.mono dS.out.1.size),dS.out.2.1.old hb7,dS.out.2.2.old hb7⟩;have HL7:=zH (HL6.out.oldR hb7);have HU7:=zH (bP UX);clear UX hb7 PK v0 v1 v2 t0 dS HL6;obtain⟨r0,tl,sr,hr1,hr2,hr3⟩:=CY HT.out (k+1) k (Nat.lt_succ_self _) hkl;have hpl:=GH HT.out (k+1) k (Nat.lt_succ_self _) hkl;have hps:=KQ.out;obtain⟨L,hL⟩:∃z,mO l (k:Int)=z:=⟨_,rfl⟩
   obtain⟨U,hU⟩:∃z,mO l p=z:=⟨_,rfl⟩
   have hl7:=HL7.out;have hu7:=HU7.out;rw[hL]at hr1 hpl hps hl7⊢;rw[hU]at hps hu7⊢;obtain⟨nL,O6⟩:∃z,L.length=z:=⟨_,rfl⟩
   obtain⟨nU,hnU⟩:∃z,U.length=z:=⟨_,rfl⟩
   have hLU:nL=nU+1:=by rw[<-O6,hps,List.length_append,hnU];rfl
   rw[O6]at hpl⊢;rw[hnU];have HNU:=zH hnU;have hn33:nL<=33:=by omega
   have hLU1:nL<=nU+1:=by omega
   have hLU2:nU+1<=nL:=by omega
   have hnl0:0<nL:=by omega
   clear hLU
   have HSM:Hid (∀(W:World) (A0:Option Addr) (c0:Nat),Rd W W.heap.size A0 (aI (U++[(k:Int)]))->Rd W W.heap.size AL (aI L)->Calls Try.prog 11 #[.slice A0 (nU+1) c0,.slice AL nL cL] W fun r w'=>r=.returned (.bool true)/\Below W.heap.size W w'):=zH (by
    intro W A0 c0 h1 h2;have hx:=LH A0 AL c0 cL (U++[(k:Int)]) L W h1 h2 (by rw[<-hps,O6];omega) (by rw[O6];omega);rw[show(U++[(k:Int)]).length=nU+1 from by rw[List.length_append,hnU];rfl,O6,decide_eq_true hps.symm]at hx
    exact hx)
   obtain⟨gl,ol,hAL,hgl,s0⟩:=ints_at hl7 (k:=0) (by rw[O6];omega);rw[Nat.add_zero]at s0;have hs0:L[0]'(by rw[O6];omega)=(r0:Int):=by simp[hr1]
   rw[hs0]at s0;have hrl:r0<l.length:=(List.getElem?_eq_some_iff.1 hr2).1;obtain⟨g',o',hA2,hg',hc'⟩:=HI.out.rd.elem (n:=8) rE (by omega) hrl;injection hA2 with hA2
   injection hA2 with hA2 hA3
   subst hA2 hA3
   have hcr:w7.cell? ⟨g,o+r0*8,none⟩=some (.int .i64 (-1)):=by
    have h1:=hc' 0 (.int .i64 sr.p) (by rw[(List.getElem?_eq_some_iff.1 hr2).2];rfl);rw[hr3]at h1;exact(aU vz.out.1 g _ hg').trans h1
   rw[HN.out]at hrl;obtain⟨iT,hT,hT0,hT1,hT2⟩:=info_parts qL;obtain⟨wz,hwz⟩:∃z,w7.heap.size=z:=⟨_,rfl⟩
   have Ud:=zH hwz;have hl7':=hl7;subst hAL;have HL7:=zH hl7';have HU7:=zH hu7;have v2:w7.cell? ⟨g1,2,none⟩=some (.slice (some ⟨g,o,none⟩) n c):=vz.out.2.1.cell 2;have HCR:=zH (And.intro hg' hcr);clear hl7 hu7 hl7' hL hU hps hr1 hr2 hr3 hs0 O6 hnU hpl hc' hwz hcr hg' KQ hgl;go_upto_region 9 with fail
   refine mr 20 9 (none) (by decide) (by kernel_rfl) (fun qk=>(XI g1 g o n c gl ol nL cL nU cU k r0 wz AU U).getD qk .any) (by kernel_rfl) ?_ ?_
   ·refine bC.cons rfl [] [6] rfl _ rfl (by kernel_rfl) rfl (by kernel_rfl) (by kernel_rfl) (fun qK qa wr hB qO qF hK=>?_) ?_
    ·have e6:qa.tmps[6]? =some (.slice (some ⟨gl,ol,none⟩) nL cL):=qO.1.trans rfl;clear qO qF;go_simp;exact hK _ _ zR rfl
    refine bC.cons rfl [0] [] rfl _ rfl (by kernel_rfl) rfl (by kernel_rfl) (by kernel_rfl) (fun qK qa wr hB qO qF hK=>?_) ?_
    ·have e37:=aH qF.1 rfl rfl;clear qO qF;go_simp;exact hK _ _ zR rfl
    refine bC.cons rfl [1] [] rfl _ rfl (by kernel_rfl) rfl (by kernel_rfl) (by kernel_rfl) (fun qK qa wr hB qO qF hK=>?_) ?_
    ·have e38:=aH qF.1 rfl rfl;clear qO qF;go_simp;refine hK _ _ zR ?_
     show(_:Value)=_
     first|rfl|(congr 1;rw[beq_eq_false_iff_ne];omega)|(congr 1;simp;omega)
    refine bC.cons rfl [2] [] rfl _ rfl (by kernel_rfl) rfl (by kernel_rfl) (by kernel_rfl) (fun qK qa wr hB qO qF hK=>?_) ?_
    ·have e39:=aH qF.1 rfl rfl;clear qO qF;go_simp;exact hK _ _ zR (by first|rfl|(show(_:Value)=_;simp_all;done))
    refine bC.GI rfl [] [] rfl _ rfl (by kernel_rfl) 3 false rfl rfl rfl (by kernel_rfl) (by kernel_rfl) (by kernel_rfl) (fun qK qa wr hB qO qF hK=>?_) ?_
    ·clear qO qF;go_simp;exact hK _ _ (zR.alloc zL _) ⟨_,rfl,(by have:=hB.size;have:=Ud.out;omega),Bk.new _ _ _⟩
    refine bC.GI rfl [] [7] rfl _ rfl (by kernel_rfl) 3 false rfl rfl rfl (by kernel_rfl) (by kernel_rfl) (by kernel_rfl) (fun qK qa wr hB qO qF hK=>?_) ?_
    ·have e7:qa.tmps[7]? =some (.slice AU nU cU):=qO.1.trans rfl;clear qO qF;go_simp;exact hK _ _ zR rfl
    refine bC.GI rfl [4,5] [] rfl _ rfl (by kernel_rfl) 3 false rfl rfl rfl (by kernel_rfl) (by kernel_rfl) (by kernel_rfl) (fun qK qa wr hB qO qF hK=>?_) ?_
    ·obtain⟨u41,e41,r4⟩:=qF.1;obtain⟨g41,h41,z41,k41⟩:=(show∃g,u41=.slice (some ⟨g,0,none⟩) 0 0/\wz<=g/\Bk wr g 3 #[]from r4)
     subst h41;have e42:=aH qF.2.1 rfl rfl;clear qO qF;refine Eb wz _ _ 22 rfl 3 iT _ Try.underlying22 hT hT0 hT1 hT2 rfl g41 (bK e41) k41 z41 (by have:=hB.size;have:=Ud.out;omega) _ AU nU cU (aI U) (bK e42) ((HU7.out.below hB).more hB.size) (by rw[I9];exact HNU.out) (Ja U) (by omega) ?_;intro A6 c6 w6 ho6 hb6;exact hK _ _ hb6 ⟨A6,c6,rfl,ho6⟩
    refine bC.GI rfl [] [4] rfl _ rfl (by kernel_rfl) 3 false rfl rfl rfl (by kernel_rfl) (by kernel_rfl) (by kernel_rfl) (fun qK qa wr hB qO qF hK=>?_) ?_
    ·have e4:qa.tmps[4]? =some (.int .i64 k):=qO.1.trans rfl;clear qO qF;go_simp;exact hK _ _ zR rfl
    refine bC.GI rfl [7] [] rfl _ rfl (by kernel_rfl) 3 false rfl rfl rfl (by kernel_rfl) (by kernel_rfl) (by kernel_rfl) (fun qK qa wr hB qO qF hK=>?_) ?_
    ·have e44:=aH qF.1 rfl rfl;clear qO qF;go_simp;exact hK _ _ (zR.alloc zL _) ⟨_,rfl,Bk.new _ _ _⟩
    refine bC.appY rfl [6,8] [] 3 false rfl rfl rfl (by kernel_rfl) (by kernel_rfl) (by kernel_rfl) (fun qK qa wr hB qO qF hK=>?_) ?_
    ·obtain⟨u43,e43,r6⟩:=qF.1;obtain⟨A43,c43,h43,k43⟩:=(show∃(A:Option Addr) (c:Nat),u43=.slice A nU c/\wr.ownsRow wz 3 1 (.slice A nU c) nU (aI U)from r6)
     subst h43;obtain⟨u45,e45,r8⟩:=qF.2.1;obtain⟨XH,h45,k45⟩:=(show∃g,u45=.slice (some ⟨g,0,none⟩) 1 1/\Bk wr g 3 #[.int .i64 k]from r8)
     subst h45;have e45:qa.tmps[45]? =some (.slice (some ⟨XH,0,none⟩) 1 1):=e45;clear qO qF;refine eF _ _ 22 rfl wz 3 iT _ 1 8 Try.underlying22 hT hT0 hT1 hT2 rfl (by decide) (.slice A43 nU c43) nU _ (bK e43) k43 (XH+1) (some ⟨XH,0,none⟩) 1 1 [.int .i64 k] (bK e45) (Rd.bk k45 (Nat.lt_succ_self _)) rfl (by intro u hu;simp at hu;rcases hu with rfl;rfl) (by unfold maxLen;omega) (by omega) (by have:=hB.size;have:=Ud.out;omega) ?_;intro A9 c9 w9 bD jO hwh;refine hK _ _ ?_ jO.size ⟨A9,c9,rfl,by rw[GK];exact bD⟩;refine⟨jO.os.trans hB.os,jO.tape.trans hB.tape,jO.output.trans hB.output,Nat.le_trans hB.size jO.size,fun q hq _=>(jO.block q (Nat.lt_of_lt_of_le hq hB.size) ?_).trans (hB.block q hq)⟩;intro he;have:=(k43.lt q he.symm).1;have:=Ud.out;omega
    refine bC.Aw rfl [] [6] rfl 3 false rfl rfl rfl (by kernel_rfl) (by kernel_rfl) (by kernel_rfl) (.slice (some ⟨gl,ol,none⟩) nL cL) rfl (fun qK qa wr hG qO qF hK=>?_) ?_
    ·have e6:qa.tmps[6]? =some (.slice (some ⟨gl,ol,none⟩) nL cL):=qO.1.trans rfl;have hB:=Ea hG;clear qO qF;go_simp;exact hK
    refine bC.aftY rfl [10] [] rfl (by kernel_rfl) 3 false rfl rfl rfl (by kernel_rfl) (by kernel_rfl) (by kernel_rfl) (.bool true) rfl (fun qK qa wr hG qO qF hAP hK=>?_) ?_
    ·have e47:=DF qF.1 rfl rfl;have hB:=Ea hG;clear qO qF;obtain⟨v46,e46,q46⟩:=hAP;obtain⟨A46,c46,h46,k46⟩:=(show∃(A:Option Addr) (c:Nat),v46=.slice A (nU+1) c/\wr.ownsRow wz 3 1 (.slice A (nU+1) c) (nU+1) (aI (U++[(k:Int)]))from q46)
     subst h46;have e46:qa.tmps[46]? =some (.slice A46 (nU+1) c46):=e46;go_simp
     go_at_call 11
     refine(HSM.out wr A46 c46 (bP k46) ((HL7.out.below hB).more hB.size)).mono ?_;rintro r w9 ⟨rfl,dZ⟩;exact hK w9 dZ
    refine bC.Aw rfl [11] [] rfl 3 false rfl rfl rfl (by kernel_rfl) (by kernel_rfl) (by kernel_rfl) (.bool false) rfl (fun qK qa wr hG qO qF hK=>?_) ?_
    ·have e48:=DF qF.1 rfl rfl;have hB:=Ea hG;clear qO qF;go_simp;exact hK
    refine bC.pure rfl [3,12] [] rfl rfl (by kernel_rfl) (by kernel_rfl) (.bool false) rfl (fun qK qa wr qO qF hK=>?_) ?_
    ·have e40:=DF qF.1 rfl rfl;have e49:=DF qF.2.1 rfl rfl;clear qO qF;go_simp;exact hK
    refine bC.pure rfl [13] [] rfl rfl (by kernel_rfl) (by kernel_rfl) (.bool false) rfl (fun qK qa wr qO qF hK=>?_) ?_
    ·have e50:=DF qF.1 rfl rfl;clear qO qF;go_simp;exact hK
    refine bC.Aw rfl [] [1] rfl 14 false rfl rfl rfl (by kernel_rfl) (by kernel_rfl) (by kernel_rfl) (.pointer (some ⟨g1,2,none⟩)) rfl (fun qK qa wr hG qO qF hK=>?_) ?_
    ·have e1:qa.tmps[1]? =some (.pointer (some ⟨g1,0,none⟩)):=qO.1.trans rfl;have hB:=Ea hG;clear qO qF;go_simp;exact hK
    refine bC.Aw rfl [15] [] rfl 14 false rfl rfl rfl (by kernel_rfl) (by kernel_rfl) (by kernel_rfl) (.slice (some ⟨g,o,none⟩) n c) rfl (fun qK qa wr hG qO qF hK=>?_) ?_
    ·have e52:=DF qF.1 rfl rfl;have hB:=Ea hG;clear qO qF;have hv2:=zE hB v2;go_simp;exact hK
    refine bC.Aw rfl [] [6] rfl 14 false rfl rfl rfl (by kernel_rfl) (by kernel_rfl) (by kernel_rfl) (.slice (some ⟨gl,ol,none⟩) nL cL) rfl (fun qK qa wr hG qO qF hK=>?_) ?_
    ·have e6:qa.tmps[6]? =some (.slice (some ⟨gl,ol,none⟩) nL cL):=qO.1.trans rfl;have hB:=Ea hG;clear qO qF;go_simp;exact hK
    refine bC.Aw rfl [17] [] rfl 14 false rfl rfl rfl (by kernel_rfl) (by kernel_rfl) (by kernel_rfl) (.pointer (some ⟨gl,ol,none⟩)) rfl (fun qK qa wr hG qO qF hK=>?_) ?_
    ·have e54:=DF qF.1 rfl rfl;have hB:=Ea hG;clear qO qF;go_simp;exact hK
    refine bC.Aw rfl [18] [] rfl 14 false rfl rfl rfl (by kernel_rfl) (by kernel_rfl) (by kernel_rfl) (.int .i64 r0) rfl (fun qK qa wr hG qO qF hK=>?_) ?_
    ·have e55:=DF qF.1 rfl rfl;have hB:=Ea hG;clear qO qF;have s0':=zE hB s0;go_simp;exact hK
    exact bC.nil
   intro vals wr hl hG hR
   match vals,hl with
   |[u37,u38,u39,u40,u41,u42,u43,u44,u45,u46,u47,u48,u49,u50,u51,u52,u53,u54,u55,u56],_=>
   have OG:u51=.bool false:=hR 14 _ rfl;subst OG;have r16:u53=.slice (some ⟨g,o,none⟩) n c:=hR 16 _ rfl;subst r16;have r19:u56=.int .i64 r0:=hR 19 _ rfl;subst r19;clear hR;simp only[List.take_succ_cons,List.take_zero,List.drop_succ_cons,List.drop_zero,List.toList_toArray,List.cons_append,List.nil_append,aN,Act.put,List.setIfInBounds_toArray,List.set_cons_zero,List.set_cons_succ];have hB:Below w7.heap.size w7 wr:=Ea hG;have hcr:=(aU hB g _ (World.block_lt_of_cell? _ _ HCR.out.2)).trans HCR.out.2;have pq:Hid (Below w.heap.size w wr/\Bk wr g1 34 #[.int .i64 bg,.slice kA kn kc,.slice (some ⟨g,o,none⟩) n c]/\Bk wr gt 44 #[.int .i64 p,.int .i64 t,.bool mb,.int .i64 win,.slice A4 n4 c4,.slice A5 n5 c5,.slice A6 n6 c6,.slice eA ne ec]):=zH ⟨vz.out.1.trans (hB.mono vz.out.1.size),vz.out.2.1.old hB,vz.out.2.2.old hB⟩;have v0':wr.cell? ⟨g1,0,none⟩=some (.int .i64 bg):=pq.out.2.1.cell 0;have v1':wr.cell? ⟨g1,1,none⟩=some (.slice kA kn kc):=pq.out.2.1.cell 1;have v2':wr.cell? ⟨g1,2,none⟩=some (.slice (some ⟨g,o,none⟩) n c):=pq.out.2.1.cell 2;have t0:wr.cell? ⟨gt,0,none⟩=some (.int .i64 p):=pq.out.2.2.cell 0;have hch:=oM bg kA (some ⟨g,o,none⟩) kn kc c l p wr (HI.out.old pq.out.1);rw[HN.out]at hch;obtain⟨C,hC⟩:∃z,Ah p 0 l=z:=⟨_,rfl⟩
   have hme:=HME.out;have hcl:=JQ p l 0;rw[hC]at hch hme hcl;rw[HN.out]at hcl;obtain⟨m1,hm1⟩:∃z,C.length=z:=⟨_,rfl⟩
   rw[hm1]at hch hcl;have yh:=zH hm1;have UU:=zH hch;have HME2:=zH hme;clear hch hC hme hm1 hB s0 v2 HME vz HL7 HU7 HSM;clear hG;go_wp2_with fail
   refine UU.out.mono ?_;rintro r w10 ⟨A3,c3,rfl,hown3,D8⟩;have uo:Hid (Below w.heap.size w w10/\Bk w10 g1 34 #[.int .i64 bg,.slice kA kn kc,.slice (some ⟨g,o,none⟩) n c]/\Bk w10 gt 44 #[.int .i64 p,.int .i64 t,.bool mb,.int .i64 win,.slice A4 n4 c4,.slice A5 n5 c5,.slice A6 n6 c6,.slice eA ne ec]):=zH ⟨pq.out.1.trans (D8.mono pq.out.1.size),pq.out.2.1.old D8,pq.out.2.2.old D8⟩;have HC10:=zH (bP hown3);clear hown3 D8 UU pq v0' v1' v2' t0 hcr HCR;go_wp2_with fail
   go_loopw[8,67] (fun bv jv wr=>∃(b:Bool) (j:Nat),bv=.bool b/\jv=.int .i64 j/\j<=m1/\Hid (b=(C.take j).any fun x=>x==(k:Int))/\wr=w10) (fun _ jv _=>m1-(intOf jv).toNat)
   case atStart=>exact⟨false,0,rfl,rfl,Nat.zero_le _,zH rfl,rfl⟩
   case round=>
    obtain⟨b,j,rfl,rfl,hj,HB,rfl⟩:=hrel
    by_cases hjm:j<m1
    ·as_aux_lemma=>
     have hjl:j<C.length:=by rw[yh.out];exact hjm
     obtain⟨g3,o3,rfl,hg3,s3⟩:=ints_at HC10.out hjl
     have hbn:(b||C[j]==(k:Int))=(C.take (j+1)).any fun x=>x==(k:Int):=by
      rw[List.take_succ_eq_append_getElem hjl,List.any_append,HB.out];simp
     obtain⟨x,hx⟩:∃z,C[j]=z:=⟨_,rfl⟩
     rw[hx]at s3 hbn;have HBN:=zH hbn;clear hbn hx HB hg3;cases b
     ·obtain⟨q,hq⟩:∃z,(x==(k:Int))=z:=⟨_,rfl⟩
      have HQ:=zH hq;cases q
      ·go_wp2
       go_roundw
       case rel=>exact⟨false,j+1,rfl,by go_num,by omega,zH (by rw[<-HBN.out,HQ.out];rfl),by trivial⟩
       case measure=>simp[intOf];omega
      ·go_wp2
       go_roundw
       case rel=>exact⟨true,j+1,rfl,by go_num,by omega,zH (by rw[<-HBN.out,HQ.out];rfl),by trivial⟩
       case measure=>simp[intOf];omega
     ·go_wp2
      go_roundw
      case rel=>exact⟨true,j+1,rfl,by go_num,by omega,zH (by rw[<-HBN.out];rfl),by trivial⟩
      case measure=>simp[intOf];omega
    ·as_aux_lemma=>
     obtain rfl:j=m1:=by omega
     have hb:b=true:=by
      rw[HB.out,<-yh.out,List.take_length,List.any_eq_true];exact⟨_,HME2.out,by simp⟩
     subst hb;clear HB yh HME2 HC10;have v0':wr.cell? ⟨g1,0,none⟩=some (.int .i64 bg):=uo.out.2.1.cell 0;have v1':wr.cell? ⟨g1,1,none⟩=some (.slice kA kn kc):=uo.out.2.1.cell 1;have v2':wr.cell? ⟨g1,2,none⟩=some (.slice (some ⟨g,o,none⟩) n c):=uo.out.2.1.cell 2;have hch:=oM bg kA (some ⟨g,o,none⟩) kn kc c l (k:Int) wr (HI.out.old uo.out.1);have hsum:=LQ l k;have hle:=JS l (k+1);rw[HN.out]at hch hle;rw[<-HM.out]at hsum;obtain⟨m2,hm2⟩:∃z,(Ah (k:Int) 0 l).length=z:=⟨_,rfl⟩
     rw[hm2]at hch hsum;have Kr:=zH hsum.symm;have hm2n:m+m2<=n:=by omega
     have UU:=zH hch;clear hch hsum hle hm2;go_wp2_with fail
     refine UU.out.mono ?_;rintro r w11 ⟨A5',c5',rfl,_,XJ⟩;have HV11:Hid (Below w.heap.size w w11/\Bk w11 g1 34 #[.int .i64 bg,.slice kA kn kc,.slice (some ⟨g,o,none⟩) n c]):=zH ⟨uo.out.1.trans (XJ.mono uo.out.1.size),uo.out.2.1.old XJ⟩;clear XJ UU uo v0' v1' v2';go_wp2
     go_roundw
     case rel=>exact⟨k+1,m+m2,by omega,hm2n,by go_num,by go_num,Kr,HV11⟩
     case measure=>simp[intOf];omega
  ·as_aux_lemma=>
   obtain rfl:k=n:=by omega
   have hme:m=k:=by rw[HM.out,<-HN.out];exact Qd HT.out
   subst hme;have v2:wo.cell? ⟨g1,2,none⟩=some (.slice A m c):=HV.out.2.cell 2;clear HM;go_wp2
   go_ret
   exact⟨rfl,HV.out.1⟩
end Go.Proofs.Ytbjnhllkdilpfaa
