/- Part 22 of the proof. No conditions. -/
import Derived.Test.YtbjnhllkdilpfaaZc21
namespace Go.Proofs.Ytbjnhllkdilpfaa
open Go.RowKit
set_option maxRecDepth 100000
set_option maxHeartbeats 16000000
set_option linter.unusedVariables false
set_option linter.unusedSimpArgs false
def GoodS (i:Nat) (s:lh):Prop:=(-1<=s.parent/\s.parent<i)/\∀(j:Nat) (h:j<s.ends.length),0<=s.ends[j].branch
def Qa (aC:Int) (bs:List lh):Prop:=(1<=aC/\aC<=3)/\bs.length<=32/\∀(i:Nat) (h:i<bs.length),GoodS i bs[i]
section
set_option maxRecDepth 100000
set_option maxHeartbeats 8000000
theorem X3 {d:Nat} {S:Nat->Prop} {aC:Int} {ks:List Int} {bs:List lh} {cs:List Value} {w:World} (h:qg d S aC ks bs cs w):Calls Try.prog 12 #[.agg cs.toArray] w fun e w'=>∃g:Bool,e=.returned (.bool g)/\(g=true->Qa aC bs)/\Below w.heap.size w w':=by
 obtain⟨kv,bv,rfl,hk,Ab,cb,rfl,hbl,hb⟩:=h;obtain⟨Ak,ck,rfl⟩:=hk.form
 go_enter Try.func12,Try.ntmps12
 go_upto_region 1 with fail
 obtain⟨n,hn⟩:∃z,bs.length=z:=⟨_,rfl⟩
 rw[hn]at hbl⊢;have k1:=Bk.new w 34 #[.int .i64 aC,.slice Ak ks.length ck,.slice Ab n cb];have hb0:=ba w (.cells #[.int .i64 aC,.slice Ak ks.length ck,.slice Ab n cb] 34);generalize w.alloc (.cells #[.int .i64 aC,.slice Ak ks.length ck,.slice Ab n cb] 34)=w0 at *;have HR:=zH (hb.old hb0);have HB:=zH hb0;have HN:=zH hn;have HK:=zH k1;have x0:=k1.cell 0;have x2:=k1.cell 2;clear k1 hb0 hk hb hn
 go_cut[3] (fun v wx=>∃ok:Bool,v=.bool ok/\(ok=true->(1<=aC/\aC<=3)/\n<=32)/\wx=w0)
 case first=>
  go_wp2_with fail
  all_goals
   go_meet
   refine⟨_,rfl,fun h=>?_,by first|rfl|trivial⟩
   first|(cases h;done)|((try simp only[decide_eq_true_eq]at h);refine⟨⟨?_,?_⟩,?_⟩<;>omega)
 case rest=>
  obtain⟨ok,rfl,hok,rfl⟩:=hcut;have HO:=zH hok;clear x0 hok;go_wp2_with fail
  clear x2
  go_loopw[3,25] (fun v i wr=>∃(ok:Bool) (k:Nat),v=.bool ok/\k<=n/\i=.int .i64 k/\Hid ((ok=true->((1<=aC/\aC<=3)/\n<=32)/\∀(i:Nat) (h:i<bs.length),i<k->GoodS i bs[i])/\Below wc.heap.size wc wr)) (fun _ i _=>n-(intOf i).toNat)
  case atStart=>exact⟨ok,0,rfl,Nat.zero_le _,rfl,zH ⟨fun h=>⟨HO.out h,fun i _ h0=>absurd h0 (Nat.not_lt_zero _)⟩,Below.refl _ _⟩⟩
  case round=>
   obtain⟨wo,rfl⟩:∃z:World,z=wr:=⟨_,rfl⟩
   obtain⟨ok2,k,rfl,hk,rfl,hI⟩:=hrel
   by_cases hlt:k<n
   ·have hlb:k<bs.length:=by rw[HN.out];exact hlt
    obtain⟨b,o,cs,rfl,_,hb,hP,hc⟩:=(HR.out.old hI.out.2).elem hlb;have hlen:=CK.len hP;go_upto_region 5 with(first|(refine aX qC rfl _ rfl rfl cs hlen hc ?_)|(refine ae (dE qC.1) rfl _ _ rfl rfl cs rfl (Bk.new _ _ _) hlen rfl (CK.one hP) ?_;intro W1 p1;go_frame))
    obtain⟨v4,v5,v6,v7,rfl,_,_,_,Ap,cp,rfl,hel,he⟩:=hP;have hBW:Below wo.heap.size wo W1:=p1.below _ _ (ba _ _) zL;have hz1:W1.heap.size=wo.heap.size+1:=by rw[p1.size];simp
    have HE:=zH (he.old hBW);have HX:=zH p1.bk;obtain⟨st,hst⟩:∃z,bs[k]=z:=⟨_,rfl⟩
    rw[hst]at HE HX hel;have HST:=zH hst;have x0:=HX.out.cell 0;have x1:=HX.out.cell 1;have x3:=HX.out.cell 3;clear p1 hc hlen hst he;go_upto_region 5 with fail
    go_cut[3] (fun v wx=>∃ok:Bool,v=.bool ok/\(ok=true->ok2=true/\ -1<=st.parent/\st.parent<k)/\wx=W1)
    case first=>
     cases ok2
     all_goals
      go_wp2_with fail
      all_goals
       go_meet
       refine⟨_,rfl,fun h=>?_,by first|rfl|trivial⟩
       first|(cases h;done)|((try simp only[decide_eq_true_eq]at h);refine⟨by first|rfl|trivial,?_,?_⟩<;>omega)
    case rest=>
     obtain⟨O8,rfl,pY,rfl⟩:=hcut;have HO3:=zH pY;have x7:=HX.out.cell 7;clear x0 x1 x3 pY;obtain⟨m,hm⟩:∃z,st.ends.length=z:=⟨_,rfl⟩
     rw[hm]at x7 hel;have HM:=zH hm;clear hm;go_wp2_with fail
     clear x7
     go_loopw[3,60] (fun v i wr=>∃(ok:Bool) (j:Nat),v=.bool ok/\j<=m/\i=.int .i64 j/\Hid ((ok=true->O8=true/\∀(i:Nat) (h:i<st.ends.length),i<j->0<=st.ends[i].branch)/\Below wc.heap.size wc wr)) (fun _ i _=>m-(intOf i).toNat)
     case atStart=>exact⟨O8,0,rfl,Nat.zero_le _,rfl,zH ⟨fun h=>⟨h,fun i _ h0=>absurd h0 (Nat.not_lt_zero _)⟩,Below.refl _ _⟩⟩
     case round=>
      obtain⟨ok4,j,rfl,hj,rfl,hJ⟩:=hrel
      by_cases hjl:j<m
      ·have hjb:j<st.ends.length:=by rw[HM.out];exact hjl
       obtain⟨e,f,cs2,rfl,_,_,hP2,hd⟩:=(HE.out.old hJ.out.2).elem hjb;have hlen2:=CK.len hP2;obtain⟨wl,rfl⟩:∃z:World,z=wr:=⟨_,rfl⟩
       go_upto_region 9 with(first|(refine aX qB rfl _ rfl rfl cs2 hlen2 hd ?_)|(refine ae (dE qB.1) rfl _ _ rfl rfl cs2 rfl (Bk.new _ _ _) hlen2 rfl (CK.one hP2) ?_;intro W2 p2;go_frame))
       obtain⟨v,u,rfl,_,_⟩:=hP2;have hB2:Below wl.heap.size wl W2:=p2.below _ _ (ba _ _) zL;have r0:=p2.bk.cell 0;clear p2 hd hlen2;obtain⟨br,hbr⟩:∃z,st.ends[j].branch=z:=⟨_,rfl⟩
       rw[hbr]at r0;have Qb:=zH hbr;clear hbr
       have hF:∀ok5:Bool,(ok5=true->ok4=true/\0<=br)->Hid ((ok5=true->O8=true/\∀(i:Nat) (h:i<st.ends.length),i<j+1->0<=st.ends[i].branch)/\Below wc.heap.size wc W2):=fun ok5 h5=>zH ⟨fun h=>⟨(hJ.out.1 (h5 h).1).1,fun i hi hij=>by
        rcases Nat.lt_or_ge i j with h6|h6
        ·exact(hJ.out.1 (h5 h).1).2 i hi h6
        ·obtain rfl:i=j:=by omega
         rw[Qb.out]
         exact(h5 h).2⟩,hJ.out.2.trans (hB2.mono hJ.out.2.size)⟩
       cases ok4
       all_goals
        go_wp2_with fail
        all_goals
         go_roundw
         case rel=>exact⟨_,j+1,rfl,hjl,by go_num,hF _ (fun h=>by first|(cases h;done)|((try simp only[decide_eq_true_eq]at h);exact⟨by first|rfl|trivial,by omega⟩))⟩
         case measure=>simp[intOf];omega
      ·obtain rfl:j=m:=by omega
       go_wp2_with fail
       exact⟨⟨ok4,k+1,rfl,hlt,by go_num,zH ⟨fun h=>⟨(hI.out.1 (HO3.out (hJ.out.1 h).1).1).1,fun i hi hik=>by
        rcases Nat.lt_or_ge i k with h6|h6
        ·exact(hI.out.1 (HO3.out (hJ.out.1 h).1).1).2 i hi h6
        ·obtain rfl:i=k:=by omega
         rw[HST.out]
         exact⟨(HO3.out (hJ.out.1 h).1).2,fun q hq=>(hJ.out.1 h).2 q hq (by rw[<-HM.out];exact hq)⟩⟩,hI.out.2.trans ((hBW.trans (hJ.out.2.mono hBW.size)).mono hI.out.2.size)⟩⟩,by simp[intOf];omega⟩
   ·obtain rfl:k=n:=by omega
    go_wp2_with fail
    go_ret
    exact⟨ok2,rfl,fun h=>⟨(hI.out.1 h).1.1,by rw[HN.out];exact(hI.out.1 h).1.2,fun i hi=>(hI.out.1 h).2 i hi (by rw[<-HN.out];exact hi)⟩,HB.out.trans (hI.out.2.mono HB.out.size)⟩
end
def Dp (bs:List lh):Nat->Nat->List Nat
 |0,_=>[]
 |f+1,i=>match bs[i]? with
  |none=>[]
  |some s=>(if 0<=s.parent then Dp bs f s.parent.toNat else[])++[i]
def iF (bs:List lh) (i:Nat):List Nat:=Dp bs (i+1) i
theorem uD (bs:List lh) (hp:∀(i:Nat) (h:i<bs.length),GoodS i bs[i]):∀(f i:Nat),i<f->Dp bs f i=iF bs i
 |0,i,h=>by omega
 |f+1,i,h=>by
  unfold iF
  show(match bs[i]? with|none=>[]|some s=>(if 0<=s.parent then Dp bs f s.parent.toNat else[])++[i])=(match bs[i]? with|none=>[]|some s=>(if 0<=s.parent then Dp bs i s.parent.toNat else[])++[i])
  cases hs:bs[i]? with
  |none=>rfl
  |some s=>
   simp only
   split
   ·obtain⟨hi,hs⟩:=List.getElem?_eq_some_iff.1 hs;have:=(hp i hi).1;rw[hs]at this;rw[uD bs hp f _ (by omega),uD bs hp i _ (by omega)]
   ·rfl
theorem vG {bs:List lh} (hp:∀(i:Nat) (h:i<bs.length),GoodS i bs[i]) {i:Nat} (h:i<bs.length):iF bs i=(if 0<=bs[i].parent then iF bs bs[i].parent.toNat else[])++[i]:=by
 show(match bs[i]? with|none=>[]|some s=>(if 0<=s.parent then Dp bs i s.parent.toNat else[])++[i])=_
 rw[List.getElem?_eq_getElem h];simp only
 split
 ·have:=(hp i h).1;rw[uD bs hp i _ (by omega)]
 ·rfl
theorem qE {bs:List lh} (hp:∀(i:Nat) (h:i<bs.length),GoodS i bs[i]):∀(n i:Nat),i<n->i<bs.length->(iF bs i).length<=i+1/\∀k∈iF bs i,k<=i
 |0,i,h,_=>by omega
 |n+1,i,h,hi=>by
  rw[vG hp hi]
  split
  ·have hs:=(hp i hi).1;have ih:=qE hp n bs[i].parent.toNat (by omega) (by omega);refine⟨by simp;omega,fun k hk=>?_⟩;rcases List.mem_append.1 hk with hk|hk
   ·have:=ih.2 k hk;omega
   ·simp at hk;omega
  ·exact⟨by simp,fun k hk=>by simp at hk;omega⟩
def ints (l:List Nat):List Int:=l.map Int.ofNat
theorem oJ (w:World):(isAgg 34).run Try.prog w=.ok true w:=by simp[isAgg,go_sem]
theorem iG {w : World} {ops : Array Oper} {rest : List Oper} {op : Oper} {a : Act} {Q : Exit → Act → World → Prop} {t n : Nat} (hsz : ∀ w, (sizeOf t).run Try.prog w = .ok n w) (hag : ∀ w, (isAgg t).run Try.prog w = .ok true w) (hg : op.guard = none) (x : Operand) (hop : op.op = Op.load t x) {g o : Nat} (hx : a.eval x = .pointer (some ⟨g, o, none⟩)) (vs : List Value) (hn : vs.length = n) (hc : ∀ (j : Nat) (u : Value), vs[j]? = some u → w.cell? ⟨g, o + j, none⟩ = some u)
  (hK:wpList Try.prog ops Q rest (a.put op.dst (.agg vs.toArray)) w):wpList Try.prog ops Q (op::rest) a w:=by
 refine wpList_plain hg fun K' hK'=>?_
 unfold Oper.wp;simp[execOp,hop,hx,rP hag hsz vs hn hc,Result.andThen];exact hK' _ _ hK
theorem int1 {w:World} {g t c:Nat} {i:Int} (h:Bk w g t #[.int .i64 i]):Uo jV (fun _=>False) [i] (.slice (some ⟨g,0,none⟩) 1 c) w:=⟨_,c,rfl,[(i,[.int .i64 i])],rfl,Rd.bk h h.lt,fun p hp=>by simp at hp;subst hp;rfl⟩
section
set_option maxRecDepth 100000
set_option maxHeartbeats 8000000
theorem Qc {d : Nat} {S : Nat → Prop} {aC : Int} {ks : List Int} {bs : List lh} (hp : ∀ (i : Nat) (h : i < bs.length), GoodS i bs[i]) (hn : bs.length ≤ 32) : ∀ (f i : Nat), i < f → i < bs.length → ∀ {cs : List Value} {w : World}, qg d S aC ks bs cs w →
  Calls Try.prog 28 #[.agg cs.toArray,.int .i64 i] w (Ro (fun _=>False) 3 1 jV (ints (iF bs i)) w)
 |0,i,h,_,_,_,_=>by omega
 |f+1,i,hif,hi,cs,w,h=>by
  have IH:=fun j (hj:j<f) (hjb:j<bs.length) {w':World} (h':qg d S aC ks bs cs w')=>Qc hp hn f j hj hjb h'
  have HI:=zH IH;clear IH;have HA:=zH h;obtain⟨kv,bv,rfl,hk,Ab,cb,rfl,hbl,hb⟩:=h;obtain⟨Ak,ck,rfl⟩:=hk.form;have hg:=hp i hi;have he:=vG hp hi;obtain⟨P,hP⟩:∃z,iF bs i=z:=⟨_,rfl⟩
  rw[hP]at he⊢;have hlt:=qE hp (i+1) i (by omega) hi;rw[hP]at hlt;have HE:=zH he;have HL:=zH hlt.1;clear hP he hlt
  go_enter Try.func28,Try.ntmps28
  go_upto_region 1 with fail
  have k1:=Bk.new w 34 #[.int .i64 aC,.slice Ak ks.length ck,.slice Ab bs.length cb];have hb0:=ba w (.cells #[.int .i64 aC,.slice Ak ks.length ck,.slice Ab bs.length cb] 34);generalize w.alloc (.cells #[.int .i64 aC,.slice Ak ks.length ck,.slice Ab bs.length cb] 34)=w0 at *;obtain⟨b,o,c2,rfl,_,hbb,⟨v4,v5,v6,v7,rfl,_⟩,hc⟩:=(hb.old hb0).elem hi;have hp0:=hc 0 _ rfl;rw[Nat.add_zero]at hp0;obtain⟨p,hpp⟩:∃z,bs[i].parent=z:=⟨_,rfl⟩
  have hg1:=hg.1;rw[hpp]at hp0 hg1 HE;have HB:=zH hb0;have xh:=zH k1;obtain⟨x0,x1,x2⟩:=zc3 k1;have HX:=zH (And.intro x0 (And.intro x1 x2))
  have hHA:∀w',Below w0.heap.size w0 w'->qg d S aC ks bs [.int .i64 aC,.slice Ak ks.length ck,.slice (some ⟨b,o,none⟩) bs.length cb] w':=fun w' hw=>by
   obtain⟨kv,bv,e,h1,h2⟩:=HA.out;exact⟨kv,bv,e,(h1.keep (.old HB.out)).keep (.old hw),(h2.keep (.old HB.out)).keep (.old hw)⟩
  have HW:=zH hHA;clear hpp hc hb hk hg k1 hb0 hp HA hHA;have hib:(i:Int)<(bs.length:Int):=by omega
  have hi32:i<32:=by omega
  by_cases h0:0<=p
  ·have HR:=zH (fun w' hw=>HI.out p.toNat (by omega) (by omega) (HW.out w' hw));have hpI:((p.toNat:Nat):Int)=p:=by omega
   rw[hpI]at HR;rw[if_pos h0]at HE;clear HI HX;go_wp2_with (refine iG iY oJ rfl (.tmp 2) rfl rfl [.int .i64 aC,.slice Ak ks.length ck,.slice (some ⟨b,o,none⟩) bs.length cb] rfl (fun i v hv=>by rw[Nat.zero_add,xh.out.cell i];simpa using hv) ?_)
   refine(HR.out w0 zR).mono ?_;rintro e w1 ⟨A1,c1,rfl,h1,hb1⟩;have hp1:(ints (iF bs p.toNat)).length<=32:=by have:=HE.out▸HL.out;simp[ints]at *;omega
   have HH:=zH (And.intro h1 (And.intro hb1 hp1));have hz1:=hb1.size;have hz0:=HB.out.size;clear h1 hb1 HR HW hp1;go_wp2_with (at_builtin;refine kL PY rfl _ _ rfl rfl (HH.out.1.old (ba _ _)) rfl (int1 (Bk.newAt (by simp) _ _)) (fun b h=>h.elim) (by have:=HH.out.2.2;simp;omega) (by simp;omega) ?_;intro A9 c9 w9 h9 uC jG)
   go_ret
   have hPe:ints P=ints (iF bs p.toNat)++[(i:Int)]:=by rw[HE.out];simp[ints]
   have hPl:(ints P).length=(ints (iF bs p.toNat)).length+1:=by rw[hPe,List.length_append];rfl
   refine⟨A9,c9,by rw[hPl];rfl,by rw[hPl];exact(hPe▸h9).NH hz0,?_⟩;exact HB.out.trans (((uC _ _ zL (by simp;omega) (HH.out.2.1.alloc (by omega) _))).mono hz0)
  ·rw[if_neg h0]at HE;go_wp2_with fail
   go_ret
   have hPe:ints P=[(i:Int)]:=by rw[HE.out];rfl
   rw[hPe];refine⟨_,_,rfl,?_,HB.out.trans ((ba _ _).mono HB.out.size)⟩;have hz0:=HB.out.size;exact⟨[((i:Int),[.int .i64 i])],rfl,⟨rfl,.inr ⟨_,1,#[.int .i64 i],rfl,hz0,Bk.new _ _ _,Nat.le_refl _,by unfold maxLen;omega,rfl,rfl⟩⟩,fun p hp=>by simp at hp;subst hp;rfl⟩
end
theorem L6 (g i:Nat):((⟨g,0,none⟩:Addr).add i)=⟨g,i,none⟩:=by unfold Addr.add;by_cases hj:i=0<;>simp[hj]
section
variable {α:Type} {n:Nat} {P:(Nat->Prop)->α->List Value->World->Prop} {S:Nat->Prop} {base t:Nat} {xs:List α} {A:Option Addr} {len c:Nat} {w:World}
theorem Bd.dQ [CK n P] (h:Bd S base t n P xs (.slice A len c) w):xs.length=len:=by
 obtain⟨A',c',h1,_⟩:=h.form;injection h1 with _ h2 _
 exact h2.symm
theorem Bd.elem [CK n P] (h:Bd S base t n P xs (.slice A len c) w) {k:Nat} (hk:k<xs.length):∃g cs,A=some ⟨g,0,none⟩/\base<=g/\g<w.heap.size/\P (fun q=>S q/\q≠g) xs[k] cs w/\∀j u,cs[j]? =some u->w.cell? ⟨g,k*n+j,none⟩=some u:=by
 obtain⟨ps,rfl,h2,h3⟩:=h;rw[List.length_map]at hk;have hl:∀p∈ps,(Prod.snd p).length=n:=fun p hp=>CK.len (h3 p hp)
 have hm:=h3 _ (List.getElem_mem hk);rcases h2.2 with⟨hv,h0⟩|⟨g,cap,cur,hv,hb,hh,_⟩
 ·rw[List.length_map]at h0;omega
 ·have hA:A=some ⟨g,0,none⟩:=by injection hv
  subst hA;refine⟨g,ps[k].2,rfl,hb,Bk.lt (t:=t) (cs:=cur) hh,CK.keep (S:=fun q=>S q/\some q≠(Value.slice (some ⟨g,0,none⟩) len c).ownBlock) (fun b hb hlt=>⟨⟨hb.1,fun e=>hb.2 (by rw[e];rfl)⟩,hlt,rfl⟩) (by simpa using hm),fun j u hu=>?_⟩;have hj:j<n:=by rw[<-hl _ (List.getElem_mem hk)];exact(List.getElem?_eq_some_iff.1 hu).1
  have:=h2.cells (g:=g) rfl (k*n+j) u (by rw[zW Prod.snd ps hl k j hk hj];exact hu)
  rwa [L6]at this
theorem Dq {β:Type} {n:Nat} (f:β->List Value) (z:β) (hz:(f z).length=n):∀(l:List β) (hf:∀a∈l,(f a).length=n) (i:Nat),i<l.length->(l.set i z).flatMap f=(l.flatMap f).take (i*n)++f z++(l.flatMap f).drop (i*n+n)
 |a::l,hf,0,_=>by
  have:=hf a (by simp);simp[List.set_cons_zero,List.flatMap_cons,List.drop_append,this,List.drop_eq_nil_of_le (Nat.le_of_eq this)]
 |a::l,hf,i+1,h=>by
  have ha:=hf a (by simp);have ih:=Dq f z hz l (fun b hb=>hf b (by simp[hb])) i (by simpa using h);rw[List.set_cons_succ,List.flatMap_cons,ih,List.flatMap_cons,List.take_append,List.drop_append,ha,Nat.succ_mul,List.take_of_length_le (l:=f a) (by omega),@List.drop_eq_nil_of_le _ (f a) _ (by omega),show i*n+n-n=i*n by omega,show i*n+n+n-n=i*n+n by omega];simp
end
theorem U7 {op : Oper} {a : Act} {K : Act → World → Prop} {Q : Exit → Act → World → Prop} {w : World} {g o : Nat} {t : TypeId} {cs : Array Value} {t0 : TypeId} {n : Nat} (hsz : ∀ w, (sizeOf t0).run Try.prog w = .ok n w)
  (x y:Operand) (hop:op.op=Op.store t0 x y) (hx:a.eval x=.pointer (some ⟨g,o,none⟩)) (ds:List Value) (hy:a.eval y=.agg ds.toArray) (h:Bk w g t cs) (hn:ds.length=n) (ho:o+n<=cs.size)
  (h1:ds.all Value.oneCell'=true) (hK:∀w':World,lH w g t (uA cs o ds) w'->K (a.put op.dst undef) w'):op.wp Try.prog a w K Q:=by
 obtain⟨w',hr,hp⟩:=vw hsz h ds hn ho h1;unfold Oper.wp;simp[execOp,hop,hx,hy,hr,Result.andThen];exact hK _ hp
section
variable {w:World} {ops:Array Oper} {rest:List Oper} {op:Oper} {a:Act} {Q:Exit->Act->World->Prop} {ts t n by':Nat}
theorem vH {K : Act → World → Prop} {α : Type} {P : (Nat → Prop) → α → List Value → World → Prop} [CK n P] {S : Nat → Prop} (h : I9 ts t n by') (x y : Operand) (hop : op.op = Op.store t x y) {base : Nat} {xs : List α} {g len c k : Nat} (hB : Bd S base t n P xs (.slice (some ⟨g, 0, none⟩) len c) w)
  (hx:a.eval x=.pointer (some ⟨g,k*n,none⟩)) (cs:List Value) (hy:a.eval y=.agg cs.toArray) (hk:k<xs.length) (e:α) (hP:P (fun q=>S q/\q≠g) e cs w)
  (hK:∀w',Bd S base t n P (xs.set k e) (.slice (some ⟨g,0,none⟩) len c) w'->Fr base w w'->w.grownBy w' (some g)->w'.heap.size=w.heap.size->K (a.put op.dst undef) w'):op.wp Try.prog a w K Q:=by
 obtain⟨ps,h1,h2,h3⟩:=hB;have hn:=CK.len hP;have hl:∀p∈ps,(Prod.snd p).length=n:=fun p hp=>CK.len (h3 p hp)
 have hpl:ps.length=xs.length:=by rw[<-h1,List.length_map]
 rcases h2.2 with⟨hv,h0⟩|⟨g',cap,cur,hv,hb,hh,hn1,hn2,hn3,hn4⟩
 ·omega
 ·injection hv with e1 e2 e3
  injection e1 with e1
  injection e1 with e1
  subst e1 e2 e3;have hbk:Bk w g t cur:=hh;have hsz:k*n+n<=cur.size:=by rw[hn3];have:=Nat.mul_le_mul_right n (show k+1<=c by omega);rw[Nat.succ_mul]at this;omega
  refine U7 (dE h.toXX) x y hop hx cs hy hbk hn hsz (CK.one hP) fun w' p=>?_
  have hkb:fE (fun q=>S q/\some q≠(Value.slice (some ⟨g,0,none⟩) xs.length c).ownBlock) (fun q=>S q/\some q≠(Value.slice (some ⟨g,0,none⟩) xs.length c).ownBlock) w w':=fE.jC p fun b hb e=>hb.2 (by rw[e];rfl)
  refine hK w' ⟨ps.set k (e,cs),by rw[List.map_set,h1],?_,fun q hq=>?_⟩ (fun B a0 h4 h5 h6=>p.below B a0 h6 (by omega)) p.grown p.size
  ·have hfl:=Dq Prod.snd (e,cs) hn ps hl k (by omega);refine⟨?_,.inr ⟨g,c,_,by rw[List.length_set],hb,p.bk,?_,hn2,by rw[xB];exact hn3,?_⟩⟩
   ·rw[nT (n:=n) Prod.snd _ (fun q hq=>?_),List.length_set,hpl,List.length_set];rcases List.mem_or_eq_of_mem_set hq with hq|rfl
    ·exact hl q hq
    ·exact hn
   ·rw[List.length_set];exact hn1
   ·rw[hfl,rO _ _ _ (by omega),<-hn4,List.length_set];have h7:k*n+n<=xs.length*n:=by have:=Nat.mul_le_mul_right n (show k+1<=xs.length from hk);rwa [Nat.succ_mul]at this
    have h9:cur.toList.length=c*n:=by simp[hn3]
    have h8:xs.length*n<=cur.toList.length:=by rw[h9];exact Nat.mul_le_mul_right n hn1
    apply List.ext_getElem?
    intro i;simp only[List.getElem?_take,List.getElem?_append,List.length_append,List.length_take,List.getElem?_drop,hn]
    (repeat' split)<;>first|rfl|(exfalso;omega)|(congr 1;omega)|skip
  ·rcases List.mem_or_eq_of_mem_set hq with hq|rfl
   ·exact CK.keep hkb (h3 q hq)
   ·exact CK.keep hkb (CK.keep (fun b hb hlt=>⟨⟨hb.1,fun e=>hb.2 (by injection e)⟩,hlt,rfl⟩) hP)
theorem jk {α : Type} {P : (Nat → Prop) → α → List Value → World → Prop} [CK n P] {S : Nat → Prop} (h : I9 ts t n by') (hg : op.guard = none) (x y : Operand) (hop : op.op = Op.store t x y) {base : Nat} {xs : List α} {g len c k : Nat} (hB : Bd S base t n P xs (.slice (some ⟨g, 0, none⟩) len c) w)
  (hx:a.eval x=.pointer (some ⟨g,k*n,none⟩)) (cs:List Value) (hy:a.eval y=.agg cs.toArray) (hk:k<xs.length) (e:α) (hP:P (fun q=>S q/\q≠g) e cs w)
  (hK:∀w',Bd S base t n P (xs.set k e) (.slice (some ⟨g,0,none⟩) len c) w'->Fr base w w'->w.grownBy w' (some g)->w'.heap.size=w.heap.size->wpList Try.prog ops Q rest (a.put op.dst undef) w'):wpList Try.prog ops Q (op::rest) a w:=
 wpList_plain hg fun _ hK'=>vH h x y hop hB hx cs hy hk e hP fun w' h1 h2 h3 h4=>hK' _ _ (hK w' h1 h2 h3 h4)
end
theorem fQ {w : World} {op : Oper} {a : Act} {K : Act → World → Prop} {Q : Exit → Act → World → Prop} {ts t n by' : Nat} (h : I9 ts t n by') (x : Operand) (hop : op.op = Op.load t x) {g o : Nat} (hx : a.eval x = .pointer (some ⟨g, o, none⟩)) (vs : List Value) (hn : vs.length = n) (hc : ∀ (j : Nat) (u : Value), vs[j]? = some u → w.cell? ⟨g, o + j, none⟩ = some u)
  (hK:K (a.put op.dst (.agg vs.toArray)) w):op.wp Try.prog a w K Q:=by
 unfold Oper.wp;simp[execOp,hop,hx,rP h.agg (dE h.toXX) vs hn hc,Result.andThen];exact hK
def stZ:lh:=⟨0,0,false,0,[],[],[],[]⟩
def iw (bs:List lh) (i:Nat):lh:=(bs[i]?).getD stZ
theorem vI {bs:List lh} {i:Nat} (h:i<bs.length):iw bs i=bs[i]:=by unfold iw;rw[List.getElem?_eq_getElem h];rfl
def nU (s:lh) (cl:List T):kM:=⟨if s.many then 2 else 1,s.type,s.gs,cl⟩
def gV (bs:List lh) (cl:List T):List Nat->List kM
 |[]=>[]
 |[x]=>ed (iw bs x).bars++[nU (iw bs x) cl]
 |x::y::l=>(ed (iw bs x).bars++[nU (iw bs x) (iw bs y).lv])++gV bs cl (y::l)
def uf (bs:List lh) (cl:List T):List Nat->List T
 |[]=>cl
 |y::_=>(iw bs y).lv
theorem yB (bs:List lh) (cl:List T) (x:Nat) (l:List Nat):gV bs cl (x::l)=(ed (iw bs x).bars++[nU (iw bs x) (uf bs cl l)])++gV bs cl l:=by
 cases l with
 |nil=>simp[gV,uf]
 |cons y l=>rfl
theorem yC (bs:List lh) (cl:List T) {p:List Nat} {k:Nat} (h:k<p.length):gV bs cl (p.drop k)=(ed (iw bs p[k]).bars++[nU (iw bs p[k]) (uf bs cl (p.drop (k+1)))])++gV bs cl (p.drop (k+1)):=by
 rw[List.drop_eq_getElem_cons h,yB]
theorem zZ (bs:List lh) (cl:List T) {p:List Nat} {k:Nat} (h:k<p.length):uf bs cl (p.drop k)=(iw bs p[k]).lv:=by rw[List.drop_eq_getElem_cons h];rfl
def Gj (bs:List lh) (i:Nat) (e:PZ):bQ:=⟨e.branch.toNat,(iw bs i).window,gV bs e.cs (iF bs i)++ed e.bars⟩
def brZ:bQ:=⟨0,0,[]⟩
def qh (L:List bQ) (i:Nat):bQ:=(L[i]?).getD brZ
def qi (id:Nat) (L:List bQ):Nat->Nat
 |0=>0
 |k+1=>if id<(qh L k).id then qi id L k else k+1
theorem Ej (id:Nat) (L:List bQ):∀k,qi id L k<=k
 |0=>Nat.le_refl _
 |k+1=>by
  unfold qi
  split
  ·exact Nat.le_succ_of_le (Ej id L k)
  ·exact Nat.le_refl _
def Em (L:List bQ) (b:bQ):List bQ:=L.take (qi b.id L L.length)++b::L.drop (qi b.id L L.length)
def eH (l:List bQ):List bQ:=l.foldl Em []
theorem Qd (L:List bQ) (b:bQ):(Em L b).length=L.length+1:=by
 have:=Ej b.id L L.length;simp[Em];omega
theorem Gl (l:List bQ) (b:bQ):eH (l++[b])=Em (eH l) b:=by simp[eH]
theorem uF:∀(l:List bQ),(eH l).length=l.length:=by
 intro l
 have h:∀(l acc:List bQ),(l.foldl Em acc).length=acc.length+l.length:=by
  intro l
  induction l with
  |nil=>intro acc;rfl
  |cons b l ih=>intro acc;rw[List.foldl_cons,ih,Qd,List.length_cons];omega
 simpa[eH]using h l []
def zu (bs:List lh) (i:Nat):List bQ:=(List.range i).flatMap fun s=>(iw bs s).ends.map (Gj bs s)
def ik (bs:List lh) (i j:Nat):List bQ:=zu bs i++((iw bs i).ends.take j).map (Gj bs i)
theorem Aa (bs:List lh) (i:Nat):ik bs i 0=zu bs i:=by simp[ik]
theorem xH (bs:List lh) (i:Nat):ik bs i (iw bs i).ends.length=zu bs (i+1):=by simp[ik,zu,List.range_succ]
theorem Ad (bs:List lh) (i:Nat) {j:Nat} (h:j<(iw bs i).ends.length):ik bs i (j+1)=ik bs i j++[Gj bs i (iw bs i).ends[j]]:=by
 unfold ik;rw[List.append_assoc,<-List.map_singleton (f:=Gj bs i),<-List.map_append]
 congr 2
 simp
def nV (L:List bQ) (b:bQ) (k:Nat):List bQ:=L.take k++(if k<L.length then qh L k else b)::L.drop k
theorem JB (L:List bQ) (b:bQ):nV L b L.length=L++[b]:=by simp[nV]
theorem Qe (L:List bQ) (b:bQ) {k:Nat} (h:k<=L.length):(nV L b k).length=L.length+1:=by simp[nV];omega
theorem Gm {L:List bQ} {b:bQ} {k:Nat} (h:k<L.length):(nV L b (k+1))[k]? =some (qh L k):=by
 unfold nV qh;rw[List.getElem?_append_left (by simp;omega)];simp[List.getElem?_take,h]
theorem NK {L:List bQ} {b:bQ} {k:Nat} (h:k<L.length):(nV L b (k+1)).set (k+1) (qh L k)=nV L b k:=by
 unfold nV;rw[if_pos h]
 apply List.ext_getElem?
 intro i;simp only[List.getElem?_set,List.getElem?_append,List.getElem?_cons,List.length_take,List.getElem?_take,List.getElem?_drop,List.length_append,List.length_cons,List.length_drop,qh]
 (repeat' split)<;>first|rfl|(exfalso;omega)|(congr 1;omega)|(rename_i h1 h2;simp[List.getElem?_eq_getElem h];done)|skip
 ·rw[show k+(i-min k L.length-1)=k by omega,List.getElem?_eq_getElem h];rfl
 ·obtain rfl:i=k:=by omega
  rw[List.getElem?_eq_getElem h];rfl
theorem Qg (L:List bQ) (b:bQ) {k:Nat} (h:k<=L.length):(nV L b k).set k b=L.take k++b::L.drop k:=by
 unfold nV;rw[List.set_append_right _ _ (by simp;omega)];simp[Nat.min_eq_left h]
end Go.Proofs.Ytbjnhllkdilpfaa
namespace Go.Proofs.Ytbjnhllkdilpfaa
open Go.RowKit
set_option linter.unusedSimpArgs false
set_option linter.unusedVariables false
set_option maxRecDepth 10000
section
variable {P:Program} {o:Oper} {a:Act} {w w2:World} {K:Act->World->Prop} {Q:Exit->Act->World->Prop}
theorem ev {d:Nat} {v:Value} (h:a.tmps[d]? =some v):a.eval (.tmp d)=v:=by
 show a.tmps.getD d undef=v
 rw[Array.getD_eq_getD_getElem?,h];rfl
theorem BM {s:Sem Value} {v:Value} (he:execOp a.eval o=(do pure (.value (<-s)))) (hr:s.run P w=.ok v w2) (hK:K (a.put o.dst v) w2):o.wp P a w K Q:=by
 unfold Oper.wp;rw[he];simp[hr,Result.andThen];exact hK
theorem yj (t t':TypeId) (x y:Operand) {p q r:Int} (hop:o.op=.binOp .add t x y t') (hx:a.eval x=.int .i64 p) (hy:a.eval y=.int .i64 q) (hr:r=p+q) (h1: -9223372036854775808<=r) (h2:r<=9223372036854775807) (hK:K (a.put o.dst (.int .i64 r)) w):o.wp P a w K Q:=by
 have hw:IntKind.i64.wrap (p+q)=r:=by rw[<-hr];exact IntWalk.i64_in _ ⟨h1,h2⟩
 refine BM (s:=do eqGuard .add t x y (.int .i64 p) (.int .i64 q);binOp .add t (.int .i64 p) (.int .i64 q)) (w2:=w) (by unfold execOp;rw[hop];simp only[hx,hy]) (by simp[eqGuard,go_sem,hw]) hK
theorem yl (t t':TypeId) (x y:Operand) {p q r:Int} (hop:o.op=.binOp .sub t x y t') (hx:a.eval x=.int .i64 p) (hy:a.eval y=.int .i64 q) (hr:r=p-q) (h1: -9223372036854775808<=r) (h2:r<=9223372036854775807) (hK:K (a.put o.dst (.int .i64 r)) w):o.wp P a w K Q:=by
 have hw:IntKind.i64.wrap (p-q)=r:=by rw[<-hr];exact IntWalk.i64_in _ ⟨h1,h2⟩
 refine BM (s:=do eqGuard .sub t x y (.int .i64 p) (.int .i64 q);binOp .sub t (.int .i64 p) (.int .i64 q)) (w2:=w) (by unfold execOp;rw[hop];simp only[hx,hy]) (by simp[eqGuard,go_sem,hw]) hK
theorem TS (t t':TypeId) (x y:Operand) {p q:Int} {b:Bool} (hop:o.op=.binOp .gtr t x y t') (hx:a.eval x=.int .i64 p) (hy:a.eval y=.int .i64 q) (hb:decide (q<p)=b) (hK:K (a.put o.dst (.bool b)) w):o.wp P a w K Q:=by
 refine BM (s:=do eqGuard .gtr t x y (.int .i64 p) (.int .i64 q);binOp .gtr t (.int .i64 p) (.int .i64 q)) (w2:=w) (by unfold execOp;rw[hop];simp only[hx,hy]) (by simp[eqGuard,go_sem,<-hb]) hK
theorem Ff (t t':TypeId) (x y:Operand) {p q:Int} {b:Bool} (hop:o.op=.binOp .lss t x y t') (hx:a.eval x=.int .i64 p) (hy:a.eval y=.int .i64 q) (hb:decide (p<q)=b) (hK:K (a.put o.dst (.bool b)) w):o.wp P a w K Q:=by
 refine BM (s:=do eqGuard .lss t x y (.int .i64 p) (.int .i64 q);binOp .lss t (.int .i64 p) (.int .i64 q)) (w2:=w) (by unfold execOp;rw[hop];simp only[hx,hy]) (by simp[eqGuard,go_sem,<-hb]) hK
theorem TT (t:TypeId) (x:Operand) {b:Bool} (hop:o.op=.unOp .not t x) (hx:a.eval x=.bool b) (hK:K (a.put o.dst (.bool (!b))) w):o.wp P a w K Q:=by
 refine BM (s:=Op.unary .not (.bool b)) (w2:=w) (by unfold execOp;rw[hop];simp only[hx]) (by simp[go_sem]) hK
theorem WI (x y z:Operand) {b:Bool} {u v:Value} (hop:o.op=.pick x y z) (hx:a.eval x=.bool b) (hy:a.eval y=u) (hz:a.eval z=v) (hK:K (a.put o.dst (bif b then u else v)) w):o.wp P a w K Q:=by
 refine BM (s:=pure (bif b then u else v)) (w2:=w) (by unfold execOp;rw[hop];simp only[hx,hy,hz];cases b<;>rfl) rfl hK
end
theorem gu {w:World} {op:Oper} {a:Act} {K:Act->World->Prop} {Q:Exit->Act->World->Prop} {ts t n by':Nat} (h:XX ts t n by') (x y:Operand) {g m c i:Nat} (hop:op.op=.indexAddr ts x y) (hx:a.eval x=.slice (some ⟨g,0,none⟩) m c) (hy:a.eval y=.int .i64 i) (hi:i<m) (hK:K (a.put op.dst (.pointer (some ⟨g,i*n,none⟩))) w):op.wp Try.prog a w K Q:=by
 have he:Try.prog.elem ts=t:=by simp[Program.elem,h.und]
 refine BM (s:=Instr.indexAt ts (.slice (some ⟨g,0,none⟩) m c) (.int .i64 i)) (w2:=w) (by unfold execOp;rw[hop];simp only[hx,hy]) ?_ hK;refine(Go.run_indexAt_slice (P:=Try.prog) w ts ⟨g,0,none⟩ m c .i64 i (by rw[he];exact h.und)).trans ?_;rw[if_pos ⟨by omega,by omega⟩,he,dE h]
 show Result.ok (Value.pointer (some ((⟨g,0,none⟩:Addr).add ((i:Int).toNat * n)))) w=_
 rw[L6,Int.toNat_natCast]
def Nq (d:Nat) (S:Nat->Prop) (x:Nat×bQ) (cs:List Value) (w:World):Prop:=uB d S x.2 cs w
instance (d:Nat):CK 3 (Nq d) where
 pos:=by decide
 keep:=fun hk h=>CK.keep (P:=uB d) hk h
 len:=fun h=>CK.len (P:=uB d) h
 one:=fun h=>CK.one (P:=uB d) h
def gX (x y:Nat×bQ):Bool:=decide (x.2.id<y.2.id)||(decide (x.2.id=y.2.id)&&decide (x.1<y.1))
theorem sZ:Cmp gX:=by
 refine⟨fun x=>?_,fun x y h=>?_,fun x y z h1 h2=>?_⟩
 ·simp[gX]
 ·simp only[gX,Bool.or_eq_true,Bool.and_eq_true,decide_eq_true_eq,Bool.or_eq_false_iff,Bool.and_eq_false_iff,decide_eq_false_iff_not]at *;omega
 ·simp only[Le,gX,Bool.or_eq_false_iff,Bool.and_eq_false_iff,decide_eq_false_iff_not]at *;omega
theorem xe {x y:Nat×bQ} (h:y.1<x.1):gX x y=decide (x.2.id<y.2.id):=by
 rw[Bool.eq_iff_iff];simp only[gX,Bool.or_eq_true,Bool.and_eq_true,decide_eq_true_eq];omega
abbrev oH (d:Nat) (S:Nat->Prop) (base g c n:Nat) (ms:List (Nat×bQ)) (w:World):Prop:=Bd S base 28 3 (Nq d) ms (.slice (some ⟨g,0,none⟩) n c) w
end Go.Proofs.Ytbjnhllkdilpfaa
namespace Go.Proofs.Ytbjnhllkdilpfaa
open Go.RowKit
set_option maxRecDepth 100000
set_option maxHeartbeats 16000000
set_option linter.unusedVariables false
set_option linter.unusedSimpArgs false
section
set_option maxRecDepth 100000
set_option maxHeartbeats 8000000
theorem zBg {d : Nat} {S : Nat → Prop} {base g c n a b k : Nat} {ms : List (Nat × bQ)} {f : Value} {w : World} (h : oH d S base g c n ms w) (hab : a + k ≤ b) (hbn : b + k ≤ n) (hn : n ≤ 1000000000000) :
  Calls Try.prog 89 #[.slice (some ⟨g,0,none⟩) n c,.int .i64 a,.int .i64 b,.int .i64 k,f] w fun r w'=>r=.returned (.tuple #[])/\∃ms',pX ms ms' a b k/\oH d S base g c n ms' w'/\w.grownBy w' (some g):=by
 have HR:=zH h;have hlm:=h.dQ;clear h
 go_enter Try.func89,Try.ntmps89
 go_wp2
 go_loopw[10] (fun i wr=>∃(q:Nat) (jQ:List (Nat×bQ)),q<=k/\i=.int .i64 q/\Hid (pX ms jQ a b q/\oH d S base g c n jQ wr/\w.grownBy wr (some g))) (fun i _=>k-(intOf i).toNat)
 case atStart=>exact⟨0,ms,Nat.zero_le _,rfl,zH ⟨pX.zero _ _ _,HR.out,World.grownBy.refl _ _⟩⟩
 case round=>
  obtain⟨W,rfl⟩:∃z:World,z=wr:=⟨_,rfl⟩
  obtain⟨q,jQ,hq,rfl,hI⟩:=hrel
  by_cases hlt:q<k
  ·have hl2:=hI.out.2.1.dQ;have ha2:a+q<jQ.length:=by omega
   have hb2:b+q<jQ.length:=by omega
   obtain⟨g',xs,hA,_,hgl,xw,Ea⟩:=hI.out.2.1.elem ha2;injection hA with hA
   injection hA with hA
   subst hA;obtain⟨g',ys,hA,_,_,xy,Eb⟩:=hI.out.2.1.elem hb2;injection hA with hA
   injection hA with hA
   subst hA;have hsl:=mG (List.getElem?_eq_getElem ha2) (List.getElem?_eq_getElem hb2);obtain⟨x,hx⟩:∃z,jQ[a+q]=z:=⟨_,rfl⟩
   obtain⟨y,hy⟩:∃z,jQ[b+q]=z:=⟨_,rfl⟩
   rw[hx]at xw;rw[hy]at xy;rw[hx,hy]at hsl;have jP:=zH (hI.out.1.step (by omega) (by omega));have HS2:=zH (And.intro hsl (And.intro xw (And.intro xy (And.intro Ea Eb))));have hlx:=CK.len xw;have Ji:=CK.len xy;have MP:a+q<n:=by omega
   have hbq:b+q<n:=by omega
   clear hsl xw xy Ea Eb hx hy;go_upto_region 3 with fail
   refine Go.Proofs.Ytbjnhllkdilpfaa.wr 21 (some g) [.is (.slice (some ⟨g,0,none⟩) n c),.is (.int .i64 (a:Nat)),.is (.int .i64 (q:Nat)),.is (.int .i64 ((a+q:Nat):Int)),.is (.slice (some ⟨g,0,none⟩) n c),.is (.int .i64 (b:Nat)),.is (.int .i64 (q:Nat)),.is (.int .i64 ((b+q:Nat):Int)),
    .is (.slice (some ⟨g,0,none⟩) n c),.is (.int .i64 (b:Nat)),.is (.int .i64 (q:Nat)),.is (.int .i64 ((b+q:Nat):Int)),.is (.pointer (some ⟨g,(b+q)*3,none⟩)),.is (.agg ys.toArray),.is (.slice (some ⟨g,0,none⟩) n c),.is (.int .i64 (a:Nat)),.is (.int .i64 (q:Nat)),.is (.int .i64 ((a+q:Nat):Int)),.is (.pointer (some ⟨g,(a+q)*3,none⟩)),.is (.agg xs.toArray),.is (.pointer (some ⟨g,(a+q)*3,none⟩)),
    .st (fun v w=>oH d S base g c n (jQ.set (a+q) y) w) (fun _ _ _ hb h=>h.old hb)] [3,7,11,12,13,17,18,19,20,21] (by kernel_rfl) (by kernel_rfl) (by kernel_rfl)
    (fun C=>.c (ah.x (rG _) C rfl (fun _ _=>rfl)) <| .c (ah.x (rG _) C rfl (fun _ _=>rfl)) <| .c (ah.x (rG _) C rfl (fun _ _=>rfl)) <| .c (ah.z (rG _) [1,2] [] (by kernel_rfl) fun qK qa wr hB qO qF hK=>?_) <|
     .c (ah.x (rG _) C rfl (fun _ _=>rfl)) <| .c (ah.x (rG _) C rfl (fun _ _=>rfl)) <| .c (ah.x (rG _) C rfl (fun _ _=>rfl)) <| .c (ah.a (rG _) [5,6] [] (by kernel_rfl) fun qK qa wr hG qO qF hK=>?_) <|
     .c (ah.x (rG _) C rfl (fun _ _=>rfl)) <| .c (ah.x (rG _) C rfl (fun _ _=>rfl)) <| .c (ah.x (rG _) C rfl (fun _ _=>rfl)) <| .c (ah.z (rG _) [9,10] [] (by kernel_rfl) fun qK qa wr hB qO qF hK=>?_) <| .c (ah.z (rG _) [8,11] [] (by kernel_rfl) fun qK qa wr hB qO qF hK=>?_) <| .c (ah.z (rG _) [12] [] (by kernel_rfl) fun qK qa wr hB qO qF hK=>?_) <|
     .c (ah.x (rG _) C rfl (fun _ _=>rfl)) <| .c (ah.x (rG _) C rfl (fun _ _=>rfl)) <| .c (ah.x (rG _) C rfl (fun _ _=>rfl)) <| .c (ah.z (rG _) [15,16] [] (by kernel_rfl) fun qK qa wr hB qO qF hK=>?_) <| .c (ah.z (rG _) [14,17] [] (by kernel_rfl) fun qK qa wr hB qO qF hK=>?_) <| .c (ah.z (rG _) [18] [] (by kernel_rfl) fun qK qa wr hB qO qF hK=>?_) <|
     .c (ah.z (rG _) [0,3] [] (by kernel_rfl) fun qK qa wr hB qO qF hK=>?_) <| .c (ah.g [20,13] [] (by kernel_rfl) fun qK qa wr hB qO qF hK=>?_) .nil) ?_
   ·exact yj _ _ _ _ rfl (ev (ay qF.1 rfl rfl)) (ev (ay qF.2.1 rfl rfl)) (by omega) (by omega) (by omega) (hK _ _ zR rfl)
   ·obtain⟨qb,qF⟩:=qF;exact yj _ _ _ _ rfl (ev (Ee qF.1 rfl rfl)) (ev (Ee qF.2.1 rfl rfl)) (by omega) (by omega) (by omega) (hK _ zR)
   ·exact yj _ _ _ _ rfl (ev (ay qF.1 rfl rfl)) (ev (ay qF.2.1 rfl rfl)) (by omega) (by omega) (by omega) (hK _ _ zR rfl)
   ·exact gu dH.1 _ _ rfl (ev (ay qF.1 rfl rfl)) (ev (ay qF.2.1 rfl rfl)) hbq (hK _ _ zR rfl)
   ·exact fQ dH _ rfl (ev (ay qF.1 rfl rfl)) ys Ji (fun i u hu=>bc hB (HS2.out.2.2.2.2 i u hu)) (hK _ _ zR rfl)
   ·exact yj _ _ _ _ rfl (ev (ay qF.1 rfl rfl)) (ev (ay qF.2.1 rfl rfl)) (by omega) (by omega) (by omega) (hK _ _ zR rfl)
   ·exact gu dH.1 _ _ rfl (ev (ay qF.1 rfl rfl)) (ev (ay qF.2.1 rfl rfl)) MP (hK _ _ zR rfl)
   ·exact fQ dH _ rfl (ev (ay qF.1 rfl rfl)) xs hlx (fun i u hu=>bc hB (HS2.out.2.2.2.1 i u hu)) (hK _ _ zR rfl)
   ·exact gu dH.1 _ _ rfl (ev (ay qF.1 rfl rfl)) (ev (ay qF.2.1 rfl rfl)) MP (hK _ _ zR rfl)
   ·refine vH dH _ _ rfl (hI.out.2.1.old hB) (ev (ay qF.1 rfl rfl)) ys (ev (ay qF.2.1 rfl rfl)) (k:=a+q) ha2 y (CK.keep (fE.old hB) HS2.out.2.2.1) ?_;intro w3 h3 _ hg3 hs3;exact hK undef _ (World.grownBy.trans (below_grown hB _) hg3) (Nat.le_of_eq hs3.symm) h3
   intro qx W2 hG hR;have h21:=hR 21 rfl rfl;clear hR;simp only[bJ,List.length,List.take,List.drop,List.toList_toArray];have Lh:=zH (CK.keep (n:=3) (fE.fJ hG (fun b hb=>hb.2)) HS2.out.2.1);have hl3:a+q<(jQ.set (a+q) y).length:=by rw[List.length_set];exact ha2
   have hb3:b+q<(jQ.set (a+q) y).length:=by rw[List.length_set];exact hb2
   go_wp2_with (first|(refine jk dH rfl _ _ rfl h21 rfl xs rfl (k:=b+q) hb3 x Lh.out ?_;intro w9 p9 _ g9 z9))
   go_roundw
   case rel=>exact⟨q+1,lG jQ (a+q) (b+q),by omega,by go_num,zH ⟨jP.out,by rw[HS2.out.1];exact p9,hI.out.2.2.trans (hG.trans g9)⟩⟩
   case measure=>simp[intOf];omega
  ·obtain rfl:q=k:=by omega
   go_wp2
   go_end0
   exact⟨rfl,jQ,hI.out.1,hI.out.2.1,hI.out.2.2⟩
end
end Go.Proofs.Ytbjnhllkdilpfaa
