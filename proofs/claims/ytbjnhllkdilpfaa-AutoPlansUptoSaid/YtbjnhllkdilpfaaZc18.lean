/- Part 18 of the proof. No conditions. -/
import Derived.Test.YtbjnhllkdilpfaaZc16
import Derived.Test.YtbjnhllkdilpfaaZc17
namespace Go.Proofs.Ytbjnhllkdilpfaa
open Go.RowKit
set_option maxRecDepth 100000
set_option maxHeartbeats 16000000
set_option linter.unusedVariables false
set_option linter.unusedSimpArgs false
theorem Ht (s:Str):∀(f p:Nat) (acc:List az),s.length+1<=p+f->p<=s.length->acc.length<=p->∀L a e,qH s f p acc=(L,a,e)->e=0->dK L/\L.length<=s.length+1
 |0,p,acc,h1,h2,h3,L,a,e,h,he=>by omega
 |f+1,p,acc,h1,h2,h3,L,a,e,h,he=>by
  rw[AB s f p _ acc rfl]at h;have hb:=xN (s.drop p);rw[List.length_drop]at hb;generalize hq:p+fD (s.drop p)=q at *;have hqs:q<=s.length:=by omega
  split at h
  ·injection h with h4 h5
   subst h4;exact⟨⟨acc,setPos oM q,rfl,rfl⟩,by simp;omega⟩
  ·rename_i hne
   split at h
   ·injection h with h4 h5
    injection h5 with h5 h6
    omega
   ·rename_i hn0
    have hone:=one_le (s.drop q);rw[List.length_drop]at hone;exact Ht s f _ _ (by omega) (by omega) (by simp;omega) L a e h he
theorem Q9 (s:Str) (h:(kN s).2.2=0):dK (kN s).1/\(kN s).1.length<=4001:=by
 by_cases hl:4000<s.length
 ·have e:kN s=([],0,2):=if_pos hl;rw[e]at h;cases h
 ·have e:kN s=qH s (s.length+1) 0 []:=if_neg hl;rw[e]at h⊢;generalize hr:qH s (s.length+1) 0 []=r at *;obtain⟨L,a,x⟩:=r;have:=Ht s (s.length+1) 0 [] (by omega) (by omega) (by simp) L a x hr h;exact⟨this.1,by have:=this.2;show L.length<=4001;omega⟩
theorem jq.get {P:Nat->Prop} {w:World}:∀{es:List ax} {css:List (List Value)},jq P w es css->∀k (hk:k<es.length),∃y0 y1 y2 y3 y4 y5 y6:Value,kZ P w es[k] [y0,y1,y2,y3,y4,y5,y6]/\∀(j:Nat) (u:Value),[y0,y1,y2,y3,y4,y5,y6][j]? =some u->css.flatten[k*7+j]? =some u
 |[],[],_,k,hk=>absurd hk (by simp)
 |e::es,cs::css,h,k,hk=>by
  obtain⟨c0,c1,c2,c3,c4,c5,c6,rfl,hc⟩:=h.1.seven
  match k,hk with
  |0,_=>
   refine⟨c0,c1,c2,c3,c4,c5,c6,h.1,fun j u hu=>?_⟩;have hj:j<7:=(List.getElem?_eq_some_iff.1 hu).1;rw[List.flatten_cons,List.getElem?_append_left (by simp;omega),Nat.zero_mul,Nat.zero_add,hu]
  |k+1,hk=>
   obtain⟨y0,y1,y2,y3,y4,y5,y6,h1,h2⟩:=jq.get h.2 k (by simpa using hk);refine⟨y0,y1,y2,y3,y4,y5,y6,h1,fun j u hu=>?_⟩;rw[List.flatten_cons,List.getElem?_append_right (by simp;omega)];rw[<-h2 j u hu]
   congr 1
   simp;omega
 |[],_::_,h,_,_=>h.elim
 |_::_,[],h,_,_=>h.elim
def bK.cells (bv wv:Value) (q:bK):List Value:=iK bv wv q.aP q.window q.key q.keyAt
def QV (B:Nat) (w:World) (q:bK) (cs:List Value):Prop:=∃bv wv,cs=q.cells bv wv/\jY B w bv q.branches/\yI B w wv q.cond
theorem Oh (a:List ax):∀(i:Nat) (b:List ax),aV i (a++b)=aV i a+aV (i+a.length) b:=by
 induction a with
 |nil=>intro i b;simp[aV]
 |cons x a ih=>
  intro i b
  show aB x+(if 0<i then 1 else 0)+aV (i+1) (a++b)=_
  rw[ih,List.length_cons,show i+1+a.length=i+(a.length+1) by omega]
  show _=aB x+(if 0<i then 1 else 0)+aV (i+1) a+_
  omega
theorem uM:∀(e:ax) (i:Nat),aV i (jI e)<=aB e+(if 0<i then 1 else 0)
 |.leaf ..,i=>by show _+(if 0<i then 1 else 0)+0<=_;simp
 |.un ..,i=>by show _+(if 0<i then 1 else 0)+0<=_;simp
 |.bin op x y p,i=>by
  by_cases h:op=13
  ·have hf:jI (.bin op x y p)=jI x++jI y:=by show(if op=13 then _ else _)=_;rw[if_pos h]
   rw[hf,Oh];have h1:=uM x i;have h2:=uM y (i+(jI x).length);have h3:(if 0<i+(jI x).length then 1 else 0)<=1:=by split<;>omega
   show _<=1+aB x+aB y+(if 0<i then 1 else 0)
   omega
  ·have hf:jI (.bin op x y p)=[.bin op x y p]:=by show(if op=13 then _ else _)=_;rw[if_neg h]
   rw[hf]
   show _+(if 0<i then 1 else 0)+0<=_;simp
theorem mf (i:Nat) (x:ax) (l:List ax):aV i (x::l)=aB x+(if 0<i then 1 else 0)+aV (i+1) l:=rfl
theorem Bf (B : Nat) (w : World) (q : bK) (bv : Value) (A : Option Addr) (c : Nat) (css : List (List Value)) (hown : w.ownsRow B 118 7 (.slice A css.length c) css.length css.flatten) (hfl : jq (fun g => B ≤ g) w q.cond css) (hs : iJ q ≤ 1000000) :
  Calls Try.prog 43 #[.agg (q.cells bv (.slice A css.length c)).toArray] w fun r w'=>r=.returned (.int .i64 (iJ q:Nat))/\Below w.heap.size w w':=by
 have hrd:=dG hown;have hlen:=hfl.len.1;have HFL:=zH hfl;have vg:=zH hrd;obtain⟨N,hN⟩:∃N,iJ q=N:=⟨_,rfl⟩
 rw[hN]at hs⊢;have HN0:Hid (0+aV 0 (q.cond.drop 0)=N):=zH (by rw[<-hN,List.drop_zero,Nat.zero_add];rfl);have HNS:Hid (N<=1000000):=zH hs
 have hm:q.cond.length<=N:=by
  have key:∀(l:List ax) (i:Nat),l.length<=aV i l:=by
   intro l
   induction l with
   |nil=>intro i;simp
   |cons x l ih=>
    intro i;have h1:=ih (i+1);have h2:1<=aB x:=by cases x<;>simp[aB]<;>omega
    rw[mf,List.length_cons];omega
  have:=key q.cond 0;rw[<-hN];exact this
 obtain⟨n,hn⟩:∃n,css.length=n:=⟨_,rfl⟩
 have hqn:q.cond.length=n:=by omega
 rw[hn];unfold bK.cells iK;have HQN:=zH hqn;have hn2:n<=1000000:=by omega
 clear hN hfl hrd hown hlen hn hqn hs hm;obtain⟨qb,es,q3,q4,q5,q6⟩:=q;simp only at HFL HN0 HQN⊢
 go_enter Try.func43,Try.ntmps43
 have kb:=Bk.new w 80 #[bv,.slice A n c,.int .i64 q3,.int .i64 q4,.string (bytes q5),.int .i64 q6];have hb0:Below w.heap.size w (w.alloc (.cells #[bv,.slice A n c,.int .i64 q3,.int .i64 q4,.string (bytes q5),.int .i64 q6] 80)):=zR.alloc zL _;have x1:(w.alloc (.cells #[bv,.slice A n c,.int .i64 q3,.int .i64 q4,.string (bytes q5),.int .i64 q6] 80)).cell? ⟨w.heap.size,1,none⟩=some (.slice A n c):=kb.cell 1;go_wp2
 generalize w.alloc (.cells #[bv,.slice A n c,.int .i64 q3,.int .i64 q4,.string (bytes q5),.int .i64 q6] 80)=w0 at *;have hbx:=kb.lt;have HX:=zH x1;have HB0:=zH hb0;clear kb x1 hb0
 go_loopw[3,8] (fun m i wr=>∃k acc:Nat,k<=n/\m=.int .i64 acc/\i=.int .i64 k/\Hid (acc+aV k (es.drop k)=N)/\Hid (Below w0.heap.size w0 wr)) (fun _ i _=>n-(intOf i).toNat)
 case atStart=>exact⟨0,0,Nat.zero_le _,rfl,rfl,HN0,zH zR⟩
 case round=>
  clear HN0;obtain⟨k,acc,hk,rfl,rfl,hacc,HB⟩:=hrel;obtain⟨wo,rfl⟩:∃wo:World,wo=wr:=⟨_,rfl⟩
  by_cases hlt:k<n
  ·as_aux_lemma=>
   have hkl:k<es.length:=by rw[HQN.out];exact hlt
   obtain⟨y0,y1,y2,y3,y4,y5,y6,hok,hys⟩:=HFL.out.get k hkl;have lF:=HB0.out.trans (HB.out.mono HB0.out.size);obtain⟨g,o,rfl,hg,hc⟩:=vg.out.at_ (j:=k*7) (by have:=(List.getElem?_eq_some_iff.1 (hys 0 y0 rfl)).1;simpa using this);have hcc:∀(j:Nat) (u:Value),[y0,y1,y2,y3,y4,y5,y6][j]? =some u->wo.cell? ⟨g,o+(k*7+j),none⟩=some u:=fun j u h=>(aT lF g _ hg).trans (hc _ u (hys j u h))
   have x1:=(aT HB.out w.heap.size 1 hbx).trans HX.out;have r0:wo.cell? ⟨g,o+k*7,none⟩=some y0:=hcc 0 _ rfl;have r1:wo.cell? ⟨g,o+k*7+1,none⟩=some y1:=hcc 1 _ rfl;have r2:wo.cell? ⟨g,o+k*7+2,none⟩=some y2:=hcc 2 _ rfl;have r3:wo.cell? ⟨g,o+k*7+3,none⟩=some y3:=hcc 3 _ rfl;have r4:wo.cell? ⟨g,o+k*7+4,none⟩=some y4:=hcc 4 _ rfl;have r5:wo.cell? ⟨g,o+k*7+5,none⟩=some y5:=hcc 5 _ rfl;have r6:wo.cell? ⟨g,o+k*7+6,none⟩=some y6:=hcc 6 _ rfl;have hac:=hacc.out;rw[List.drop_eq_getElem_cons hkl,mf]at hac;have hns:=HNS.out;have HQ:=zH (su es[k] _ wo (hok.old lF) (by omega));generalize es[k]=E at *;have hb1:acc+aB E<=1000000:=by omega
   have UF:=zH hac;clear hcc hc hys hok lF hacc hac hns;generalize aB E=m at *;go_wp2_with fail
   refine HQ.out.mono ?_;rintro r w2 ⟨rfl,hb2⟩;have HB2:=zH (Below.trans HB.out (hb2.mono (Below.size HB.out)));clear HQ hb2 r0 r1 r2 r3 r4 r5 r6 x1
   by_cases hk0:0<k
   ·have hk0I:(0:Int)<(k:Int):=by omega
    have HA:Hid (acc+m+1+aV (k+1) (es.drop (k+1))=N):=zH (by have:=UF.out;rw[if_pos hk0]at this;omega);clear UF;go_wp2
    go_roundw
    case rel=>exact⟨k+1,acc+m+1,by omega,by go_num,by go_num,HA,HB2⟩
    case measure=>simp[intOf];omega
   ·obtain rfl:k=0:=by omega
    have HA:Hid (acc+m+aV (0+1) (es.drop (0+1))=N):=zH (by have:=UF.out;rw[if_neg hk0]at this;omega);clear UF;go_wp2
    go_roundw
    case rel=>exact⟨0+1,acc+m,by omega,by go_num,by go_num,HA,HB2⟩
    case measure=>simp[intOf];omega
  ·as_aux_lemma=>
   obtain rfl:k=n:=by omega
   have hac:=hacc.out;rw[List.drop_eq_nil_of_le (by rw[HQN.out];exact Nat.le_refl _)]at hac;have hac:acc=N:=by simpa[aV]using hac
   subst hac;have lF:=zH (HB0.out.trans (HB.out.mono HB0.out.size));clear HB HB0 hacc;go_wp2
   go_ret
   exact⟨rfl,lF.out⟩
end Go.Proofs.Ytbjnhllkdilpfaa
