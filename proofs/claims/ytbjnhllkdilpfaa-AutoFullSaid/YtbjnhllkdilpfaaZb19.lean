/- Part 19 of the proof. No conditions. -/
import Derived.Test.YtbjnhllkdilpfaaZb16
namespace Go.Proofs.Ytbjnhllkdilpfaa
open Go.RowKit
set_option linter.unusedSimpArgs false
set_option linter.unusedVariables false
set_option maxHeartbeats 16000000
set_option maxRecDepth 100000
def iE (v0 v1:Value) (st win:Nat) (key:Str) (ka:Nat):List Value:=[v0,v1,.int .i64 st,.int .i64 win,.string (bytes key),.int .i64 ka]
structure mf (b:Nat) (v0 v1:Value) (L:List aA) (LA:Option Addr) (Lc:Nat) (w:World) (x:PS) (st win:Nat) (key:Str) (ka:Nat) (W:World):Prop where
 st:di b 98 (iE v0 v1 st win key ka) L LA Lc x W
 gw:w.grownBy W (some b)
section
variable {b:Nat} {v0 v1:Value} {L:List aA} {LA:Option Addr} {Lc:Nat} {w W W':World} {x y:PS} {st win ka:Nat} {key:Str}
theorem mf.old (h:mf b v0 v1 L LA Lc w x st win key ka W) (hb:Below W.heap.size W W'):mf b v0 v1 L LA Lc w x st win key ka W':=⟨h.st.old hb,h.gw.trans (below_grown hb _)⟩
theorem mf.steps (h:mf b v0 v1 L LA Lc w x st win key ka W) (hs:Steps b 98 (iE v0 v1 st win key ka) L LA Lc y W W'):mf b v0 v1 L LA Lc w y st win key ka W':=⟨hs.st,h.gw.trans hs.grown⟩
theorem mf.next (h:mf b v0 v1 L LA Lc w x st win key ka W):mf b v0 v1 L LA Lc w (aO x) st win key ka (W.setCell ⟨b,1,none⟩ (.int .i64 ((x.i:Int)+1))):=h.steps (step_next b _ _ L LA Lc x W h.st)
theorem mf.put7 (h:mf b v0 v1 L LA Lc w x st win key ka W) (n:Nat):mf b v0 v1 L LA Lc w x n win key ka (W.setCell ⟨b,7,none⟩ (.int .i64 n)):=
 ⟨⟨by simpa[dw,iE]using h.st.bk.put 7 (.int .i64 n),mW h.st.rd _ _⟩,aY h.gw⟩
theorem mf.put8 (h:mf b v0 v1 L LA Lc w x st win key ka W) (n:Nat):mf b v0 v1 L LA Lc w x st n key ka (W.setCell ⟨b,8,none⟩ (.int .i64 n)):=
 ⟨⟨by simpa[dw,iE]using h.st.bk.put 8 (.int .i64 n),mW h.st.rd _ _⟩,aY h.gw⟩
theorem mf.put9 (h:mf b v0 v1 L LA Lc w x st win key ka W) (n:Str):mf b v0 v1 L LA Lc w x st win n ka (W.setCell ⟨b,9,none⟩ (.string (bytes n))):=
 ⟨⟨by simpa[dw,iE]using h.st.bk.put 9 (.string (bytes n)),mW h.st.rd _ _⟩,aY h.gw⟩
theorem mf.Y6 (h:mf b v0 v1 L LA Lc w x st win key ka W) (n:Nat):mf b v0 v1 L LA Lc w x st win key n (W.setCell ⟨b,10,none⟩ (.int .i64 n)):=
 ⟨⟨by simpa[dw,iE]using h.st.bk.put 10 (.int .i64 n),mW h.st.rd _ _⟩,aY h.gw⟩
theorem mf.c7 (h:mf b v0 v1 L LA Lc w x st win key ka W):W.cell? ⟨b,7,none⟩=some (.int .i64 st):=by rw[h.st.bk.cell 7];simp[dw,iE]
theorem mf.c8 (h:mf b v0 v1 L LA Lc w x st win key ka W):W.cell? ⟨b,8,none⟩=some (.int .i64 win):=by rw[h.st.bk.cell 8];simp[dw,iE]
theorem mf.c9 (h:mf b v0 v1 L LA Lc w x st win key ka W):W.cell? ⟨b,9,none⟩=some (.string (bytes key)):=by rw[h.st.bk.cell 9];simp[dw,iE]
theorem mf.c10 (h:mf b v0 v1 L LA Lc w x st win key ka W):W.cell? ⟨b,10,none⟩=some (.int .i64 ka):=by rw[h.st.bk.cell 10];simp[dw,iE]
theorem mf.tok (h:mf b v0 v1 L LA Lc w x st win key ka W) (hi:x.i<L.length):∃tb tq,LA=some ⟨tb,tq,none⟩/\tb<b/\W.cell? ⟨tb,tq+x.i*5,none⟩=some (.int .i64 (bf L x).kind)/\W.cell? ⟨tb,tq+x.i*5+2,none⟩=some (.int .i64 (bf L x).n)/\W.cell? ⟨tb,tq+x.i*5+4,none⟩=some (.int .i64 (bf L x).pos):=by
 obtain⟨tb,tq,hA,htb,hc⟩:=h.st.rd.elem (n:=5) ug (by omega) hi;rw[qE hi];exact⟨tb,tq,hA,htb,hc 0 _ rfl,hc 2 _ rfl,hc 4 _ rfl⟩
theorem zt (he:dL L):∀(l:List Str) (i st:Nat) (x:PS),gm L x->bn L x (fJ L i l (st,x)).2
 |[],i,st,x,h=>bn.refl h
 |u::l,i,st,x,h=>by
  show bn L x (fJ L (i+1) l (if x.err=0/\st=0/\eQ L x u=true then(i+1,aO x)else(st,x))).2
  split
  ·rename_i hx
   have g:=bn.next he h (bG hx.2.2);exact g.trans (zt he l _ _ _ g.ok)
  ·exact zt he l _ _ _ h
theorem Ia (i:Nat) (u:Str) (l:List Str) (st:Nat) (x:PS):fJ L i (u::l) (st,x)=fJ L (i+1) l (if x.err=0/\st=0/\eQ L x u=true then(i+1,aO x)else(st,x)):=rfl
end
def tailE (L:List aA) (st:Nat) (s6:PS):(Nat×Nat×Str×Nat)×PS:=
 if s6.err≠0 then((st,0,[],0),s6)
 else if eQ L (aO s6) nT=true then((st,(bf L s6).n,(dD L (ay L TJ (aO (aO s6)))).1,(bf L (ay L TJ (aO (aO s6)))).pos),(dD L (ay L TJ (aO (aO s6)))).2)
 else((st,(bf L s6).n,[],0),aO s6)
def E5 (L:List aA) (r:Nat×PS):PS:=ay L qB (if r.1=0 then aW L 13 r.2 else r.2)
def lK (L:List aA) (x:PS):PS:=if x.err=0/\(bf L x).kind≠3 then aW L 13 x else x
def pX (L:List aA) (x:PS):PS:=if x.err=0/\1152921504606846976<(bf L x).n then aW L 1 x else x
theorem Fa (L:List aA) (s:PS):nD L s=tailE L (fJ L 0 nV (0,ay L jf s)).1 (pX L (lK L (E5 L (fJ L 0 nV (0,ay L jf s))))):=by kernel_rfl
theorem bn.tl4 {L:List aA} {s:PS} (he:dL L) (r:Nat×PS) (h:bn L s r.2):bn L s (E5 L r):=by
 unfold E5
 have:bn L s (if r.1=0 then aW L 13 r.2 else r.2):=by
  split
  ·exact h.trans (bn.fail _ h.ok)
  ·exact h
 exact this.trans (bn.need he _ this.ok)
theorem bn.tl5 {L:List aA} {s x:PS} (h:bn L s x):bn L s (lK L x):=by
 unfold lK
 split
 ·exact h.trans (bn.fail _ h.ok)
 ·exact h
theorem bn.tl6 {L:List aA} {s x:PS} (h:bn L s x):bn L s (pX L x):=by
 unfold pX
 split
 ·exact h.trans (bn.fail _ h.ok)
 ·exact h
theorem Fb {L:List aA} {x:PS} (h:(pX L (lK L x)).err=0):(bf L (pX L (lK L x))).kind=3/\pX L (lK L x)=x/\(bf L x).n<=1152921504606846976:=by
 have h6:pX L (lK L x)=lK L x:=by
  by_cases hc:(lK L x).err=0/\1152921504606846976<(bf L (lK L x)).n
  ·have:pX L (lK L x)=aW L 1 (lK L x):=by unfold pX;rw[if_pos hc]
   rw[this]at h;exact absurd h (jD (by decide))
  ·unfold pX;rw[if_neg hc]
 rw[h6]at h⊢
 have h5:lK L x=x:=by
  by_cases hc:x.err=0/\(bf L x).kind≠3
  ·have:lK L x=aW L 13 x:=by unfold lK;rw[if_pos hc]
   rw[this]at h;exact absurd h (jD (by decide))
  ·unfold lK;rw[if_neg hc]
 rw[h5]at h h6⊢;refine⟨?_,rfl,?_⟩
 ·by_cases hk:(bf L x).kind=3
  ·exact hk
  ·exfalso;have:lK L x=aW L 13 x:=by unfold lK;rw[if_pos ⟨h,hk⟩]
   rw[h5]at this;have h2:(aW L 13 x).err≠0:=jD (by decide);rw[<-this]at h2;exact h2 h
 ·rcases Nat.lt_or_ge 1152921504606846976 (bf L x).n with hn|hn
  ·exfalso;have:pX L x=aW L 1 x:=by unfold pX;rw[if_pos ⟨h,hn⟩]
   rw[h6]at this;have h2:(aW L 1 x).err≠0:=jD (by decide);rw[<-this]at h2;exact h2 h
  ·exact hn
def Q4 (b tb tq i m:Nat) (L:List aA) (Lc:Nat):List Spec:=[.is (.pointer (some ⟨b,0,none⟩)),
 .is (.pointer (some ⟨b,0,none⟩)),
 .is (.pointer (some ⟨b,0,none⟩)),
 .is (.pointer (some ⟨b,0,none⟩)),
 .is (.pointer (some ⟨b,0,none⟩)),
 .is (.slice (some ⟨tb,tq,none⟩) L.length Lc),
 .is (.pointer (some ⟨b,0,none⟩)),
 .is (.pointer (some ⟨b,0,none⟩)),
 .is (.pointer (some ⟨b,0,none⟩)),
 .is (.pointer (some ⟨b,1,none⟩)),
 .is (.int .i64 (i:Nat)),
 .is (.pointer (some ⟨tb,tq+i*5,none⟩)),
 .is (.pointer (some ⟨tb,tq+i*5+2,none⟩)),
 .is (.int .i64 (m:Nat))]
def Q5 (b tb tq i pp:Nat) (L:List aA) (Lc:Nat):List Spec:=[.is (.pointer (some ⟨b,0,none⟩)),
 .is (.pointer (some ⟨b,0,none⟩)),
 .is (.pointer (some ⟨b,0,none⟩)),
 .is (.pointer (some ⟨b,0,none⟩)),
 .is (.pointer (some ⟨b,0,none⟩)),
 .is (.slice (some ⟨tb,tq,none⟩) L.length Lc),
 .is (.pointer (some ⟨b,0,none⟩)),
 .is (.pointer (some ⟨b,0,none⟩)),
 .is (.pointer (some ⟨b,0,none⟩)),
 .is (.pointer (some ⟨b,1,none⟩)),
 .is (.int .i64 (i:Nat)),
 .is (.pointer (some ⟨tb,tq+i*5,none⟩)),
 .is (.pointer (some ⟨tb,tq+i*5+4,none⟩)),
 .is (.int .i64 (pp:Nat))]
section
variable (b:Nat) (v0 v1:Value) (L:List aA) (LA:Option Addr) (Lc:Nat)
def Y7 (w:World) (r:(Nat×Nat×Str×Nat)×PS) (e:Ending) (w':World):Prop:=e=.returned (.tuple #[])/\mf b v0 v1 L LA Lc w r.2 r.1.1 r.1.2.1 r.1.2.2.1 r.1.2.2.2 w'
theorem NY (s : PS) (w : World) (h : di b 98 (iE v0 v1 0 0 [] 0) L LA Lc s w) (he : dL L) (hi : gm L s) (hL : L.length ≤ 4001) :
  Calls Try.prog 41 #[.pointer (some ⟨b,0,none⟩)] w (Y7 b v0 v1 L LA Lc w (nD L s)):=by
 have HIS:Hid (∀(x:PS) (W:World) (S:ByteArray) (v:Str) (rest:List Value),S.toList=v->gm L x->di b 98 rest L LA Lc x W->Calls Try.prog 39 #[.pointer (some ⟨b,0,none⟩),.string S] W fun r w'=>r=.returned (.bool (eQ L x v))/\Below W.heap.size W w'):=zH fun x W S v rest hv ho h=>by
  have:=kL b _ rest L LA Lc x W S h ho.lt hL
  rwa [hv]at this
 have lX:Hid (∀(x:PS) (W:World) (S:ByteArray) (v:Str) (rest:List Value),S.toList=v->gm L x->di b 98 rest L LA Lc x W->Calls Try.prog 37 #[.pointer (some ⟨b,0,none⟩),.string S] W fun r w'=>r=.returned (.tuple #[])/\Steps b 98 rest L LA Lc (ay L v x) W w'):=zH fun x W S v rest hv ho h=>by
  have:=fM b _ rest L LA Lc x W S h ho.lt hL
  rwa [hv]at this
 have jG:Hid (∀(x:PS) (W:World) (rest:List Value) (e:Nat),gm L x->di b 98 rest L LA Lc x W->Calls Try.prog 57 #[.pointer (some ⟨b,0,none⟩),.int .i64 e] W fun r w'=>r=.returned (.tuple #[])/\Steps b 98 rest L LA Lc (aW L e x) W w'):=zH fun x W rest e ho h=>BP b _ rest L LA Lc x W e h ho.lt hL
 have rJ:Hid (∀(x:PS) (W:World) (rest:List Value),gm L x->di b 98 rest L LA Lc x W->Calls Try.prog 58 #[.pointer (some ⟨b,0,none⟩)] W fun r w'=>r=.returned (.string (bytes (dD L x).1))/\Steps b 98 rest L LA Lc (dD L x).2 W w'):=zH fun x W rest ho h=>BQ b _ rest L LA Lc x W h ho.lt hL
 have hstr:(⟨#[83,84,82,65,84,69,71,89]⟩:ByteArray).toList=jf:=by rw[ByteArray.toList_eq];rfl
 have hwit:(⟨#[87,73,84,72,73,78]⟩:ByteArray).toList=qB:=by rw[ByteArray.toList_eq];rfl
 have hpar:(⟨#[80,65,82,84,73,84,73,79,78]⟩:ByteArray).toList=nT:=by rw[ByteArray.toList_eq];rfl
 have hby:(⟨#[66,89]⟩:ByteArray).toList=TJ:=by rw[ByteArray.toList_eq];rfl
 have H9:Hid (∀x,gm L x->x.i<=4001):=zH fun x h=>by have:=h.lt;omega
 have hbl:=h.bk.lt;obtain⟨RES,hres⟩:∃R,nD L s=R:=⟨_,rfl⟩
 rw[hres];rw[Fa]at hres;have g1:=bn.need he jf hi;have lJ:Hid (mf b v0 v1 L LA Lc w s 0 0 [] 0 w):=zH ⟨h,World.grownBy.refl _ _⟩;have aK:=zH hres;clear hres h
 go_enter Try.func41,Try.ntmps41
 go_wp2_with fail
 refine(lX.out s _ _ _ _ hstr hi lJ.out.st).mono ?_;rintro r w1 ⟨rfl,hs1⟩;have vW:=zH (lJ.out.steps hs1);generalize ay L jf s=s1 at *;have hok1:=g1.ok;clear hs1 lJ g1;obtain⟨⟨st,s2⟩,hst⟩:∃z,fJ L 0 nV (0,s1)=z:=⟨_,rfl⟩
 have hR:=aK.out;clear aK;rw[hst]at hR;simp only at hR;have HST:=zH hst;have aK:=zH hR;clear hst hR;go_wp2_with fail
 have k8:=Bk.new w1 9 #[.string ⟨#[83,84,82,73,67,84]⟩,.string ⟨#[78,69,88,84]⟩,.string ⟨#[65,78,89]⟩];have qH:=zH (vW.out.old (zR.alloc zL (.cells #[.string ⟨#[83,84,82,73,67,84]⟩,.string ⟨#[78,69,88,84]⟩,.string ⟨#[65,78,89]⟩] 9)))
 have NH:Hid (∀j,j<3->∃(S:ByteArray) (v:Str),(#[Value.string ⟨#[83,84,82,73,67,84]⟩,.string ⟨#[78,69,88,84]⟩,.string ⟨#[65,78,89]⟩]:Array Value)[j]? =some (.string S)/\S.toList=v/\nV.drop j=v::nV.drop (j+1)):=zH fun j hj=>by
  match j,hj with
  |0,_=>exact⟨_,_,rfl,rfl,by rw[ByteArray.toList_eq];rfl⟩
  |1,_=>exact⟨_,_,rfl,rfl,by rw[ByteArray.toList_eq];rfl⟩
  |2,_=>exact⟨_,_,rfl,rfl,by rw[ByteArray.toList_eq];rfl⟩
 generalize w1.alloc (.cells #[.string ⟨#[83,84,82,73,67,84]⟩,.string ⟨#[78,69,88,84]⟩,.string ⟨#[65,78,89]⟩] 9)=W8 at *;have hb8:b<w1.heap.size:=vW.out.st.bk.lt;clear vW;generalize w1.heap.size=g8 at *;have HK8:=zH k8;clear k8
 go_loopw[10] (fun i wr=>∃(j st':Nat) (x:PS),i=.int .i64 j/\j<=3/\Hid (fJ L j (nV.drop j) (st',x)=(st,s2))/\Hid (gm L x)/\Hid (mf b v0 v1 L LA Lc w x st' 0 [] 0 wr/\Bk wr g8 9 #[.string ⟨#[83,84,82,73,67,84]⟩,.string ⟨#[78,69,88,84]⟩,.string ⟨#[65,78,89]⟩])) (fun i _=>3-(intOf i).toNat)
 case atStart=>exact⟨0,0,s1,rfl,by omega,HST,zH hok1,zH ⟨qH.out,HK8.out⟩⟩
 case round=>
  clear qH HK8 HST;obtain⟨j,st',x,rfl,hj,hrec,vw,HV⟩:=hrel;obtain⟨wo,rfl⟩:∃wo:World,wo=wr:=⟨_,rfl⟩
  by_cases hlt:j<3
  ·as_aux_lemma=>
   obtain⟨S,v,hc,hSv,hdr⟩:=NH.out j hlt;have r8:wo.cell? ⟨g8,j,none⟩=some (.string S):=(HV.out.2.cell j).trans hc;have zu:=hrec.out;rw[hdr,Ia]at zu;have l7:=zH zu;have HSV:=zH hSv;clear hrec zu hdr hc hSv aK;go_upto_region 4 with fail
   have VF:=zH (HIS.out x wo S v _ HSV.out vw.out HV.out.1.st);obtain⟨bi,hbi⟩:∃z,eQ L x v=z:=⟨_,rfl⟩
   rw[hbi]at VF;obtain⟨hit,hhit⟩:∃z,(decide (x.err=0)&&(decide (st'=0)&&bi))=z:=⟨_,rfl⟩
   have Bd:=zH hhit;have L6:=zH hbi;have d3:=HV.out.1.st.c3;have d7:=HV.out.1.c7;clear hhit hbi r8
   go_cut[35] (fun v wx=>v=.bool hit/\Hid (mf b v0 v1 L LA Lc w x st' 0 [] 0 wx/\Bk wx g8 9 #[.string ⟨#[83,84,82,73,67,84]⟩,.string ⟨#[78,69,88,84]⟩,.string ⟨#[65,78,89]⟩]))
   case first=>
    as_aux_lemma=>
    by_cases h0:x.err=0
    case neg=>
     have iQ:((x.err:Int)==0)=false:=by rw[beq_eq_false_iff_ne];omega
     have hst:hit=false:=by rw[<-Bd.out];simp[h0]
     subst hst;clear h0;go_wp2_with fail
     go_meet
     exact⟨rfl,HV⟩
    case pos=>
     have iQ:((x.err:Int)==0)=true:=by rw[beq_iff_eq];omega
     by_cases h1:st'=0
     case neg=>
      have h1I:((st':Int)==0)=false:=by rw[beq_eq_false_iff_ne];omega
      have hst:hit=false:=by rw[<-Bd.out];simp[h1]
      subst hst;clear h0 h1;go_wp2_with fail
      go_meet
      exact⟨rfl,HV⟩
     case pos=>
      have h1I:((st':Int)==0)=true:=by rw[beq_iff_eq];omega
      have hst:hit=bi:=by rw[<-Bd.out];simp[h0,h1]
      subst hst;clear h0 h1;go_wp2_with fail
      refine VF.out.mono ?_;rintro r w4 ⟨rfl,hb4⟩;have gZ:Hid (mf b v0 v1 L LA Lc w x st' 0 [] 0 w4/\Bk w4 g8 9 #[.string ⟨#[83,84,82,73,67,84]⟩,.string ⟨#[78,69,88,84]⟩,.string ⟨#[65,78,89]⟩]):=zH ⟨HV.out.1.old hb4,HV.out.2.old hb4⟩;clear hb4 d3 d7;go_wp2_with fail
      go_meet
      exact⟨rfl,gZ⟩
   case rest=>
   obtain⟨rfl,iM⟩:=hcut;clear HV VF d3 d7;cases hit
   case false=>
    as_aux_lemma=>
    have hR:=l7.out
    rw[if_neg (by
     have:=Bd.out;intro h;rw[<-L6.out]at this
     simp[h.1,h.2.1,h.2.2]at this)]at hR
    have HR:=zH hR;clear hR l7;go_wp2
    go_roundw
    case rel=>exact⟨j+1,st',x,by go_num,by omega,HR,vw,iM⟩
    case measure=>simp[intOf];omega
   case true=>
    as_aux_lemma=>
    have hx:x.err=0/\st'=0/\eQ L x v=true:=by
     have:=Bd.out;rw[<-L6.out]at this
     simpa using this
    have hR:=l7.out;rw[if_pos hx]at hR;have HR:=zH hR;have gn:=bn.next he vw.out (bG hx.2.2);have Kv:=zH gn.ok;have hxi:=H9.out x vw.out;have V:=iM.out.1;have e7:=V.c7;have f7:=V.st.fr 7;have V2:=V.put7 (j+1);rw[show((j+1:Nat):Int)=(j:Int)+1 by omega]at V2;have e1:=V2.st.c1;have f1:=V2.st.fr 1;have V3:=V2.next;have mX:Hid (mf b v0 v1 L LA Lc w (aO x) (j+1) 0 [] 0 ((wc.setCell ⟨b,7,none⟩ (.int .i64 ((j:Int)+1))).setCell ⟨b,1,none⟩ (.int .i64 ((x.i:Int)+1)))/\Bk ((wc.setCell ⟨b,7,none⟩ (.int .i64 ((j:Int)+1))).setCell ⟨b,1,none⟩ (.int .i64 ((x.i:Int)+1))) g8 9 #[.string ⟨#[83,84,82,73,67,84]⟩,.string ⟨#[78,69,88,84]⟩,.string ⟨#[65,78,89]⟩]):=zH ⟨V3,(iM.out.2.far (p:=⟨b,7,none⟩) (by show g8≠b;omega) _).far (p:=⟨b,1,none⟩) (by show g8≠b;omega) _⟩;clear V V2 V3 hR l7 gn hx iM;go_wp2
    go_roundw
    case rel=>exact⟨j+1,j+1,aO x,by go_num,by omega,HR,Kv,mX⟩
    case measure=>simp[intOf];omega
  ·have hj3:j=3:=by omega
   subst hj3;have hR:(st',x)=(st,s2):=hrec.out;injection hR with h1 h2
   subst h1;subst h2;have hok2:=vw.out;clear vw hrec NH;go_upto_region 8 with fail
   clear hb8;have HV:=zH HV.out.1;have d7:=HV.out.c7;obtain⟨x3,hx3⟩:∃z,(if st'=0 then aW L 13 x else x)=z:=⟨_,rfl⟩
   have zx:gm L x3:=by
    rw[<-hx3]
    split
    ·exact(bn.fail _ hok2).ok
    ·exact hok2
   have h4:E5 L (st',x)=ay L qB x3:=by unfold E5;rw[hx3]
   have hR:=aK.out;clear aK;rw[h4]at hR;have aK:=zH hR;have HX3:=zH hx3;clear hR h4 hx3 hj hlt;go_upto_if 57 with fail
   go_cut[] (fun wx=>Hid (mf b v0 v1 L LA Lc w x3 st' 0 [] 0 wx))
   case first=>
    as_aux_lemma=>
    by_cases h0:st'=0
    case neg=>
     have iQ:((st':Int)==0)=false:=by rw[beq_eq_false_iff_ne];omega
     have hx:x3=x:=by rw[<-HX3.out,if_neg h0]
     subst hx;clear h0;go_wp2_with fail
     go_meet
     exact HV
    case pos=>
     have iQ:((st':Int)==0)=true:=by rw[beq_iff_eq];omega
     have hx:aW L 13 x=x3:=by rw[<-HX3.out,if_pos h0]
     have HX:=zH hx;clear h0 hx;go_wp2_with fail
     refine(jG.out x _ _ 13 hok2 HV.out.st).mono ?_;rintro r w4 ⟨rfl,hs4⟩;have gZ:Hid (mf b v0 v1 L LA Lc w x3 st' 0 [] 0 w4):=zH (by rw[<-HX.out];exact HV.out.steps hs4);clear hs4 HV d7;go_wp2_with fail
     go_meet
     exact gZ
   case rest=>
   have mX:=hcut;clear hcut HV d7 HX3;have g4:=bn.need he qB zx;go_wp2_with fail
   refine(lX.out x3 _ _ _ _ hwit zx mX.out.st).mono ?_;rintro r w4 ⟨rfl,hs4⟩;have gZ:=zH (mX.out.steps hs4);generalize ay L qB x3=x4 at *;have Fe:=g4.ok;clear hs4 mX g4;go_upto_region 11 with fail
   obtain⟨bad,hbad⟩:∃z,(decide (x4.err=0)&& !decide ((bf L x4).kind=3))=z:=⟨_,rfl⟩
   have HBAD:=zH hbad;clear hbad
   go_cut[85] (fun v wx=>v=.bool bad/\Hid (mf b v0 v1 L LA Lc w x4 st' 0 [] 0 wx))
   case first=>
    as_aux_lemma=>
    obtain⟨tb,tq,hA,htb,r0,r2,r4⟩:=gZ.out.tok Fe.lt;have c0:=gZ.out.st.c0;have c1:=gZ.out.st.c1;have c3:=gZ.out.st.c3;rw[hA]at c0;have hlt4:=Fe.lt;clear hA r2 r4
    by_cases h0:x4.err=0
    case neg=>
     have iQ:((x4.err:Int)==0)=false:=by rw[beq_eq_false_iff_ne];omega
     have hst:bad=false:=by rw[<-HBAD.out];simp[h0]
     subst hst;clear h0
     go_quiet (fail)
     have Ff:=zH (gZ.out.old (below_drewN zR nq));go_wp2
     go_meet
     exact⟨rfl,Ff⟩
    case pos=>
     have iQ:((x4.err:Int)==0)=true:=by rw[beq_iff_eq];omega
     by_cases hk:(bf L x4).kind=3
     case pos=>
      have J8:(((bf L x4).kind:Int) !=3)=false:=by rw[bne_eq_false_iff_eq];omega
      have hst:bad=false:=by rw[<-HBAD.out];simp[hk]
      subst hst;generalize(bf L x4).kind=K at *;clear h0 hk
      go_quiet (fail)
      have Ff:=zH (gZ.out.old (below_drewN zR nq));go_wp2
      go_meet
      exact⟨rfl,Ff⟩
     case neg=>
      have J8:(((bf L x4).kind:Int) !=3)=true:=by rw[bne_iff_ne];omega
      have hst:bad=true:=by rw[<-HBAD.out];simp[hk,h0]
      subst hst;generalize(bf L x4).kind=K at *;clear h0 hk
      go_quiet (fail)
      have Ff:=zH (gZ.out.old (below_drewN zR nq));go_wp2
      go_meet
      exact⟨rfl,Ff⟩
   case rest=>
   obtain⟨rfl,HV5⟩:=hcut;clear gZ;obtain⟨x5,hx5⟩:∃z,lK L x4=z:=⟨_,rfl⟩
   have zy:gm L x5:=by rw[<-hx5];exact(bn.tl5 (bn.refl Fe)).ok
   have Y8:x5=if bad=true then aW L 13 x4 else x4:=by
    rw[<-hx5,<-HBAD.out];unfold lK;simp
   have hR:=aK.out;clear aK;rw[hx5]at hR;have aK:=zH hR;have HX5:=zH hx5;have VG:=zH Y8;clear hR hx5 Y8 HBAD;go_upto_if 85 with fail
   go_cut[] (fun wx=>Hid (mf b v0 v1 L LA Lc w x5 st' 0 [] 0 wx))
   case first=>
    as_aux_lemma=>
    cases bad
    case false=>
     have hx:x5=x4:=VG.out;subst hx;go_wp2_with fail
     go_meet
     exact HV5
    case true=>
     have HX:Hid (aW L 13 x4=x5):=zH VG.out.symm;go_wp2_with fail
     refine(jG.out x4 _ _ 13 Fe HV5.out.st).mono ?_;rintro r w4 ⟨rfl,hs4⟩;have gZ:Hid (mf b v0 v1 L LA Lc w x5 st' 0 [] 0 w4):=zH (by rw[<-HX.out];exact HV5.out.steps hs4);clear hs4 HV5;go_wp2_with fail
     go_meet
     exact gZ
   case rest=>
   have gZ:=hcut;clear hcut HV5 VG bad;go_upto_region 13 with fail
   obtain⟨bad,hbad⟩:∃z,(decide (x5.err=0)&&decide (1152921504606846976<(bf L x5).n))=z:=⟨_,rfl⟩
   have HBAD:=zH hbad;clear hbad
   go_cut[109] (fun v wx=>v=.bool bad/\Hid (mf b v0 v1 L LA Lc w x5 st' 0 [] 0 wx))
   case first=>
    as_aux_lemma=>
    obtain⟨tb,tq,hA,htb,r0,r2,r4⟩:=gZ.out.tok zy.lt;have c0:=gZ.out.st.c0;have c1:=gZ.out.st.c1;have c3:=gZ.out.st.c3;rw[hA]at c0;have hlt4:=zy.lt;clear hA r0 r4
    by_cases h0:x5.err=0
    case neg=>
     have iQ:((x5.err:Int)==0)=false:=by rw[beq_eq_false_iff_ne];omega
     have hst:bad=false:=by rw[<-HBAD.out];simp[h0]
     subst hst;generalize(bf L x5).n=N at *;clear h0 HBAD
     go_quiet (fail)
     have Ff:=zH (gZ.out.old (below_drewN zR nq));go_wp2
     go_meet
     exact⟨rfl,Ff⟩
    case pos=>
     have iQ:((x5.err:Int)==0)=true:=by rw[beq_iff_eq];omega
     have hst:decide ((1152921504606846976:Int)<((bf L x5).n:Int))=bad:=by
      rw[<-HBAD.out];simp only[h0,decide_true,Bool.true_and,decide_eq_decide];omega
     generalize(bf L x5).n=N at *;clear h0 HBAD;cases bad
     ·go_quiet (fail)
      have Ff:=zH (gZ.out.old (below_drewN zR nq));go_wp2
      go_meet
      exact⟨rfl,Ff⟩
     ·go_quiet (fail)
      have Ff:=zH (gZ.out.old (below_drewN zR nq));go_wp2
      go_meet
      exact⟨rfl,Ff⟩
   case rest=>
   obtain⟨rfl,HV5⟩:=hcut;clear gZ;obtain⟨x6,hx6⟩:∃z,pX L x5=z:=⟨_,rfl⟩
   have Q7:gm L x6:=by rw[<-hx6];exact(bn.tl6 (bn.refl zy)).ok
   have Y9:x6=if bad=true then aW L 1 x5 else x5:=by
    rw[<-hx6,<-HBAD.out];unfold pX;simp
   have hkind:x6.err=0->(bf L x6).kind≠0:=by
    intro h;rw[<-hx6,<-HX5.out]at h;have:=(Fb h).1;rw[HX5.out,hx6]at this;omega
   have hR:=aK.out;clear aK;rw[hx6]at hR;have aK:=zH hR;have VH:=zH Y9;have TW:=zH hkind;clear hR hx6 Y9 HBAD hkind HX5;go_upto_if 109 with fail
   go_cut[] (fun wx=>Hid (mf b v0 v1 L LA Lc w x6 st' 0 [] 0 wx))
   case first=>
    as_aux_lemma=>
    cases bad
    case false=>
     have hx:x6=x5:=VH.out;subst hx;go_wp2_with fail
     go_meet
     exact HV5
    case true=>
     have HX:Hid (aW L 1 x5=x6):=zH VH.out.symm;go_wp2_with fail
     refine(jG.out x5 _ _ 1 zy HV5.out.st).mono ?_;rintro r w4 ⟨rfl,hs4⟩;have gZ:Hid (mf b v0 v1 L LA Lc w x6 st' 0 [] 0 w4):=zH (by rw[<-HX.out];exact HV5.out.steps hs4);clear hs4 HV5;go_wp2_with fail
     go_meet
     exact gZ
   case rest=>
   have dS:=hcut;clear hcut HV5 VH bad zy Fe zx hok2;have d3:=dS.out.st.c3
   by_cases h0:x6.err=0
   case neg=>
    as_aux_lemma=>
    have iQ:((x6.err:Int) !=0)=true:=by rw[bne_iff_ne];omega
    have hR:=aK.out;unfold tailE at hR;rw[if_pos h0]at hR;subst hR;clear h0 aK;go_wp2_with fail
    (try simp only[Exit.inBlock,Exit.then]);refine bodyPost_ret (v:=.tuple #[]) (by simp[results,Try.results41,go_sem]) rfl ?_
    exact⟨rfl,dS.out⟩
   case pos=>
    as_aux_lemma=>
    have iQ:((x6.err:Int) !=0)=false:=by rw[bne_eq_false_iff_eq];omega
    have hR:=aK.out;unfold tailE at hR;rw[if_neg (by omega)]at hR;have kE:=zH hR;have hk6:=TW.out h0;have g7:=bn.next he Q7 hk6;have VI:=g7.ok;clear aK TW hR h0 hk6 g7;go_upto_region 16 with fail
    clear d3 iQ;obtain⟨tb,tq,hA,htb,r0,r2,r4⟩:=dS.out.tok Q7.lt;have c0:=dS.out.st.c0;have c1:=dS.out.st.c1;rw[hA]at c0;have Za:=Q7.lt;clear hA r0 r4;obtain⟨i,hii⟩:∃i,x6.i=i:=⟨_,rfl⟩
    have HII:=zH hii;obtain⟨m,hm⟩:∃m,(bf L x6).n=m:=⟨_,rfl⟩
    rw[hii]at c1 r2 Za;rw[hm]at r2;have hR:=kE.out;clear kE;rw[hm]at hR;have aK:=zH hR;have hxi:=H9.out x6 Q7;clear hii hm hR;obtain⟨W,hW⟩:∃W,wc=W:=⟨_,rfl⟩
    rw[hW]at c0 c1 r2 dS⊢;clear hW;refine cZ 14 (fun k=>false) (by kernel_rfl) (fun qk=>(Q4 b tb tq i m L Lc).getD qk .any) (by kernel_rfl) ?_ ?_
    ·refine aj.cons rfl [] [0] rfl rfl (by kernel_rfl) (by kernel_rfl) (fun qK qa wr hB qO qF hK=>?_) ?_
     ·have e0:qa.tmps[0]? =some (.pointer (some ⟨b,0,none⟩)):=qO.1.trans rfl;clear qO qF;go_simp;exact hK _ _ zR rfl
     refine aj.cons rfl [] [0] rfl rfl (by kernel_rfl) (by kernel_rfl) (fun qK qa wr hB qO qF hK=>?_) ?_
     ·have e0:qa.tmps[0]? =some (.pointer (some ⟨b,0,none⟩)):=qO.1.trans rfl;clear qO qF;go_simp;exact hK _ _ zR rfl
     refine aj.cons rfl [1] [] rfl rfl (by kernel_rfl) (by kernel_rfl) (fun qK qa wr hB qO qF hK=>?_) ?_
     ·have e119:=aH qF.1 rfl rfl;clear qO qF;go_simp;exact hK _ _ zR rfl
     refine aj.cons rfl [2] [] rfl rfl (by kernel_rfl) (by kernel_rfl) (fun qK qa wr hB qO qF hK=>?_) ?_
     ·have e120:=aH qF.1 rfl rfl;clear qO qF;go_simp;exact hK _ _ zR rfl
     refine aj.cons rfl [3] [] rfl rfl (by kernel_rfl) (by kernel_rfl) (fun qK qa wr hB qO qF hK=>?_) ?_
     ·have e121:=aH qF.1 rfl rfl;clear qO qF;go_simp;exact hK _ _ zR rfl
     refine aj.cons rfl [4] [] rfl rfl (by kernel_rfl) (by kernel_rfl) (fun qK qa wr hB qO qF hK=>?_) ?_
     ·have e122:=aH qF.1 rfl rfl;clear qO qF;have hc0:=zE hB c0;go_simp;exact hK _ _ zR rfl
     refine aj.cons rfl [] [0] rfl rfl (by kernel_rfl) (by kernel_rfl) (fun qK qa wr hB qO qF hK=>?_) ?_
     ·have e0:qa.tmps[0]? =some (.pointer (some ⟨b,0,none⟩)):=qO.1.trans rfl;clear qO qF;go_simp;exact hK _ _ zR rfl
     refine aj.cons rfl [6] [] rfl rfl (by kernel_rfl) (by kernel_rfl) (fun qK qa wr hB qO qF hK=>?_) ?_
     ·have e124:=aH qF.1 rfl rfl;clear qO qF;go_simp;exact hK _ _ zR rfl
     refine aj.cons rfl [7] [] rfl rfl (by kernel_rfl) (by kernel_rfl) (fun qK qa wr hB qO qF hK=>?_) ?_
     ·have e125:=aH qF.1 rfl rfl;clear qO qF;go_simp;exact hK _ _ zR rfl
     refine aj.cons rfl [8] [] rfl rfl (by kernel_rfl) (by kernel_rfl) (fun qK qa wr hB qO qF hK=>?_) ?_
     ·have e126:=aH qF.1 rfl rfl;clear qO qF;go_simp;exact hK _ _ zR rfl
     refine aj.cons rfl [9] [] rfl rfl (by kernel_rfl) (by kernel_rfl) (fun qK qa wr hB qO qF hK=>?_) ?_
     ·have e127:=aH qF.1 rfl rfl;clear qO qF;have hc1:=zE hB c1;go_simp;exact hK _ _ zR rfl
     refine aj.cons rfl [5,10] [] rfl rfl (by kernel_rfl) (by kernel_rfl) (fun qK qa wr hB qO qF hK=>?_) ?_
     ·have e123:=aH qF.1 rfl rfl;have e128:=aH qF.2.1 rfl rfl;clear qO qF;go_simp;exact hK _ _ zR rfl
     refine aj.cons rfl [11] [] rfl rfl (by kernel_rfl) (by kernel_rfl) (fun qK qa wr hB qO qF hK=>?_) ?_
     ·have e129:=aH qF.1 rfl rfl;clear qO qF;go_simp;exact hK _ _ zR rfl
     refine aj.cons rfl [12] [] rfl rfl (by kernel_rfl) (by kernel_rfl) (fun qK qa wr hB qO qF hK=>?_) ?_
     ·have Zb:=aH qF.1 rfl rfl;clear qO qF;have hr2:=zE hB r2;go_simp;exact hK _ _ zR rfl
     exact aj.nil
    intro vals wr hl hB hR hS
    match vals,hl with
    |[Zc,z119,z120,z121,z122,z123,z124,z125,Zd,z127,Ze,Zf,z130,z131],_=>
    have r0:Zc=.pointer (some ⟨b,0,none⟩):=hR 0 _ rfl;subst r0;have r13:z131=.int .i64 (m:Nat):=hR 13 _ rfl;subst r13;clear hS;clear hR;simp only[List.take_succ_cons,List.take_zero,List.drop_succ_cons,List.drop_zero,List.toList_toArray,List.cons_append,List.nil_append,aN,Act.put,List.setIfInBounds_toArray,List.set_cons_zero,List.set_cons_succ];have V7:=dS.out.old hB;have e8:=V7.c8;have f8:=V7.st.fr 8;have V8:=V7.put8 m;have e1:=V8.st.c1;have f1:=V8.st.fr 1;have pq:=zH V8.next;clear V7 V8 hB dS c0 c1 r2 htb Za;go_upto_region 18 with fail
    clear e8 f8 e1 f1 HII;generalize(wr.setCell ⟨b,8,none⟩ (.int .i64 m)).setCell ⟨b,1,none⟩ (.int .i64 ((x6.i:Int)+1))=W9 at *;obtain⟨part,hpart⟩:∃z,eQ L (aO x6) nT=z:=⟨_,rfl⟩
    have VF:=zH (HIS.out (aO x6) W9 _ _ _ hpar VI pq.out.st);rw[hpart]at VF;have hR:=aK.out;clear aK;rw[hpart]at hR;have aK:=zH hR;have TZ:=zH hpart;generalize aO x6=x7 at *;clear hR hpart;go_wp2_with fail
    refine VF.out.mono ?_;rintro r w5 ⟨rfl,hb5⟩;have HV5:=zH (pq.out.old hb5);clear VF pq hb5;cases part
    case false=>
     as_aux_lemma=>
     go_wp2_with fail
     first|go_end0|refine bodyPost_end (v:=.tuple #[]) (by simp[results,Try.results41,go_sem]) rfl ?_
     have hR:=aK.out;subst hR;exact⟨rfl,HV5.out⟩
    case true=>
     as_aux_lemma=>
     have g8:=bn.next he VI (bG TZ.out);have Zg:=g8.ok;have hx7:=H9.out x7 VI;have e1:=HV5.out.st.c1;have f1:=HV5.out.st.fr 1;have dS:=zH HV5.out.next;clear HV5 TZ g8;go_upto_region 20 with fail
     clear e1 f1;generalize w5.setCell ⟨b,1,none⟩ (.int .i64 ((x7.i:Int)+1))=W6 at *;generalize aO x7=x8 at *;have g9:=bn.need he TJ Zg;have o8:=g9.ok;go_wp2_with fail
     refine(lX.out x8 _ _ _ _ hby Zg dS.out.st).mono ?_;rintro r w8 ⟨rfl,hs8⟩;have qH:=zH (dS.out.steps hs8);generalize ay L TJ x8=x9 at *;clear hs8 dS g9;go_upto_region 21 with fail
     obtain⟨tb,tq,hA,htb,r0,r2,r4⟩:=qH.out.tok o8.lt;have c0:=qH.out.st.c0;have c1:=qH.out.st.c1;rw[hA]at c0;have Zh:=o8.lt;clear hA r0 r2;obtain⟨i,hii⟩:∃i,x9.i=i:=⟨_,rfl⟩
     obtain⟨win,hwin⟩:∃k,m=k:=⟨_,rfl⟩
     subst hwin;obtain⟨pp,hpp⟩:∃m,(bf L x9).pos=m:=⟨_,rfl⟩
     rw[hii]at c1 r4 Zh;rw[hpp]at r4;have hR:=aK.out;clear aK;rw[hpp]at hR;have aK:=zH hR;clear hii hpp hR;obtain⟨W,hW⟩:∃W,w8=W:=⟨_,rfl⟩
     rw[hW]at c0 c1 r4 qH⊢;clear hW;refine cZ 14 (fun k=>false) (by kernel_rfl) (fun qk=>(Q5 b tb tq i pp L Lc).getD qk .any) (by kernel_rfl) ?_ ?_
     ·refine aj.cons rfl [] [0] rfl rfl (by kernel_rfl) (by kernel_rfl) (fun qK qa wr hB qO qF hK=>?_) ?_
      ·have e0:qa.tmps[0]? =some (.pointer (some ⟨b,0,none⟩)):=qO.1.trans rfl;clear qO qF;go_simp;exact hK _ _ zR rfl
      refine aj.cons rfl [] [0] rfl rfl (by kernel_rfl) (by kernel_rfl) (fun qK qa wr hB qO qF hK=>?_) ?_
      ·have e0:qa.tmps[0]? =some (.pointer (some ⟨b,0,none⟩)):=qO.1.trans rfl;clear qO qF;go_simp;exact hK _ _ zR rfl
      refine aj.cons rfl [1] [] rfl rfl (by kernel_rfl) (by kernel_rfl) (fun qK qa wr hB qO qF hK=>?_) ?_
      ·have e162:=aH qF.1 rfl rfl;clear qO qF;go_simp;exact hK _ _ zR rfl
      refine aj.cons rfl [2] [] rfl rfl (by kernel_rfl) (by kernel_rfl) (fun qK qa wr hB qO qF hK=>?_) ?_
      ·have e163:=aH qF.1 rfl rfl;clear qO qF;go_simp;exact hK _ _ zR rfl
      refine aj.cons rfl [3] [] rfl rfl (by kernel_rfl) (by kernel_rfl) (fun qK qa wr hB qO qF hK=>?_) ?_
      ·have e164:=aH qF.1 rfl rfl;clear qO qF;go_simp;exact hK _ _ zR rfl
      refine aj.cons rfl [4] [] rfl rfl (by kernel_rfl) (by kernel_rfl) (fun qK qa wr hB qO qF hK=>?_) ?_
      ·have e165:=aH qF.1 rfl rfl;clear qO qF;have hc0:=zE hB c0;go_simp;exact hK _ _ zR rfl
      refine aj.cons rfl [] [0] rfl rfl (by kernel_rfl) (by kernel_rfl) (fun qK qa wr hB qO qF hK=>?_) ?_
      ·have e0:qa.tmps[0]? =some (.pointer (some ⟨b,0,none⟩)):=qO.1.trans rfl;clear qO qF;go_simp;exact hK _ _ zR rfl
      refine aj.cons rfl [6] [] rfl rfl (by kernel_rfl) (by kernel_rfl) (fun qK qa wr hB qO qF hK=>?_) ?_
      ·have e167:=aH qF.1 rfl rfl;clear qO qF;go_simp;exact hK _ _ zR rfl
      refine aj.cons rfl [7] [] rfl rfl (by kernel_rfl) (by kernel_rfl) (fun qK qa wr hB qO qF hK=>?_) ?_
      ·have e168:=aH qF.1 rfl rfl;clear qO qF;go_simp;exact hK _ _ zR rfl
      refine aj.cons rfl [8] [] rfl rfl (by kernel_rfl) (by kernel_rfl) (fun qK qa wr hB qO qF hK=>?_) ?_
      ·have e169:=aH qF.1 rfl rfl;clear qO qF;go_simp;exact hK _ _ zR rfl
      refine aj.cons rfl [9] [] rfl rfl (by kernel_rfl) (by kernel_rfl) (fun qK qa wr hB qO qF hK=>?_) ?_
      ·have e170:=aH qF.1 rfl rfl;clear qO qF;have hc1:=zE hB c1;go_simp;exact hK _ _ zR rfl
      refine aj.cons rfl [5,10] [] rfl rfl (by kernel_rfl) (by kernel_rfl) (fun qK qa wr hB qO qF hK=>?_) ?_
      ·have e166:=aH qF.1 rfl rfl;have e171:=aH qF.2.1 rfl rfl;clear qO qF;go_simp;exact hK _ _ zR rfl
      refine aj.cons rfl [11] [] rfl rfl (by kernel_rfl) (by kernel_rfl) (fun qK qa wr hB qO qF hK=>?_) ?_
      ·have e172:=aH qF.1 rfl rfl;clear qO qF;go_simp;exact hK _ _ zR rfl
      refine aj.cons rfl [12] [] rfl rfl (by kernel_rfl) (by kernel_rfl) (fun qK qa wr hB qO qF hK=>?_) ?_
      ·have e173:=aH qF.1 rfl rfl;clear qO qF;have hr4:=zE hB r4;go_simp;exact hK _ _ zR rfl
      exact aj.nil
     intro vals wr hl hB hR hS
     match vals,hl with
     |[z161,z162,z163,z164,z165,z166,z167,z168,z169,z170,z171,z172,z173,Zi],_=>
     have r0:z161=.pointer (some ⟨b,0,none⟩):=hR 0 _ rfl;subst r0;have r13:Zi=.int .i64 (pp:Nat):=hR 13 _ rfl;subst r13;clear hS;clear hR;simp only[List.take_succ_cons,List.take_zero,List.drop_succ_cons,List.drop_zero,List.toList_toArray,List.cons_append,List.nil_append,aN,Act.put,List.setIfInBounds_toArray,List.set_cons_zero,List.set_cons_succ];have V7:=qH.out.old hB;have e10:=V7.c10;have f10:=V7.st.fr 10;have uo:=zH (V7.Y6 pp);clear V7 hB qH c0 c1 r4 htb Zh;go_upto_region 22 with fail
     clear e10 f10;generalize wr.setCell ⟨b,10,none⟩ (.int .i64 pp)=W11 at *;have Dj:=rJ.out x9 W11 _ o8 uo.out.st;obtain⟨nm,x10,hnm⟩:∃a z,dD L x9=(a,z):=⟨_,_,rfl⟩
     have hR:=aK.out;clear aK;rw[hnm]at Dj hR;simp only at Dj hR;have aK:=zH hR;have BR:=zH Dj;clear Dj hnm hR;go_wp2_with fail
     refine BR.out.mono ?_;rintro r w12 ⟨rfl,Zj⟩;have V12:=uo.out.steps Zj;have e9:=V12.c9;have f9:=V12.st.fr 9;have HF:=zH (V12.put9 nm);clear V12 Zj uo BR;go_wp2_with fail
     first|go_end0|refine bodyPost_end (v:=.tuple #[]) (by simp[results,Try.results41,go_sem]) rfl ?_
     have hR:=aK.out;subst hR;exact⟨rfl,HF.out⟩
end
end Go.Proofs.Ytbjnhllkdilpfaa
