/- Part 17 of the proof. No conditions. -/
import Derived.Test.YtbjnhllkdilpfaaZc15
namespace Go.Proofs.Ytbjnhllkdilpfaa
open Go.RowKit
set_option maxRecDepth 100000
set_option maxHeartbeats 16000000
set_option linter.unusedVariables false
set_option linter.unusedSimpArgs false
def iK (v0 v1:Value) (st win:Nat) (key:Str) (ka:Nat):List Value:=[v0,v1,.int .i64 st,.int .i64 win,.string (bytes key),.int .i64 ka]
structure mO (b:Nat) (v0 v1:Value) (L:List az) (LA:Option Addr) (Lc:Nat) (w:World) (x:PS) (st win:Nat) (key:Str) (ka:Nat) (W:World):Prop where
 st:dh b 98 (iK v0 v1 st win key ka) L LA Lc x W
 gw:w.grownBy W (some b)
section
variable {b:Nat} {v0 v1:Value} {L:List az} {LA:Option Addr} {Lc:Nat} {w W W':World} {x y:PS} {st win ka:Nat} {key:Str}
theorem mO.old (h:mO b v0 v1 L LA Lc w x st win key ka W) (hb:Below W.heap.size W W'):mO b v0 v1 L LA Lc w x st win key ka W':=⟨h.st.old hb,h.gw.trans (below_grown hb _)⟩
theorem mO.steps (h:mO b v0 v1 L LA Lc w x st win key ka W) (hs:Steps b 98 (iK v0 v1 st win key ka) L LA Lc y W W'):mO b v0 v1 L LA Lc w y st win key ka W':=⟨hs.st,h.gw.trans hs.grown⟩
theorem mO.next (h:mO b v0 v1 L LA Lc w x st win key ka W):mO b v0 v1 L LA Lc w (aI x) st win key ka (W.setCell ⟨b,1,none⟩ (.int .i64 ((x.i:Int)+1))):=h.steps (step_next b _ _ L LA Lc x W h.st)
theorem mO.put7 (h:mO b v0 v1 L LA Lc w x st win key ka W) (n:Nat):mO b v0 v1 L LA Lc w x n win key ka (W.setCell ⟨b,7,none⟩ (.int .i64 n)):=
 ⟨⟨by simpa[bZ,iK]using h.st.bk.put 7 (.int .i64 n),nJ h.st.rd _ _⟩,bF h.gw⟩
theorem mO.put8 (h:mO b v0 v1 L LA Lc w x st win key ka W) (n:Nat):mO b v0 v1 L LA Lc w x st n key ka (W.setCell ⟨b,8,none⟩ (.int .i64 n)):=
 ⟨⟨by simpa[bZ,iK]using h.st.bk.put 8 (.int .i64 n),nJ h.st.rd _ _⟩,bF h.gw⟩
theorem mO.put9 (h:mO b v0 v1 L LA Lc w x st win key ka W) (n:Str):mO b v0 v1 L LA Lc w x st win n ka (W.setCell ⟨b,9,none⟩ (.string (bytes n))):=
 ⟨⟨by simpa[bZ,iK]using h.st.bk.put 9 (.string (bytes n)),nJ h.st.rd _ _⟩,bF h.gw⟩
theorem mO.zAz (h:mO b v0 v1 L LA Lc w x st win key ka W) (n:Nat):mO b v0 v1 L LA Lc w x st win key n (W.setCell ⟨b,10,none⟩ (.int .i64 n)):=
 ⟨⟨by simpa[bZ,iK]using h.st.bk.put 10 (.int .i64 n),nJ h.st.rd _ _⟩,bF h.gw⟩
theorem mO.c7 (h:mO b v0 v1 L LA Lc w x st win key ka W):W.cell? ⟨b,7,none⟩=some (.int .i64 st):=by rw[h.st.bk.cell 7];simp[bZ,iK]
theorem mO.c8 (h:mO b v0 v1 L LA Lc w x st win key ka W):W.cell? ⟨b,8,none⟩=some (.int .i64 win):=by rw[h.st.bk.cell 8];simp[bZ,iK]
theorem mO.c9 (h:mO b v0 v1 L LA Lc w x st win key ka W):W.cell? ⟨b,9,none⟩=some (.string (bytes key)):=by rw[h.st.bk.cell 9];simp[bZ,iK]
theorem mO.c10 (h:mO b v0 v1 L LA Lc w x st win key ka W):W.cell? ⟨b,10,none⟩=some (.int .i64 ka):=by rw[h.st.bk.cell 10];simp[bZ,iK]
theorem mO.tok (h:mO b v0 v1 L LA Lc w x st win key ka W) (hi:x.i<L.length):∃tb tq,LA=some ⟨tb,tq,none⟩/\tb<b/\W.cell? ⟨tb,tq+x.i*5,none⟩=some (.int .i64 (aY L x).kind)/\W.cell? ⟨tb,tq+x.i*5+2,none⟩=some (.int .i64 (aY L x).n)/\W.cell? ⟨tb,tq+x.i*5+4,none⟩=some (.int .i64 (aY L x).pos):=by
 obtain⟨tb,tq,hA,htb,hc⟩:=h.st.rd.elem (n:=5) vS (by omega) hi;rw[rX hi];exact⟨tb,tq,hA,htb,hc 0 _ rfl,hc 2 _ rfl,hc 4 _ rfl⟩
theorem Ba (he:dK L):∀(l:List Str) (i st:Nat) (x:PS),gG L x->bf L x (fU L i l (st,x)).2
 |[],i,st,x,h=>bf.refl h
 |u::l,i,st,x,h=>by
  show bf L x (fU L (i+1) l (if x.err=0/\st=0/\eX L x u=true then(i+1,aI x)else(st,x))).2
  split
  ·rename_i hx
   have g:=bf.next he h (bn hx.2.2);exact g.trans (Ba he l _ _ _ g.ok)
  ·exact Ba he l _ _ _ h
theorem J6 (i:Nat) (u:Str) (l:List Str) (st:Nat) (x:PS):fU L i (u::l) (st,x)=fU L (i+1) l (if x.err=0/\st=0/\eX L x u=true then(i+1,aI x)else(st,x)):=rfl
end
def tailE (L:List az) (st:Nat) (s6:PS):(Nat×Nat×Str×Nat)×PS:=
 if s6.err≠0 then((st,0,[],0),s6)
 else if eX L (aI s6) oO=true then((st,(aY L s6).n,(dw L (aJ L Xh (aI (aI s6)))).1,(aY L (aJ L Xh (aI (aI s6)))).pos),(dw L (aJ L Xh (aI (aI s6)))).2)
 else((st,(aY L s6).n,[],0),aI s6)
def Hl (L:List az) (r:Nat×PS):PS:=aJ L rW (if r.1=0 then aS L 13 r.2 else r.2)
def l7 (L:List az) (x:PS):PS:=if x.err=0/\(aY L x).kind≠3 then aS L 13 x else x
def qU (L:List az) (x:PS):PS:=if x.err=0/\1152921504606846976<(aY L x).n then aS L 1 x else x
theorem Hm (L:List az) (s:PS):nZ L s=tailE L (fU L 0 oP (0,aJ L jm s)).1 (qU L (l7 L (Hl L (fU L 0 oP (0,aJ L jm s))))):=by kernel_rfl
theorem bf.tl4 {L:List az} {s:PS} (he:dK L) (r:Nat×PS) (h:bf L s r.2):bf L s (Hl L r):=by
 unfold Hl
 have:bf L s (if r.1=0 then aS L 13 r.2 else r.2):=by
  split
  ·exact h.trans (bf.fail _ h.ok)
  ·exact h
 exact this.trans (bf.need he _ this.ok)
theorem bf.tl5 {L:List az} {s x:PS} (h:bf L s x):bf L s (l7 L x):=by
 unfold l7
 split
 ·exact h.trans (bf.fail _ h.ok)
 ·exact h
theorem bf.tl6 {L:List az} {s x:PS} (h:bf L s x):bf L s (qU L x):=by
 unfold qU
 split
 ·exact h.trans (bf.fail _ h.ok)
 ·exact h
theorem Ho {L:List az} {x:PS} (h:(qU L (l7 L x)).err=0):(aY L (qU L (l7 L x))).kind=3/\qU L (l7 L x)=x/\(aY L x).n<=1152921504606846976:=by
 have h6:qU L (l7 L x)=l7 L x:=by
  by_cases hc:(l7 L x).err=0/\1152921504606846976<(aY L (l7 L x)).n
  ·have:qU L (l7 L x)=aS L 1 (l7 L x):=by unfold qU;rw[if_pos hc]
   rw[this]at h;exact absurd h (jM (by decide))
  ·unfold qU;rw[if_neg hc]
 rw[h6]at h⊢
 have h5:l7 L x=x:=by
  by_cases hc:x.err=0/\(aY L x).kind≠3
  ·have:l7 L x=aS L 13 x:=by unfold l7;rw[if_pos hc]
   rw[this]at h;exact absurd h (jM (by decide))
  ·unfold l7;rw[if_neg hc]
 rw[h5]at h h6⊢;refine⟨?_,rfl,?_⟩
 ·by_cases hk:(aY L x).kind=3
  ·exact hk
  ·exfalso;have:l7 L x=aS L 13 x:=by unfold l7;rw[if_pos ⟨h,hk⟩]
   rw[h5]at this;have h2:(aS L 13 x).err≠0:=jM (by decide);rw[<-this]at h2;exact h2 h
 ·rcases Nat.lt_or_ge 1152921504606846976 (aY L x).n with hn|hn
  ·exfalso;have:qU L x=aS L 1 x:=by unfold qU;rw[if_pos ⟨h,hn⟩]
   rw[h6]at this;have h2:(aS L 1 x).err≠0:=jM (by decide);rw[<-this]at h2;exact h2 h
  ·exact hn
section
variable (b:Nat) (v0 v1:Value) (L:List az) (LA:Option Addr) (Lc:Nat)
def zA0 (w:World) (r:(Nat×Nat×Str×Nat)×PS) (e:Ending) (w':World):Prop:=e=.returned (.tuple #[])/\mO b v0 v1 L LA Lc w r.2 r.1.1 r.1.2.1 r.1.2.2.1 r.1.2.2.2 w'
theorem Q7 (s : PS) (w : World) (h : dh b 98 (iK v0 v1 0 0 [] 0) L LA Lc s w) (he : dK L) (hi : gG L s) (hL : L.length ≤ 4001) :
  Calls Try.prog 41 #[.pointer (some ⟨b,0,none⟩)] w (zA0 b v0 v1 L LA Lc w (nZ L s)):=by
 have HIS:Hid (∀(x:PS) (W:World) (S:ByteArray) (v:Str) (rest:List Value),S.toList=v->gG L x->dh b 98 rest L LA Lc x W->Calls Try.prog 39 #[.pointer (some ⟨b,0,none⟩),.string S] W fun r w'=>r=.returned (.bool (eX L x v))/\Below W.heap.size W w'):=zH fun x W S v rest hv ho h=>by
  have:=lu b _ rest L LA Lc x W S h ho.lt hL
  rwa [hv]at this
 have pR:Hid (∀(x:PS) (W:World) (S:ByteArray) (v:Str) (rest:List Value),S.toList=v->gG L x->dh b 98 rest L LA Lc x W->Calls Try.prog 37 #[.pointer (some ⟨b,0,none⟩),.string S] W fun r w'=>r=.returned (.tuple #[])/\Steps b 98 rest L LA Lc (aJ L v x) W w'):=zH fun x W S v rest hv ho h=>by
  have:=lZ b _ rest L LA Lc x W S h ho.lt hL
  rwa [hv]at this
 have jR:Hid (∀(x:PS) (W:World) (rest:List Value) (e:Nat),gG L x->dh b 98 rest L LA Lc x W->Calls Try.prog 57 #[.pointer (some ⟨b,0,none⟩),.int .i64 e] W fun r w'=>r=.returned (.tuple #[])/\Steps b 98 rest L LA Lc (aS L e x) W w'):=zH fun x W rest e ho h=>DI b _ rest L LA Lc x W e h ho.lt hL
 have tJ:Hid (∀(x:PS) (W:World) (rest:List Value),gG L x->dh b 98 rest L LA Lc x W->Calls Try.prog 58 #[.pointer (some ⟨b,0,none⟩)] W fun r w'=>r=.returned (.string (bytes (dw L x).1))/\Steps b 98 rest L LA Lc (dw L x).2 W w'):=zH fun x W rest ho h=>DJ b _ rest L LA Lc x W h ho.lt hL
 have hstr:(⟨#[83,84,82,65,84,69,71,89]⟩:ByteArray).toList=jm:=by rw[ByteArray.toList_eq];rfl
 have hwit:(⟨#[87,73,84,72,73,78]⟩:ByteArray).toList=rW:=by rw[ByteArray.toList_eq];rfl
 have hpar:(⟨#[80,65,82,84,73,84,73,79,78]⟩:ByteArray).toList=oO:=by rw[ByteArray.toList_eq];rfl
 have hby:(⟨#[66,89]⟩:ByteArray).toList=Xh:=by rw[ByteArray.toList_eq];rfl
 have J3:Hid (∀x,gG L x->x.i<=4001):=zH fun x h=>by have:=h.lt;omega
 have hbl:=h.bk.lt;obtain⟨RES,hres⟩:∃R,nZ L s=R:=⟨_,rfl⟩
 rw[hres];rw[Hm]at hres;have g1:=bf.need he jm hi;have qL:Hid (mO b v0 v1 L LA Lc w s 0 0 [] 0 w):=zH ⟨h,World.grownBy.refl _ _⟩;have aG:=zH hres;clear hres h
 go_enter Try.func41,Try.ntmps41
 go_wp2_with fail
 refine(pR.out s _ _ _ _ hstr hi qL.out.st).mono ?_;rintro r w1 ⟨rfl,hs1⟩;have yF:=zH (qL.out.steps hs1);generalize aJ L jm s=s1 at *;have hok1:=g1.ok;clear hs1 qL g1;obtain⟨⟨st,s2⟩,hst⟩:∃z,fU L 0 oP (0,s1)=z:=⟨_,rfl⟩
 have hR:=aG.out;clear aG;rw[hst]at hR;simp only at hR;have HST:=zH hst;have aG:=zH hR;clear hst hR;go_wp2_with fail
 have k8:=Bk.new w1 9 #[.string ⟨#[83,84,82,73,67,84]⟩,.string ⟨#[78,69,88,84]⟩,.string ⟨#[65,78,89]⟩];have rZ:=zH (yF.out.old (zR.alloc zL (.cells #[.string ⟨#[83,84,82,73,67,84]⟩,.string ⟨#[78,69,88,84]⟩,.string ⟨#[65,78,89]⟩] 9)))
 have Oa:Hid (∀j,j<3->∃(S:ByteArray) (v:Str),(#[Value.string ⟨#[83,84,82,73,67,84]⟩,.string ⟨#[78,69,88,84]⟩,.string ⟨#[65,78,89]⟩]:Array Value)[j]? =some (.string S)/\S.toList=v/\oP.drop j=v::oP.drop (j+1)):=zH fun j hj=>by
  match j,hj with
  |0,_=>exact⟨_,_,rfl,rfl,by rw[ByteArray.toList_eq];rfl⟩
  |1,_=>exact⟨_,_,rfl,rfl,by rw[ByteArray.toList_eq];rfl⟩
  |2,_=>exact⟨_,_,rfl,rfl,by rw[ByteArray.toList_eq];rfl⟩
 generalize w1.alloc (.cells #[.string ⟨#[83,84,82,73,67,84]⟩,.string ⟨#[78,69,88,84]⟩,.string ⟨#[65,78,89]⟩] 9)=W8 at *;have hb8:b<w1.heap.size:=yF.out.st.bk.lt;clear yF;generalize w1.heap.size=g8 at *;have UE:=zH k8;clear k8
 go_loopw[10] (fun i wr=>∃(j st':Nat) (x:PS),i=.int .i64 j/\j<=3/\Hid (fU L j (oP.drop j) (st',x)=(st,s2))/\Hid (gG L x)/\Hid (mO b v0 v1 L LA Lc w x st' 0 [] 0 wr/\Bk wr g8 9 #[.string ⟨#[83,84,82,73,67,84]⟩,.string ⟨#[78,69,88,84]⟩,.string ⟨#[65,78,89]⟩])) (fun i _=>3-(intOf i).toNat)
 case atStart=>exact⟨0,0,s1,rfl,by omega,HST,zH hok1,zH ⟨rZ.out,UE.out⟩⟩
 case round=>
  clear rZ UE HST;obtain⟨j,st',x,rfl,hj,hrec,xq,HV⟩:=hrel;obtain⟨wo,rfl⟩:∃wo:World,wo=wr:=⟨_,rfl⟩
  by_cases hlt:j<3
  ·
   obtain⟨S,v,hc,hSv,hdr⟩:=Oa.out j hlt;have r8:wo.cell? ⟨g8,j,none⟩=some (.string S):=(HV.out.2.cell j).trans hc;have Bc:=hrec.out;rw[hdr,J6]at Bc;have jS:=zH Bc;have HSV:=zH hSv;clear hrec Bc hdr hc hSv aG;go_upto_region 4 with fail
   have YD:=zH (HIS.out x wo S v _ HSV.out xq.out HV.out.1.st);obtain⟨bi,hbi⟩:∃z,eX L x v=z:=⟨_,rfl⟩
   rw[hbi]at YD;obtain⟨hit,hhit⟩:∃z,(decide (x.err=0)&&(decide (st'=0)&&bi))=z:=⟨_,rfl⟩
   have CB:=zH hhit;have Jc:=zH hbi;have d3:=HV.out.1.st.c3;have d7:=HV.out.1.c7;clear hhit hbi r8
   go_cut[35] (fun v wx=>v=.bool hit/\Hid (mO b v0 v1 L LA Lc w x st' 0 [] 0 wx/\Bk wx g8 9 #[.string ⟨#[83,84,82,73,67,84]⟩,.string ⟨#[78,69,88,84]⟩,.string ⟨#[65,78,89]⟩]))
   case first=>
    by_cases h0:x.err=0
    case neg=>
     have iV:((x.err:Int)==0)=false:=zB (by omega)
     have hst:hit=false:=by rw[<-CB.out];simp[h0]
     subst hst;clear h0;go_wp2_with fail
     go_meet
     exact⟨rfl,HV⟩
    case pos=>
     have iV:((x.err:Int)==0)=true:=by rw[beq_iff_eq];omega
     by_cases h1:st'=0
     case neg=>
      have h1I:((st':Int)==0)=false:=zB (by omega)
      have hst:hit=false:=by rw[<-CB.out];simp[h1]
      subst hst;clear h0 h1;go_wp2_with fail
      go_meet
      exact⟨rfl,HV⟩
     case pos=>
      have h1I:((st':Int)==0)=true:=by rw[beq_iff_eq];omega
      have hst:hit=bi:=by rw[<-CB.out];simp[h0,h1]
      subst hst;clear h0 h1;go_wp2_with fail
      refine YD.out.mono ?_;rintro r w4 ⟨rfl,hb4⟩;have jE:Hid (mO b v0 v1 L LA Lc w x st' 0 [] 0 w4/\Bk w4 g8 9 #[.string ⟨#[83,84,82,73,67,84]⟩,.string ⟨#[78,69,88,84]⟩,.string ⟨#[65,78,89]⟩]):=zH ⟨HV.out.1.old hb4,HV.out.2.old hb4⟩;clear hb4 d3 d7;go_wp2_with fail
      go_meet
      exact⟨rfl,jE⟩
   case rest=>
   obtain⟨rfl,iy⟩:=hcut;clear HV YD d3 d7;cases hit
   case false=>
    have hR:=jS.out
    rw[if_neg (by
     have:=CB.out;intro h;rw[<-Jc.out]at this
     simp[h.1,h.2.1,h.2.2]at this)]at hR
    have HR:=zH hR;clear hR jS;go_wp2
    go_roundw
    case rel=>exact⟨j+1,st',x,by go_num,by omega,HR,xq,iy⟩
    case measure=>simp[intOf];omega
   case true=>
    have hx:x.err=0/\st'=0/\eX L x v=true:=by
     have:=CB.out;rw[<-Jc.out]at this
     simpa using this
    have hR:=jS.out;rw[if_pos hx]at hR;have HR:=zH hR;have gn:=bf.next he xq.out (bn hx.2.2);have Oe:=zH gn.ok;have hxi:=J3.out x xq.out;have V:=iy.out.1;have e7:=V.c7;have f7:=V.st.fr 7;have V2:=V.put7 (j+1);rw[show((j+1:Nat):Int)=(j:Int)+1 by omega]at V2;have e1:=V2.st.c1;have f1:=V2.st.fr 1;have V3:=V2.next;have oL:Hid (mO b v0 v1 L LA Lc w (aI x) (j+1) 0 [] 0 ((wc.setCell ⟨b,7,none⟩ (.int .i64 ((j:Int)+1))).setCell ⟨b,1,none⟩ (.int .i64 ((x.i:Int)+1)))/\Bk ((wc.setCell ⟨b,7,none⟩ (.int .i64 ((j:Int)+1))).setCell ⟨b,1,none⟩ (.int .i64 ((x.i:Int)+1))) g8 9 #[.string ⟨#[83,84,82,73,67,84]⟩,.string ⟨#[78,69,88,84]⟩,.string ⟨#[65,78,89]⟩]):=zH ⟨V3,(iy.out.2.far (p:=⟨b,7,none⟩) (by show g8≠b;omega) _).far (p:=⟨b,1,none⟩) (by show g8≠b;omega) _⟩;clear V V2 V3 hR jS gn hx iy;go_wp2
    go_roundw
    case rel=>exact⟨j+1,j+1,aI x,by go_num,by omega,HR,Oe,oL⟩
    case measure=>simp[intOf];omega
  ·have hj3:j=3:=by omega
   subst hj3;have hR:(st',x)=(st,s2):=hrec.out;injection hR with h1 h2
   subst h1;subst h2;have hok2:=xq.out;clear xq hrec Oa;go_upto_region 8 with fail
   clear hb8;have HV:=zH HV.out.1;have d7:=HV.out.c7;obtain⟨x3,hx3⟩:∃z,(if st'=0 then aS L 13 x else x)=z:=⟨_,rfl⟩
   have pY:gG L x3:=by
    rw[<-hx3]
    split
    ·exact(bf.fail _ hok2).ok
    ·exact hok2
   have h4:Hl L (st',x)=aJ L rW x3:=by unfold Hl;rw[hx3]
   have hR:=aG.out;clear aG;rw[h4]at hR;have aG:=zH hR;have HX3:=zH hx3;clear hR h4 hx3 hj hlt;go_upto_if 57 with fail
   go_cut[] (fun wx=>Hid (mO b v0 v1 L LA Lc w x3 st' 0 [] 0 wx))
   case first=>
    by_cases h0:st'=0
    case neg=>
     have iV:((st':Int)==0)=false:=zB (by omega)
     have hx:x3=x:=by rw[<-HX3.out,if_neg h0]
     subst hx;clear h0;go_wp2_with fail
     go_meet
     exact HV
    case pos=>
     have iV:((st':Int)==0)=true:=by rw[beq_iff_eq];omega
     have hx:aS L 13 x=x3:=by rw[<-HX3.out,if_pos h0]
     have HX:=zH hx;clear h0 hx;go_wp2_with fail
     refine(jR.out x _ _ 13 hok2 HV.out.st).mono ?_;rintro r w4 ⟨rfl,hs4⟩;have jE:Hid (mO b v0 v1 L LA Lc w x3 st' 0 [] 0 w4):=zH (by rw[<-HX.out];exact HV.out.steps hs4);clear hs4 HV d7;go_wp2_with fail
     go_meet
     exact jE
   case rest=>
   have oL:=hcut;clear hcut HV d7 HX3;have g4:=bf.need he rW pY;go_wp2_with fail
   refine(pR.out x3 _ _ _ _ hwit pY oL.out.st).mono ?_;rintro r w4 ⟨rfl,hs4⟩;have jE:=zH (oL.out.steps hs4);generalize aJ L rW x3=x4 at *;have Hq:=g4.ok;clear hs4 oL g4;go_upto_region 11 with fail
   obtain⟨bad,hbad⟩:∃z,(decide (x4.err=0)&& !decide ((aY L x4).kind=3))=z:=⟨_,rfl⟩
   have HBAD:=zH hbad;clear hbad
   go_cut[85] (fun v wx=>v=.bool bad/\Hid (mO b v0 v1 L LA Lc w x4 st' 0 [] 0 wx))
   case first=>
    obtain⟨tb,tq,hA,htb,r0,r2,r4⟩:=jE.out.tok Hq.lt;have c0:=jE.out.st.c0;have c1:=jE.out.st.c1;have c3:=jE.out.st.c3;rw[hA]at c0;have hlt4:=Hq.lt;clear hA r2 r4
    by_cases h0:x4.err=0
    case neg=>
     have iV:((x4.err:Int)==0)=false:=zB (by omega)
     have hst:bad=false:=by rw[<-HBAD.out];simp[h0]
     subst hst;clear h0
     go_quiet (fail)
     have Hr:=zH (jE.out.old (below_drewN zR nq));go_wp2
     go_meet
     exact⟨rfl,Hr⟩
    case pos=>
     have iV:((x4.err:Int)==0)=true:=by rw[beq_iff_eq];omega
     by_cases hk:(aY L x4).kind=3
     case pos=>
      have QM:(((aY L x4).kind:Int) !=3)=false:=by rw[bne_eq_false_iff_eq];omega
      have hst:bad=false:=by rw[<-HBAD.out];simp[hk]
      subst hst;generalize(aY L x4).kind=K at *;clear h0 hk
      go_quiet (fail)
      have Hr:=zH (jE.out.old (below_drewN zR nq));go_wp2
      go_meet
      exact⟨rfl,Hr⟩
     case neg=>
      have QM:(((aY L x4).kind:Int) !=3)=true:=by rw[bne_iff_ne];omega
      have hst:bad=true:=by rw[<-HBAD.out];simp[hk,h0]
      subst hst;generalize(aY L x4).kind=K at *;clear h0 hk
      go_quiet (fail)
      have Hr:=zH (jE.out.old (below_drewN zR nq));go_wp2
      go_meet
      exact⟨rfl,Hr⟩
   case rest=>
   obtain⟨rfl,HV5⟩:=hcut;clear jE;obtain⟨x5,hx5⟩:∃z,l7 L x4=z:=⟨_,rfl⟩
   have Be:gG L x5:=by rw[<-hx5];exact(bf.tl5 (bf.refl Hq)).ok
   have hx5':x5=if bad=true then aS L 13 x4 else x4:=by
    rw[<-hx5,<-HBAD.out];unfold l7;simp
   have hR:=aG.out;clear aG;rw[hx5]at hR;have aG:=zH hR;have HX5:=zH hx5;have YE:=zH hx5';clear hR hx5 hx5' HBAD;go_upto_if 85 with fail
   go_cut[] (fun wx=>Hid (mO b v0 v1 L LA Lc w x5 st' 0 [] 0 wx))
   case first=>
    cases bad
    case false=>
     have hx:x5=x4:=YE.out;subst hx;go_wp2_with fail
     go_meet
     exact HV5
    case true=>
     have HX:Hid (aS L 13 x4=x5):=zH YE.out.symm;go_wp2_with fail
     refine(jR.out x4 _ _ 13 Hq HV5.out.st).mono ?_;rintro r w4 ⟨rfl,hs4⟩;have jE:Hid (mO b v0 v1 L LA Lc w x5 st' 0 [] 0 w4):=zH (by rw[<-HX.out];exact HV5.out.steps hs4);clear hs4 HV5;go_wp2_with fail
     go_meet
     exact jE
   case rest=>
   have jE:=hcut;clear hcut HV5 YE bad;go_upto_region 13 with fail
   obtain⟨bad,hbad⟩:∃z,(decide (x5.err=0)&&decide (1152921504606846976<(aY L x5).n))=z:=⟨_,rfl⟩
   have HBAD:=zH hbad;clear hbad
   go_cut[109] (fun v wx=>v=.bool bad/\Hid (mO b v0 v1 L LA Lc w x5 st' 0 [] 0 wx))
   case first=>
    obtain⟨tb,tq,hA,htb,r0,r2,r4⟩:=jE.out.tok Be.lt;have c0:=jE.out.st.c0;have c1:=jE.out.st.c1;have c3:=jE.out.st.c3;rw[hA]at c0;have hlt4:=Be.lt;clear hA r0 r4
    by_cases h0:x5.err=0
    case neg=>
     have iV:((x5.err:Int)==0)=false:=zB (by omega)
     have hst:bad=false:=by rw[<-HBAD.out];simp[h0]
     subst hst;generalize(aY L x5).n=N at *;clear h0 HBAD
     go_quiet (fail)
     have Hr:=zH (jE.out.old (below_drewN zR nq));go_wp2
     go_meet
     exact⟨rfl,Hr⟩
    case pos=>
     have iV:((x5.err:Int)==0)=true:=by rw[beq_iff_eq];omega
     have hst:decide ((1152921504606846976:Int)<((aY L x5).n:Int))=bad:=by
      rw[<-HBAD.out];simp only[h0,decide_true,Bool.true_and,decide_eq_decide];omega
     generalize(aY L x5).n=N at *;clear h0 HBAD;cases bad
     ·go_quiet (fail)
      have Hr:=zH (jE.out.old (below_drewN zR nq));go_wp2
      go_meet
      exact⟨rfl,Hr⟩
     ·go_quiet (fail)
      have Hr:=zH (jE.out.old (below_drewN zR nq));go_wp2
      go_meet
      exact⟨rfl,Hr⟩
   case rest=>
   obtain⟨rfl,HV5⟩:=hcut;clear jE;obtain⟨x6,hx6⟩:∃z,qU L x5=z:=⟨_,rfl⟩
   have Vr:gG L x6:=by rw[<-hx6];exact(bf.tl6 (bf.refl Be)).ok
   have hx6':x6=if bad=true then aS L 1 x5 else x5:=by
    rw[<-hx6,<-HBAD.out];unfold qU;simp
   have hkind:x6.err=0->(aY L x6).kind≠0:=by
    intro h;rw[<-hx6,<-HX5.out]at h;have:=(Ho h).1;rw[HX5.out,hx6]at this;omega
   have hR:=aG.out;clear aG;rw[hx6]at hR;have aG:=zH hR;have YF:=zH hx6';have Xp:=zH hkind;clear hR hx6 hx6' HBAD hkind HX5;go_upto_if 109 with fail
   go_cut[] (fun wx=>Hid (mO b v0 v1 L LA Lc w x6 st' 0 [] 0 wx))
   case first=>
    cases bad
    case false=>
     have hx:x6=x5:=YF.out;subst hx;go_wp2_with fail
     go_meet
     exact HV5
    case true=>
     have HX:Hid (aS L 1 x5=x6):=zH YF.out.symm;go_wp2_with fail
     refine(jR.out x5 _ _ 1 Be HV5.out.st).mono ?_;rintro r w4 ⟨rfl,hs4⟩;have jE:Hid (mO b v0 v1 L LA Lc w x6 st' 0 [] 0 w4):=zH (by rw[<-HX.out];exact HV5.out.steps hs4);clear hs4 HV5;go_wp2_with fail
     go_meet
     exact jE
   case rest=>
   have fM:=hcut;clear hcut HV5 YF bad Be Hq pY hok2;have d3:=fM.out.st.c3
   by_cases h0:x6.err=0
   case neg=>
    have iV:((x6.err:Int) !=0)=true:=by rw[bne_iff_ne];omega
    have hR:=aG.out;unfold tailE at hR;rw[if_pos h0]at hR;subst hR;clear h0 aG;go_wp2_with fail
    (try simp only[Exit.inBlock,Exit.then]);refine bodyPost_ret (v:=.tuple #[]) (by simp[results,Try.results41,go_sem]) rfl ?_
    exact⟨rfl,fM.out⟩
   case pos=>
    have iV:((x6.err:Int) !=0)=false:=by rw[bne_eq_false_iff_eq];omega
    have hR:=aG.out;unfold tailE at hR;rw[if_neg (by omega)]at hR;have kV:=zH hR;have hk6:=Xp.out h0;have g7:=bf.next he Vr hk6;have YG:=g7.ok;clear aG Xp hR h0 hk6 g7;go_upto_region 16 with fail
    clear d3 iV;obtain⟨tb,tq,hA,htb,r0,r2,r4⟩:=fM.out.tok Vr.lt;have c0:=fM.out.st.c0;have c1:=fM.out.st.c1;rw[hA]at c0;have hlt6:=Vr.lt;clear hA r0 r4;obtain⟨i,hii⟩:∃i,x6.i=i:=⟨_,rfl⟩
    have HII:=zH hii;obtain⟨m,hm⟩:∃m,(aY L x6).n=m:=⟨_,rfl⟩
    rw[hii]at c1 r2 hlt6;rw[hm]at r2;have hR:=kV.out;clear kV;rw[hm]at hR;have aG:=zH hR;have hxi:=J3.out x6 Vr;clear hii hm hR;obtain⟨W,hW⟩:∃W,wc=W:=⟨_,rfl⟩
    rw[hW]at c0 c1 r2 fM⊢;clear hW
    refine wx (fun k => false) [.is (.pointer (some ⟨b, 0, none⟩)),
      .is (.pointer (some ⟨b,0,none⟩)),
      .is (.pointer (some ⟨b,0,none⟩)),
      .is (.pointer (some ⟨b,0,none⟩)),
      .is (.pointer (some ⟨b,0,none⟩)),
      .is (.slice (some ⟨tb,tq,none⟩) L.length Lc),
      .is (.pointer (some ⟨b,0,none⟩)),
      .is (.pointer (some ⟨b,0,none⟩)),
      .is (.pointer (some ⟨b,0,none⟩)),
      .is (.pointer (some ⟨b,1,none⟩)),
      .is (.int .i64 (i:Nat)),
      .is (.pointer (some ⟨tb,tq+i*5,none⟩)),
      .is (.pointer (some ⟨tb,tq+i*5+2,none⟩)),
      .is (.int .i64 (m:Nat))] [11] (by kernel_rfl) (by kernel_rfl) (by kernel_rfl)
      (fun C=>.c (px C rfl (fun _ _=>rfl)) <|
      .c (px C rfl (fun _ _=>rfl)) <|
      .c (px C rfl (fun _ _=>rfl)) <|
      .c (px C rfl (fun _ _=>rfl)) <|
      .c (px C rfl (fun _ _=>rfl)) <|
      .c (px C rfl (fun _ h=>bW (U5 (bc h c0)))) <|
      .c (px C rfl (fun _ _=>rfl)) <|
      .c (px C rfl (fun _ _=>rfl)) <|
      .c (px C rfl (fun _ _=>rfl)) <|
      .c (px C rfl (fun _ _=>rfl)) <|
      .c (px C rfl (fun _ h=>bW (lJ (bc h c1)))) <|
      .c (pz [5,10] [] (by kernel_rfl) fun qK qa wr hB qO qF hK=>?_) <|
      .c (px C rfl (fun _ _=>rfl)) <|
      .c (px C rfl (fun _ h=>bW (ld2 (bc h r2)))) <| .nil) ?_
    ·have e123:=ay qF.1 rfl rfl;have e128:=ay qF.2.1 rfl rfl;clear qO qF;go_simp;exact hK _ _ zR rfl
    intro qx wr hB hR hS;clear hR hS;simp only[bJ,List.take_succ_cons,List.take_zero,List.drop_succ_cons,List.drop_zero,List.toList_toArray,List.length_cons,List.length_nil,Act.put,List.setIfInBounds_toArray,List.set_cons_zero,List.set_cons_succ];have V7:=fM.out.old hB;have e8:=V7.c8;have f8:=V7.st.fr 8;have V8:=V7.put8 m;have e1:=V8.st.c1;have f1:=V8.st.fr 1;have J8:=zH V8.next;clear V7 V8 hB fM c0 c1 r2 htb hlt6;go_upto_region 18 with fail
    clear e8 f8 e1 f1 HII;generalize(wr.setCell ⟨b,8,none⟩ (.int .i64 m)).setCell ⟨b,1,none⟩ (.int .i64 ((x6.i:Int)+1))=W9 at *;obtain⟨part,hpart⟩:∃z,eX L (aI x6) oO=z:=⟨_,rfl⟩
    have YD:=zH (HIS.out (aI x6) W9 _ _ _ hpar YG J8.out.st);rw[hpart]at YD;have hR:=aG.out;clear aG;rw[hpart]at hR;have aG:=zH hR;have Xq:=zH hpart;generalize aI x6=x7 at *;clear hR hpart;go_wp2_with fail
    refine YD.out.mono ?_;rintro r w5 ⟨rfl,hb5⟩;have HV5:=zH (J8.out.old hb5);clear YD J8 hb5;cases part
    case false=>
     go_wp2_with fail
     first|go_end0|refine bodyPost_end (v:=.tuple #[]) (by simp[results,Try.results41,go_sem]) rfl ?_
     have hR:=aG.out;subst hR;exact⟨rfl,HV5.out⟩
    case true=>
     have g8:=bf.next he YG (bn Xq.out);have hok8:=g8.ok;have hx7:=J3.out x7 YG;have e1:=HV5.out.st.c1;have f1:=HV5.out.st.fr 1;have fM:=zH HV5.out.next;clear HV5 Xq g8;go_upto_region 20 with fail
     clear e1 f1;generalize w5.setCell ⟨b,1,none⟩ (.int .i64 ((x7.i:Int)+1))=W6 at *;generalize aI x7=x8 at *;have g9:=bf.need he Xh hok8;have ql:=g9.ok;go_wp2_with fail
     refine(pR.out x8 _ _ _ _ hby hok8 fM.out.st).mono ?_;rintro r w8 ⟨rfl,hs8⟩;have rZ:=zH (fM.out.steps hs8);generalize aJ L Xh x8=x9 at *;clear hs8 fM g9;go_upto_region 21 with fail
     obtain⟨tb,tq,hA,htb,r0,r2,r4⟩:=rZ.out.tok ql.lt;have c0:=rZ.out.st.c0;have c1:=rZ.out.st.c1;rw[hA]at c0;have hlt9:=ql.lt;clear hA r0 r2;obtain⟨i,hii⟩:∃i,x9.i=i:=⟨_,rfl⟩
     obtain⟨win,hwin⟩:∃k,m=k:=⟨_,rfl⟩
     subst hwin;obtain⟨pp,hpp⟩:∃m,(aY L x9).pos=m:=⟨_,rfl⟩
     rw[hii]at c1 r4 hlt9;rw[hpp]at r4;have hR:=aG.out;clear aG;rw[hpp]at hR;have aG:=zH hR;clear hii hpp hR;obtain⟨W,hW⟩:∃W,w8=W:=⟨_,rfl⟩
     rw[hW]at c0 c1 r4 rZ⊢;clear hW
     refine wx (fun k => false) [.is (.pointer (some ⟨b, 0, none⟩)),
       .is (.pointer (some ⟨b,0,none⟩)),
       .is (.pointer (some ⟨b,0,none⟩)),
       .is (.pointer (some ⟨b,0,none⟩)),
       .is (.pointer (some ⟨b,0,none⟩)),
       .is (.slice (some ⟨tb,tq,none⟩) L.length Lc),
       .is (.pointer (some ⟨b,0,none⟩)),
       .is (.pointer (some ⟨b,0,none⟩)),
       .is (.pointer (some ⟨b,0,none⟩)),
       .is (.pointer (some ⟨b,1,none⟩)),
       .is (.int .i64 (i:Nat)),
       .is (.pointer (some ⟨tb,tq+i*5,none⟩)),
       .is (.pointer (some ⟨tb,tq+i*5+4,none⟩)),
       .is (.int .i64 (pp:Nat))] [11] (by kernel_rfl) (by kernel_rfl) (by kernel_rfl)
       (fun C=>.c (px C rfl (fun _ _=>rfl)) <|
       .c (px C rfl (fun _ _=>rfl)) <|
       .c (px C rfl (fun _ _=>rfl)) <|
       .c (px C rfl (fun _ _=>rfl)) <|
       .c (px C rfl (fun _ _=>rfl)) <|
       .c (px C rfl (fun _ h=>bW (U5 (bc h c0)))) <|
       .c (px C rfl (fun _ _=>rfl)) <|
       .c (px C rfl (fun _ _=>rfl)) <|
       .c (px C rfl (fun _ _=>rfl)) <|
       .c (px C rfl (fun _ _=>rfl)) <|
       .c (px C rfl (fun _ h=>bW (lJ (bc h c1)))) <|
       .c (pz [5,10] [] (by kernel_rfl) fun qK qa wr hB qO qF hK=>?_) <|
       .c (px C rfl (fun _ _=>rfl)) <|
       .c (px C rfl (fun _ h=>bW (lJ (bc h r4)))) <| .nil) ?_
     ·have e166:=ay qF.1 rfl rfl;have e171:=ay qF.2.1 rfl rfl;clear qO qF;go_simp;exact hK _ _ zR rfl
     intro qx wr hB hR hS;clear hR hS;simp only[bJ,List.take_succ_cons,List.take_zero,List.drop_succ_cons,List.drop_zero,List.toList_toArray,List.length_cons,List.length_nil,Act.put,List.setIfInBounds_toArray,List.set_cons_zero,List.set_cons_succ];have V7:=rZ.out.old hB;have e10:=V7.c10;have f10:=V7.st.fr 10;have Q8:=zH (V7.zAz pp);clear V7 hB rZ c0 c1 r4 htb hlt9;go_upto_region 22 with fail
     clear e10 f10;generalize wr.setCell ⟨b,10,none⟩ (.int .i64 pp)=W11 at *;have Ew:=tJ.out x9 W11 _ ql Q8.out.st;obtain⟨nm,x10,hnm⟩:∃a z,dw L x9=(a,z):=⟨_,_,rfl⟩
     have hR:=aG.out;clear aG;rw[hnm]at Ew hR;simp only at Ew hR;have aG:=zH hR;have xu:=zH Ew;clear Ew hnm hR;go_wp2_with fail
     refine xu.out.mono ?_;rintro r w12 ⟨rfl,hs12⟩;have V12:=Q8.out.steps hs12;have e9:=V12.c9;have f9:=V12.st.fr 9;have HF:=zH (V12.put9 nm);clear V12 hs12 Q8 xu;go_wp2_with fail
     first|go_end0|refine bodyPost_end (v:=.tuple #[]) (by simp[results,Try.results41,go_sem]) rfl ?_
     have hR:=aG.out;subst hR;exact⟨rfl,HF.out⟩
end
end Go.Proofs.Ytbjnhllkdilpfaa
