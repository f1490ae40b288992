/- Part 17 of the proof. No conditions. -/
import Derived.Test.YtbjnhllkdilpfaaGreatZf16
set_option linter.unusedVariables false
set_option linter.unusedSimpArgs false
set_option maxRecDepth 100000
set_option maxHeartbeats 16000000
namespace Go.Proofs.YtbjnhllkdilpfaaGreat
open Go.RowKit _root_.Go.Proofs.Tryz
def ja (v0 v1:Value) (st win:Nat) (key:Str) (ka:Nat):List Value:=[v0,v1,.int .i64 st,.int .i64 win,.string (bytes key),.int .i64 ka]
structure oG (b:Nat) (v0 v1:Value) (L:List aC) (LA:Option Addr) (Lc:Nat) (w:World) (x:PS) (st win:Nat) (key:Str) (ka:Nat) (W:World):Prop where
 st:dH b 90 (ja v0 v1 st win key ka) L LA Lc x W
 gw:w.grownBy W (some b)
section
variable {b:Nat} {v0 v1:Value} {L:List aC} {LA:Option Addr} {Lc:Nat} {w W W':World} {x y:PS} {st win ka:Nat} {key:Str}
theorem oG.old (h:oG b v0 v1 L LA Lc w x st win key ka W) (hb:Below W W W'):oG b v0 v1 L LA Lc w x st win key ka W':=⟨h.st.old hb,h.gw.trans (below_grown hb _)⟩
theorem oG.steps (h:oG b v0 v1 L LA Lc w x st win key ka W) (a:Steps b 90 (ja v0 v1 st win key ka) L LA Lc y W W'):oG b v0 v1 L LA Lc w y st win key ka W':=⟨a.st,h.gw.trans a.grown⟩
theorem oG.next (h:oG b v0 v1 L LA Lc w x st win key ka W):oG b v0 v1 L LA Lc w (aO x) st win key ka (W.setCell ⟨b,1,none⟩ (.int .i64 ((x.i:Int)+1))):=h.steps (step_next b _ _ L LA Lc x W h.st)
theorem oG.put7 (h:oG b v0 v1 L LA Lc w x st win key ka W) (n:Nat):oG b v0 v1 L LA Lc w x n win key ka (W.setCell ⟨b,7,none⟩ (.int .i64 n)):=
 ⟨⟨by simpa[dF,ja]using h.st.bk.put 7 (.int .i64 n),o6 h.st.rd _ _⟩,cO h.gw⟩
theorem oG.put8 (h:oG b v0 v1 L LA Lc w x st win key ka W) (n:Nat):oG b v0 v1 L LA Lc w x st n key ka (W.setCell ⟨b,8,none⟩ (.int .i64 n)):=
 ⟨⟨by simpa[dF,ja]using h.st.bk.put 8 (.int .i64 n),o6 h.st.rd _ _⟩,cO h.gw⟩
theorem oG.put9 (h:oG b v0 v1 L LA Lc w x st win key ka W) (n:Str):oG b v0 v1 L LA Lc w x st win n ka (W.setCell ⟨b,9,none⟩ (.string (bytes n))):=
 ⟨⟨by simpa[dF,ja]using h.st.bk.put 9 (.string (bytes n)),o6 h.st.rd _ _⟩,cO h.gw⟩
theorem oG.zEg (h:oG b v0 v1 L LA Lc w x st win key ka W) (n:Nat):oG b v0 v1 L LA Lc w x st win key n (W.setCell ⟨b,10,none⟩ (.int .i64 n)):=
 ⟨⟨by simpa[dF,ja]using h.st.bk.put 10 (.int .i64 n),o6 h.st.rd _ _⟩,cO h.gw⟩
theorem oG.c7 (h:oG b v0 v1 L LA Lc w x st win key ka W):W.cell? ⟨b,7,none⟩=some (.int .i64 st):=by rw[h.st.bk.cell 7];simp[dF,ja]
theorem oG.c8 (h:oG b v0 v1 L LA Lc w x st win key ka W):W.cell? ⟨b,8,none⟩=some (.int .i64 win):=by rw[h.st.bk.cell 8];simp[dF,ja]
theorem oG.c9 (h:oG b v0 v1 L LA Lc w x st win key ka W):W.cell? ⟨b,9,none⟩=some (.string (bytes key)):=by rw[h.st.bk.cell 9];simp[dF,ja]
theorem oG.c10 (h:oG b v0 v1 L LA Lc w x st win key ka W):W.cell? ⟨b,10,none⟩=some (.int .i64 ka):=by rw[h.st.bk.cell 10];simp[dF,ja]
theorem oG.tok (h:oG b v0 v1 L LA Lc w x st win key ka W) (f:x.i<L.length):∃a c,LA=some ⟨a,c,none⟩/\a<b/\W.cell? ⟨a,c+x.i*5,none⟩=some (.int .i64 (bC L x).kind)/\W.cell? ⟨a,c+x.i*5+2,none⟩=some (.int .i64 (bC L x).n)/\W.cell? ⟨a,c+x.i*5+4,none⟩=some (.int .i64 (bC L x).pos):=by
 obtain⟨a,c,g,e,d⟩:=h.st.rd.elem (n:=5) xA (by omega) f;rw[uo f];exact⟨a,c,g,e,d 0 _ rfl,d 2 _ rfl,d 4 _ rfl⟩
theorem CB (a:dS L):∀(l:List Str) (i st:Nat) (x:PS),iy L x->bF L x (gB L i l (st,x)).2
 |[],i,st,x,h=>bF.refl h
 |u::l,i,st,x,h=>by
  show bF L x (gB L (i+1) l (if x.err=0/\st=0/\fD L x u=true then(i+1,aO x)else(st,x))).2
  split
  ·rename_i b
   have g:=bF.next a h (bM b.2.2);exact g.trans (CB a l _ _ _ g.ok)
  exact CB a l _ _ _ h
theorem CE (i:Nat) (u:Str) (l:List Str) (st:Nat) (x:PS):gB L i (u::l) (st,x)=gB L (i+1) l (if x.err=0/\st=0/\fD L x u=true then(i+1,aO x)else(st,x)):=rfl
end
def tailE (L:List aC) (st:Nat) (s6:PS):(Nat×Nat×Str×Nat)×PS:=
 if s6.err≠0 then((st,0,[],0),s6)
 else if fD L (aO s6) qB=true then((st,(bC L s6).n,(dK L (aQ L Zj (aO (aO s6)))).1,(bC L (aQ L Zj (aO (aO s6)))).pos),(dK L (aQ L Zj (aO (aO s6)))).2)
 else((st,(bC L s6).n,[],0),aO s6)
def Jn (L:List aC) (r:Nat×PS):PS:=aQ L uj (if r.1=0 then bf L 13 r.2 else r.2)
def nT (L:List aC) (x:PS):PS:=if x.err=0/\(bC L x).kind≠3 then bf L 13 x else x
def tu (L:List aC) (x:PS):PS:=if x.err=0/\1152921504606846976<(bC L x).n then bf L 1 x else x
theorem xN (L:List aC) (s:PS):mW L s=tailE L (gB L 0 oV (0,aQ L jh s)).1 (tu L (nT L (Jn L (gB L 0 oV (0,aQ L jh s))))):=by kernel_rfl
theorem bF.tl4 {L:List aC} {s:PS} (a:dS L) (r:Nat×PS) (h:bF L s r.2):bF L s (Jn L r):=by
 unfold Jn
 have:bF L s (if r.1=0 then bf L 13 r.2 else r.2):=by
  split
  ·exact h.trans (bF.fail _ h.ok)
  exact h
 exact this.trans (bF.need a _ this.ok)
theorem bF.tl5 {L:List aC} {s x:PS} (h:bF L s x):bF L s (nT L x):=by
 unfold nT
 split
 ·exact h.trans (bF.fail _ h.ok)
 exact h
theorem bF.tl6 {L:List aC} {s x:PS} (h:bF L s x):bF L s (tu L x):=by
 unfold tu
 split
 ·exact h.trans (bF.fail _ h.ok)
 exact h
theorem Jo {L:List aC} {x:PS} (h:(tu L (nT L x)).err=0):(bC L (tu L (nT L x))).kind=3/\tu L (nT L x)=x/\(bC L x).n<=1152921504606846976:=by
 have b:tu L (nT L x)=nT L x:=by
  by_cases a:(nT L x).err=0/\1152921504606846976<(bC L (nT L x)).n
  ·have:tu L (nT L x)=bf L 1 (nT L x):=by unfold tu;rw[zF3 a]
   rw[this]at h;exact absurd h (kW (by decide))
  unfold tu;rw[zF2 a]
 rw[b]at h⊢
 have e:nT L x=x:=by
  by_cases a:x.err=0/\(bC L x).kind≠3
  ·have:nT L x=bf L 13 x:=by unfold nT;rw[zF3 a]
   rw[this]at h;exact absurd h (kW (by decide))
  unfold nT;rw[zF2 a]
 rw[e]at h b⊢;refine⟨?_,rfl,?_⟩
 ·by_cases d:(bC L x).kind=3
  ·exact d
  exfalso;have:nT L x=bf L 13 x:=by unfold nT;rw[zF3 ⟨h,d⟩]
  rw[e]at this;have a:(bf L 13 x).err≠0:=kW (by decide);rw[<-this]at a;exact a h
 rcases zHu 1152921504606846976 (bC L x).n with c|c
 ·exfalso;have:tu L x=bf L 1 x:=by unfold tu;rw[zF3 ⟨h,c⟩]
  rw[b]at this;have a:(bf L 1 x).err≠0:=kW (by decide);rw[<-this]at a;exact a h
 exact c
section
variable (b:Nat) (v0 v1:Value) (L:List aC) (LA:Option Addr) (Lc:Nat)
def zEh (w:World) (r:(Nat×Nat×Str×Nat)×PS) (e:Ending) (w':World):Prop:=e=.returned (.tuple #[])/\oG b v0 v1 L LA Lc w r.2 r.1.1 r.1.2.1 r.1.2.2.1 r.1.2.2.2 w'
theorem Un (s:PS) (w:World) (h:dH b 90 (ja v0 v1 0 0 [] 0) L LA Lc s w) (he:dS L) (hi:iy L s) (hL:L.length<=4001):
  Calls prog 39 #[.pointer (some ⟨b,0,none⟩)] w (zEh b v0 v1 L LA Lc w (mW L s)):=by
 have a4:Hid (∀(x:PS) (W:World) (S:ByteArray) (v:Str) (f:List Value),S.toList=v->iy L x->dH b 90 f L LA Lc x W->Calls prog 37 #[.pointer (some ⟨b,0,none⟩),S] W λr w'=>r=.returned (.bool (fD L x v))/\Below W W w'):=zH λx W S v f hv ho h=>by
  have:=mP b _ f L LA Lc x W S h ho.lt hL
  rwa [hv]at this
 have mJ:Hid (∀(x:PS) (W:World) (S:ByteArray) (v:Str) (f:List Value),S.toList=v->iy L x->dH b 90 f L LA Lc x W->Calls prog 35 #[.pointer (some ⟨b,0,none⟩),S] W λr w'=>r=.returned (.tuple #[])/\Steps b 90 f L LA Lc (aQ L v x) W w'):=zH λx W S v f hv ho h=>by
  have:=nS b _ f L LA Lc x W S h ho.lt hL
  rwa [hv]at this
 have lF:Hid (∀(x:PS) (W:World) (f:List Value) (e:Nat),iy L x->dH b 90 f L LA Lc x W->Calls prog 61 #[.pointer (some ⟨b,0,none⟩),e] W λr w'=>r=.returned (.tuple #[])/\Steps b 90 f L LA Lc (bf L e x) W w'):=zH λx W f e ho h=>EX b _ f L LA Lc x W e h ho.lt hL
 have uS:Hid (∀(x:PS) (W:World) (f:List Value),iy L x->dH b 90 f L LA Lc x W->Calls prog 62 #[.pointer (some ⟨b,0,none⟩)] W λr w'=>r=.returned (.string (bytes (dK L x).1))/\Steps b 90 f L LA Lc (dK L x).2 W w'):=zH λx W f ho h=>EY b _ f L LA Lc x W h ho.lt hL
 have a5:(⟨#[83,84,82,65,84,69,71,89]⟩:ByteArray).toList=jh:=by rw[zFm];rfl
 have a8:(⟨#[87,73,84,72,73,78]⟩:ByteArray).toList=uj:=by rw[zFm];rfl
 have QP:(⟨#[80,65,82,84,73,84,73,79,78]⟩:ByteArray).toList=qB:=by rw[zFm];rfl
 have ad:(⟨#[66,89]⟩:ByteArray).toList=Zj:=by rw[zFm];rfl
 have MV:Hid (∀x,iy L x->x.i<=4001):=zH λx h=>by have:=h.lt;omega
 have al:=h.bk.lt;obtain⟨ak,d⟩:=zN (mW L s)
 rw[d];rw[xN]at d;have l:=bF.need he jh hi;have g:Hid (oG b v0 v1 L LA Lc w s 0 0 [] 0 w):=zH ⟨h,zF8 _ _⟩;have t:=zH d;clear d h
 go_enter func39,ntmps39
 go_wp2_with fail
 refine(mJ.out s _ _ _ _ a5 hi g.st).mono ?_;rintro r w1 ⟨rfl,d⟩;have e:=zH (g.steps d);generalize aQ L jh s=s1 at *;have a6:=l.ok;clear d g l;obtain⟨⟨st,s2⟩,l⟩:∃z,gB L 0 oV (0,s1)=z:=⟨_,rfl⟩
 have d:=t.out;clear t;rw[l]at d;simp only at d;have a7:=zH l;have t:=zH d;clear l d;go_wp2_with fail
 have g:=Bk.new w1 9 #[.string ⟨#[83,84,82,73,67,84]⟩,.string ⟨#[78,69,88,84]⟩,.string ⟨#[65,78,89]⟩];have vI:=zH (e.old (zR.alloc zL (.cells #[.string ⟨#[83,84,82,73,67,84]⟩,.string ⟨#[78,69,88,84]⟩,.string ⟨#[65,78,89]⟩] 9)))
 have Iq:Hid (∀j,j<3->∃(S:ByteArray) (v:Str),(#[Value.string ⟨#[83,84,82,73,67,84]⟩,.string ⟨#[78,69,88,84]⟩,.string ⟨#[65,78,89]⟩]:Array Value)[j]? =some (.string S)/\S.toList=v/\oV.drop j=v::oV.drop (j+1)):=zH λj hj=>by
  match j,hj with
  |0,_=>exact⟨_,_,rfl,rfl,by rw[zFm];rfl⟩
  |1,_=>exact⟨_,_,rfl,rfl,by rw[zFm];rfl⟩
  |2,_=>exact⟨_,_,rfl,rfl,by rw[zFm];rfl⟩
 generalize w1.alloc (.cells #[.string ⟨#[83,84,82,73,67,84]⟩,.string ⟨#[78,69,88,84]⟩,.string ⟨#[65,78,89]⟩] 9)=W8 at *;have ab:b<w1.heap.size:=e.st.bk.lt;clear e;generalize w1.heap.size=g8 at *;have Ir:=zH g;clear g
 go_loopw[10] (λi wr=>∃(j e:Nat) (x:PS),i=.int .i64 j/\j<=3/\Hid (gB L j (oV.drop j) (e,x)=(st,s2))/\Hid (iy L x)/\Hid (oG b v0 v1 L LA Lc w x e 0 [] 0 wr/\Bk wr g8 9 #[.string ⟨#[83,84,82,73,67,84]⟩,.string ⟨#[78,69,88,84]⟩,.string ⟨#[65,78,89]⟩])) (λi _=>3-(intOf i).toNat)
 case atStart=>exact⟨0,0,s1,rfl,by omega,a7,zH a6,zH ⟨vI.out,Ir.out⟩⟩
 case round=>
  clear vI Ir a7;obtain⟨j,e,x,rfl,hj,J,vV,F⟩:=hrel;obtain⟨wo,rfl⟩:∃wo:World,wo=wr:=⟨_,rfl⟩
  by_cases a3:j<3
  ·
   obtain⟨S,v,q,g,m⟩:=Iq.out j a3;have u:wo.cell? ⟨g8,j,none⟩=some (.string S):=(F.2.cell j).trans q;have o:=J.out;rw[m,CE]at o;have lI:=zH o;have aa:=zH g;clear J o m q g t;go_upto_region 4 with fail
   have I:=zH (a4.out x wo S v _ aa.out vV.out F.1.st);obtain⟨bi,m⟩:=zN (fD L x v)
   rw[m]at I;obtain⟨Q,g⟩:=zN (decide (x.err=0)&&(decide (e=0)&&bi))
   have Ef:=zH g;have Pj:=zH m;have d3:=F.1.st.c3;have d7:=F.1.c7;clear g m u
   go_cut[35] (λv wx=>v=.bool Q/\Hid (oG b v0 v1 L LA Lc w x e 0 [] 0 wx/\Bk wx g8 9 #[.string ⟨#[83,84,82,73,67,84]⟩,.string ⟨#[78,69,88,84]⟩,.string ⟨#[65,78,89]⟩]))
   case first=>
    by_cases u:x.err=0
    case neg=>
     have Z:((x.err:Int)==0)=false:=zB (by omega)
     have l:Q=false:=by rw[<-Ef.out];simp[u]
     subst l;clear u;go_wp2_with fail
     go_meet
     exact⟨rfl,F⟩
    case pos=>
     have Z:((x.err:Int)==0)=true:=by rw[zFt];omega
     by_cases m:e=0
     case neg=>
      have o:((e:Int)==0)=false:=zB (by omega)
      have l:Q=false:=by rw[<-Ef.out];simp[m]
      subst l;clear u m;go_wp2_with fail
      go_meet
      exact⟨rfl,F⟩
     case pos=>
      have o:((e:Int)==0)=true:=by rw[zFt];omega
      have l:Q=bi:=by rw[<-Ef.out];simp[u,m]
      subst l;clear u m;go_wp2_with fail
      refine I.mono ?_;rintro r w4 ⟨rfl,g⟩;have y:Hid (oG b v0 v1 L LA Lc w x e 0 [] 0 w4/\Bk w4 g8 9 #[.string ⟨#[83,84,82,73,67,84]⟩,.string ⟨#[78,69,88,84]⟩,.string ⟨#[65,78,89]⟩]):=zH ⟨F.1.old g,F.2.old g⟩;clear g d3 d7;go_wp2_with fail
      go_meet
      exact⟨rfl,y⟩
   case rest=>
   obtain⟨rfl,jM⟩:=hcut;clear F I d3 d7;cases Q
   case false=>
    have d:=lI.out
    rw[zF2 (by
     have:=Ef.out;intro h;rw[<-Pj.out]at this
     simp[h.1,h.2.1,h.2.2]at this)]at d
    have o:=zH d;clear d lI;go_wp2
    go_roundw
    case rel=>exact⟨j+1,e,x,by go_num,by omega,o,vV,jM⟩
    case measure=>simp[intOf];omega
   case true=>
    have M:x.err=0/\e=0/\fD L x v=true:=by
     have:=Ef.out;rw[<-Pj.out]at this
     simpa using this
    have d:=lI.out;rw[zF3 M]at d;have o:=zH d;have A:=bF.next he vV.out (bM M.2.2);have B:=zH A.ok;have ag:=MV.out x vV.out;have V:=jM.1;have D:=V.c7;have E:=V.st.fr 7;have g:=V.put7 (j+1);rw[show((j+1:Nat):Int)=(j:Int)+1 by omega]at g;have e1:=g.st.c1;have f1:=g.st.fr 1;have q:=g.next;have yG:Hid (oG b v0 v1 L LA Lc w (aO x) (j+1) 0 [] 0 ((wc.setCell ⟨b,7,none⟩ (.int .i64 ((j:Int)+1))).setCell ⟨b,1,none⟩ (.int .i64 ((x.i:Int)+1)))/\Bk ((wc.setCell ⟨b,7,none⟩ (.int .i64 ((j:Int)+1))).setCell ⟨b,1,none⟩ (.int .i64 ((x.i:Int)+1))) g8 9 #[.string ⟨#[83,84,82,73,67,84]⟩,.string ⟨#[78,69,88,84]⟩,.string ⟨#[65,78,89]⟩]):=zH ⟨q,(jM.2.far (p:=⟨b,7,none⟩) (by show g8≠b;omega) _).far (p:=⟨b,1,none⟩) (by show g8≠b;omega) _⟩;clear V g q d lI A M jM;go_wp2
    go_roundw
    case rel=>exact⟨j+1,j+1,aO x,by go_num,by omega,o,B,yG⟩
    case measure=>simp[intOf];omega
  have g:j=3:=by omega
  subst g;have d:(e,x)=(st,s2):=J.out;injection d with m h2
  subst m;subst h2;have m:=vV.out;clear vV J Iq;go_upto_region 8 with fail
  clear ab;have F:=zH F.1;have d7:=F.c7;obtain⟨x3,g⟩:=zN (if e=0 then bf L 13 x else x)
  have vY:iy L x3:=by
   rw[<-g]
   split
   ·exact(bF.fail _ m).ok
   exact m
  have q:Jn L (e,x)=aQ L uj x3:=by unfold Jn;rw[g]
  have d:=t.out;clear t;rw[q]at d;have t:=zH d;have o:=zH g;clear d q g hj a3;go_upto_if 57 with fail
  go_cut[] (λwx=>Hid (oG b v0 v1 L LA Lc w x3 e 0 [] 0 wx))
  case first=>
   by_cases u:e=0
   case neg=>
    have Z:((e:Int)==0)=false:=zB (by omega)
    have M:x3=x:=by rw[<-o.out,zF2 u]
    subst M;clear u;go_wp2_with fail
    go_meet
    exact F
   case pos=>
    have Z:((e:Int)==0)=true:=by rw[zFt];omega
    have M:bf L 13 x=x3:=by rw[<-o.out,zF3 u]
    have HX:=zH M;clear u M;go_wp2_with fail
    refine(lF.out x _ _ 13 m F.st).mono ?_;rintro r w4 ⟨rfl,A⟩;have y:Hid (oG b v0 v1 L LA Lc w x3 e 0 [] 0 w4):=zH (by rw[<-HX.out];exact F.steps A);clear A F d7;go_wp2_with fail
    go_meet
    exact y
  case rest=>
  have yG:=hcut;clear hcut F d7 o;have g:=bF.need he uj vY;go_wp2_with fail
  refine(mJ.out x3 _ _ _ _ a8 vY yG.st).mono ?_;rintro r w4 ⟨rfl,A⟩;have y:=zH (yG.steps A);generalize aQ L uj x3=H at *;have Jp:=g.ok;clear A yG g;go_upto_region 11 with fail
  obtain⟨q,G⟩:=zN (decide (H.err=0)&& !decide ((bC L H).kind=3))
  have g:=zH G;clear G
  go_cut[85] (λv wx=>v=.bool q/\Hid (oG b v0 v1 L LA Lc w H e 0 [] 0 wx))
  case first=>
   obtain⟨tb,tq,X,U,r0,r2,Y⟩:=y.tok Jp.lt;have O:=y.st.c0;have R:=y.st.c1;have c3:=y.st.c3;rw[X]at O;have a2:=Jp.lt;clear X r2 Y
   by_cases u:H.err=0
   case neg=>
    have Z:((H.err:Int)==0)=false:=zB (by omega)
    have l:q=false:=by rw[<-g.out];simp[u]
    subst l;clear u
    go_quiet (fail)
    have E:=zH (y.old (zHf zR nq));go_wp2
    go_meet
    exact⟨rfl,E⟩
   case pos=>
    have Z:((H.err:Int)==0)=true:=by rw[zFt];omega
    by_cases o:(bC L H).kind=3
    case pos=>
     have B:(((bC L H).kind:Int) !=3)=false:=by rw[zG0];omega
     have l:q=false:=by rw[<-g.out];simp[o]
     subst l;generalize(bC L H).kind=K at *;clear u o
     go_quiet (fail)
     have E:=zH (y.old (zHf zR nq));go_wp2
     go_meet
     exact⟨rfl,E⟩
    case neg=>
     have B:(((bC L H).kind:Int) !=3)=true:=by rw[zG1];omega
     have l:q=true:=by rw[<-g.out];simp[o,u]
     subst l;generalize(bC L H).kind=K at *;clear u o
     go_quiet (fail)
     have E:=zH (y.old (zHf zR nq));go_wp2
     go_meet
     exact⟨rfl,E⟩
  case rest=>
  obtain⟨rfl,o⟩:=hcut;clear y;obtain⟨B,D⟩:=zN (nT L H)
  have CJ:iy L B:=by rw[<-D];exact(bF.tl5 (bF.refl Jp)).ok
  have P:B=if q=true then bf L 13 H else H:=by
   rw[<-D,<-g.out];unfold nT;simp
  have d:=t.out;clear t;rw[D]at d;have t:=zH d;have a1:=zH D;have a0:=zH P;clear d D P g;go_upto_if 85 with fail
  go_cut[] (λwx=>Hid (oG b v0 v1 L LA Lc w B e 0 [] 0 wx))
  case first=>
   cases q
   case false=>
    have M:B=H:=a0.out;subst M;go_wp2_with fail
    go_meet
    exact o
   case true=>
    have HX:Hid (bf L 13 H=B):=zH a0.symm;go_wp2_with fail
    refine(lF.out H _ _ 13 Jp o.st).mono ?_;rintro r w4 ⟨rfl,A⟩;have y:Hid (oG b v0 v1 L LA Lc w B e 0 [] 0 w4):=zH (by rw[<-HX.out];exact o.steps A);clear A o;go_wp2_with fail
    go_meet
    exact y
  case rest=>
  have y:=hcut;clear hcut o a0 q;go_upto_region 13 with fail
  obtain⟨q,G⟩:=zN (decide (B.err=0)&&decide (1152921504606846976<(bC L B).n))
  have g:=zH G;clear G
  go_cut[109] (λv wx=>v=.bool q/\Hid (oG b v0 v1 L LA Lc w B e 0 [] 0 wx))
  case first=>
   obtain⟨tb,tq,X,U,r0,r2,Y⟩:=y.tok CJ.lt;have O:=y.st.c0;have R:=y.st.c1;have c3:=y.st.c3;rw[X]at O;have a2:=CJ.lt;clear X r0 Y
   by_cases u:B.err=0
   case neg=>
    have Z:((B.err:Int)==0)=false:=zB (by omega)
    have l:q=false:=by rw[<-g.out];simp[u]
    subst l;generalize(bC L B).n=N at *;clear u g
    go_quiet (fail)
    have E:=zH (y.old (zHf zR nq));go_wp2
    go_meet
    exact⟨rfl,E⟩
   case pos=>
    have Z:((B.err:Int)==0)=true:=by rw[zFt];omega
    have l:decide ((1152921504606846976:Int)<((bC L B).n:Int))=q:=by
     rw[<-g.out];simp only[u,decide_true,zJc,zJ7];omega
    generalize(bC L B).n=N at *;clear u g;cases q
    ·go_quiet (fail)
     have E:=zH (y.old (zHf zR nq));go_wp2
     go_meet
     exact⟨rfl,E⟩
    go_quiet (fail)
    have E:=zH (y.old (zHf zR nq));go_wp2
    go_meet
    exact⟨rfl,E⟩
  case rest=>
  obtain⟨rfl,o⟩:=hcut;clear y;obtain⟨E,D⟩:=zN (tu L B)
  have X3:iy L E:=by rw[<-D];exact(bF.tl6 (bF.refl CJ)).ok
  have a0:E=if q=true then bf L 1 B else B:=by
   rw[<-D,<-g.out];unfold tu;simp
  have P:E.err=0->(bC L E).kind≠0:=by
   intro h;rw[<-D,<-a1.out]at h;have:=(Jo h).1;rw[a1.out,D]at this;omega
  have d:=t.out;clear t;rw[D]at d;have t:=zH d;have a2:=zH a0;have Zu:=zH P;clear d D a0 g P a1;go_upto_if 109 with fail
  go_cut[] (λwx=>Hid (oG b v0 v1 L LA Lc w E e 0 [] 0 wx))
  case first=>
   cases q
   case false=>
    have M:E=B:=a2.out;subst M;go_wp2_with fail
    go_meet
    exact o
   case true=>
    have HX:Hid (bf L 1 B=E):=zH a2.symm;go_wp2_with fail
    refine(lF.out B _ _ 1 CJ o.st).mono ?_;rintro r w4 ⟨rfl,A⟩;have y:Hid (oG b v0 v1 L LA Lc w E e 0 [] 0 w4):=zH (by rw[<-HX.out];exact o.steps A);clear A o;go_wp2_with fail
    go_meet
    exact y
  case rest=>
  have P:=hcut;clear hcut o a2 q CJ Jp vY m;have d3:=P.st.c3
  by_cases u:E.err=0
  case neg=>
   have Z:((E.err:Int) !=0)=true:=by rw[zG1];omega
   have d:=t.out;unfold tailE at d;rw[zF3 u]at d;subst d;clear u t;go_wp2_with fail
   (try simp only[Exit.inBlock,Exit.then]);refine zFg (v:=.tuple #[]) (by simp[results,results39,go_sem]) rfl ?_
   exact⟨rfl,P.out⟩
  case pos=>
   have Z:((E.err:Int) !=0)=false:=by rw[zG0];omega
   have d:=t.out;unfold tailE at d;rw[zF2 (by omega)]at d;have mF:=zH d;have m:=Zu.out u;have D:=bF.next he X3 m;have a1:=D.ok;clear t Zu d u m D;go_upto_region 16 with fail
   clear d3 Z;obtain⟨tb,tq,X,U,r0,r2,Y⟩:=P.tok X3.lt;have O:=P.st.c0;have R:=P.st.c1;rw[X]at O;have D:=X3.lt;clear X r0 Y;obtain⟨i,M⟩:∃i,E.i=i:=⟨_,rfl⟩
   have a0:=zH M;obtain⟨m,hm⟩:=zN ((bC L E).n)
   rw[M]at R r2 D;rw[hm]at r2;have d:=mF.out;clear mF;rw[hm]at d;have t:=zH d;have ag:=MV.out E X3;clear M hm d;obtain⟨W,hW⟩:=zN wc
   rw[hW]at O R r2 P⊢;clear hW
   refine wx (λk => false) [.is (.pointer (some ⟨b, 0, none⟩)),
     .is (.pointer (some ⟨b,0,none⟩)),
     .is (.pointer (some ⟨b,0,none⟩)),
     .is (.pointer (some ⟨b,0,none⟩)),
     .is (.pointer (some ⟨b,0,none⟩)),
     .is (.slice (some ⟨tb,tq,none⟩) L.length Lc),
     .is (.pointer (some ⟨b,0,none⟩)),
     .is (.pointer (some ⟨b,0,none⟩)),
     .is (.pointer (some ⟨b,0,none⟩)),
     .is (.pointer (some ⟨b,1,none⟩)),
     .is (.int .i64 (i:Nat)),
     .is (.pointer (some ⟨tb,tq+i*5,none⟩)),
     .is (.pointer (some ⟨tb,tq+i*5+2,none⟩)),
     .is (.int .i64 (m:Nat))] [11] (by kernel_rfl) (by kernel_rfl) (by kernel_rfl)
     (λC=>.c (px C rfl (λ_ _=>rfl)) <|
     .c (px C rfl (λ_ _=>rfl)) <|
     .c (px C rfl (λ_ _=>rfl)) <|
     .c (px C rfl (λ_ _=>rfl)) <|
     .c (px C rfl (λ_ _=>rfl)) <|
     .c (px C rfl (λ_ h=>bH (XR (bc h O)))) <|
     .c (px C rfl (λ_ _=>rfl)) <|
     .c (px C rfl (λ_ _=>rfl)) <|
     .c (px C rfl (λ_ _=>rfl)) <|
     .c (px C rfl (λ_ _=>rfl)) <|
     .c (px C rfl (λ_ h=>bH (lD (bc h R)))) <|
     .c (pz [5,10] [] (by kernel_rfl) λqK qa wr hB qO qF hK=>?_) <|
     .c (px C rfl (λ_ _=>rfl)) <|
     .c (px C rfl (λ_ h=>bH (ld2 (bc h r2)))) <| .nil) ?_
   ·have a9:=aA qF.1 rfl rfl;have a2:=aA qF.2.1 rfl rfl;clear qO qF;go_simp;exact hK _ _ zR rfl
   intro qx wr hB d hS;clear d hS;simp only[bJ,zF0,zGb,zF1,zFp,zFd,zFh,zF4,Act.put,zFf,zFw,zFx];have V7:=P.old hB;have e8:=V7.c8;have f8:=V7.st.fr 8;have V8:=V7.put8 m;have e1:=V8.st.c1;have f1:=V8.st.fr 1;have MW:=zH V8.next;clear V7 V8 hB P O R r2 U D;go_upto_region 18 with fail
   clear e8 f8 e1 f1 a0;generalize(wr.setCell ⟨b,8,none⟩ (.int .i64 m)).setCell ⟨b,1,none⟩ (.int .i64 ((E.i:Int)+1))=W9 at *;obtain⟨a9,D⟩:=zN (fD L (aO E) qB)
   have I:=zH (a4.out (aO E) W9 _ _ _ QP a1 MW.st);rw[D]at I;have d:=t.out;clear t;rw[D]at d;have t:=zH d;have Zv:=zH D;generalize aO E=x7 at *;clear d D;go_wp2_with fail
   refine I.mono ?_;rintro r w5 ⟨rfl,D⟩;have o:=zH (MW.old D);clear I MW D;cases a9
   case false=>
    go_wp2_with fail
    first|go_end0|refine zHg (v:=.tuple #[]) (by simp[results,results39,go_sem]) rfl ?_
    have d:=t.out;subst d;exact⟨rfl,o.out⟩
   case true=>
    have g8:=bF.next he a1 (bM Zv.out);have D:=g8.ok;have an:=MV.out x7 a1;have e1:=o.st.c1;have f1:=o.st.fr 1;have P:=zH o.next;clear o Zv g8;go_upto_region 20 with fail
    clear e1 f1;generalize w5.setCell ⟨b,1,none⟩ (.int .i64 ((x7.i:Int)+1))=W6 at *;generalize aO x7=x8 at *;have g9:=bF.need he Zj D;have AO:=g9.ok;go_wp2_with fail
    refine(mJ.out x8 _ _ _ _ ad D P.st).mono ?_;rintro r w8 ⟨rfl,a0⟩;have vI:=zH (P.steps a0);generalize aQ L Zj x8=x9 at *;clear a0 P g9;go_upto_region 21 with fail
    obtain⟨tb,tq,X,U,r0,r2,Y⟩:=vI.tok AO.lt;have O:=vI.st.c0;have R:=vI.st.c1;rw[X]at O;have a0:=AO.lt;clear X r0 r2;obtain⟨i,M⟩:∃i,x9.i=i:=⟨_,rfl⟩
    obtain⟨win,a2⟩:=zN m
    subst a2;obtain⟨pp,a2⟩:=zN ((bC L x9).pos)
    rw[M]at R Y a0;rw[a2]at Y;have d:=t.out;clear t;rw[a2]at d;have t:=zH d;clear M a2 d;obtain⟨W,hW⟩:=zN w8
    rw[hW]at O R Y vI⊢;clear hW
    refine wx (λk => false) [.is (.pointer (some ⟨b, 0, none⟩)),
      .is (.pointer (some ⟨b,0,none⟩)),
      .is (.pointer (some ⟨b,0,none⟩)),
      .is (.pointer (some ⟨b,0,none⟩)),
      .is (.pointer (some ⟨b,0,none⟩)),
      .is (.slice (some ⟨tb,tq,none⟩) L.length Lc),
      .is (.pointer (some ⟨b,0,none⟩)),
      .is (.pointer (some ⟨b,0,none⟩)),
      .is (.pointer (some ⟨b,0,none⟩)),
      .is (.pointer (some ⟨b,1,none⟩)),
      .is (.int .i64 (i:Nat)),
      .is (.pointer (some ⟨tb,tq+i*5,none⟩)),
      .is (.pointer (some ⟨tb,tq+i*5+4,none⟩)),
      .is (.int .i64 (pp:Nat))] [11] (by kernel_rfl) (by kernel_rfl) (by kernel_rfl)
      (λC=>.c (px C rfl (λ_ _=>rfl)) <|
      .c (px C rfl (λ_ _=>rfl)) <|
      .c (px C rfl (λ_ _=>rfl)) <|
      .c (px C rfl (λ_ _=>rfl)) <|
      .c (px C rfl (λ_ _=>rfl)) <|
      .c (px C rfl (λ_ h=>bH (XR (bc h O)))) <|
      .c (px C rfl (λ_ _=>rfl)) <|
      .c (px C rfl (λ_ _=>rfl)) <|
      .c (px C rfl (λ_ _=>rfl)) <|
      .c (px C rfl (λ_ _=>rfl)) <|
      .c (px C rfl (λ_ h=>bH (lD (bc h R)))) <|
      .c (pz [5,10] [] (by kernel_rfl) λqK qa wr hB qO qF hK=>?_) <|
      .c (px C rfl (λ_ _=>rfl)) <|
      .c (px C rfl (λ_ h=>bH (lD (bc h Y)))) <| .nil) ?_
    ·have af:=aA qF.1 rfl rfl;have a2:=aA qF.2.1 rfl rfl;clear qO qF;go_simp;exact hK _ _ zR rfl
    intro qx wr hB d hS;clear d hS;simp only[bJ,zF0,zGb,zF1,zFp,zFd,zFh,zF4,Act.put,zFf,zFw,zFx];have V7:=vI.old hB;have af:=V7.c10;have a2:=V7.st.fr 10;have Uo:=zH (V7.zEg pp);clear V7 hB vI O R Y U a0;go_upto_region 22 with fail
    clear af a2;generalize wr.setCell ⟨b,10,none⟩ (.int .i64 pp)=a2 at *;have Gs:=uS.out x9 a2 _ AO Uo.st;obtain⟨nm,am,a0⟩:∃a z,dK L x9=(a,z):=⟨_,_,rfl⟩
    have d:=t.out;clear t;rw[a0]at Gs d;simp only at Gs d;have t:=zH d;have AB:=zH Gs;clear Gs a0 d;go_wp2_with fail
    refine AB.mono ?_;rintro r af ⟨rfl,a0⟩;have z:=Uo.steps a0;have e9:=z.c9;have f9:=z.st.fr 9;have HF:=zH (z.put9 nm);clear z a0 Uo AB;go_wp2_with fail
    first|go_end0|refine zHg (v:=.tuple #[]) (by simp[results,results39,go_sem]) rfl ?_
    have d:=t.out;subst d;exact⟨rfl,HF.out⟩
end
end Go.Proofs.YtbjnhllkdilpfaaGreat
