/- Part 15 of the proof. No conditions. -/
import Derived.Test.YtbjnhllkdilpfaaZc14
namespace Go.Proofs.Ytbjnhllkdilpfaa
open Go.RowKit
set_option maxRecDepth 100000
set_option maxHeartbeats 16000000
set_option linter.unusedVariables false
set_option linter.unusedSimpArgs false
def oW (B:Nat) (w:World):List Value->List (List aZ)->Prop
 |[],[]=>True
 |v::vs,l::ls=>w.ownsRow B 126 4 v l.length (l.flatMap aZ.cells)/\oW B w vs ls
 |_,_=>False
theorem oW.app {B:Nat} {w:World}:∀{vs us:List Value} {ls ks:List (List aZ)},oW B w vs ls->oW B w us ks->oW B w (vs++us) (ls++ks)
 |[],us,[],ks,_,h=>h
 |v::vs,us,l::ls,ks,h,h2=>⟨h.1,oW.app h.2 h2⟩
 |[],us,l::ls,ks,h,h2=>h.elim
 |v::vs,us,[],ks,h,h2=>h.elim
theorem oW.keep {B:Nat} {w w':World} (hk:∀v n xs,w.ownsRow B 126 4 v n xs->w'.ownsRow B 126 4 v n xs):∀{vs:List Value} {ls:List (List aZ)},oW B w vs ls->oW B w' vs ls
 |[],[],_=>trivial
 |v::vs,l::ls,h=>⟨hk _ _ _ h.1,oW.keep hk h.2⟩
 |[],l::ls,h=>h.elim
 |v::vs,[],h=>h.elim
def jY (B:Nat) (w:World) (v:Value) (dI:List (List aZ)):Prop:=∃vs:List Value,w.ownsRow B 112 1 v dI.length vs/\oW B w vs dI
theorem jY.old {B:Nat} {w w':World} {v:Value} {dI:List (List aZ)} (h:jY B w v dI) (hb:Below w.heap.size w w'):jY B w' v dI:=by
 obtain⟨vs,h1,h2⟩:=h;exact⟨vs,aQ h1 hb,h2.keep fun _ _ _ h=>aQ h hb⟩
theorem fV {b B:Nat} {w w':World} {e:TypeId} {size n:Nat} {v:Value} {xs:List Value} (h:w.ownsRow B e size v n xs) (hg:w.grownBy w' (some b)) (hb:b<B):w'.ownsRow B e size v n xs:=by
 refine h.kept hg ?_;rcases hv:v.ownBlock with _|k
 ·exact .inl rfl
 ·have:=(h.lt k hv).1;exact .inr (aA (by omega))
theorem jY.grown {b B:Nat} {w w':World} {v:Value} {dI:List (List aZ)} (h:jY B w v dI) (hg:w.grownBy w' (some b)) (hb:b<B):jY B w' v dI:=by
 obtain⟨vs,h1,h2⟩:=h;exact⟨vs,fV h1 hg hb,h2.keep fun _ _ _ h=>fV h hg hb⟩
theorem He {b:Nat} {w wo w':World} {e:TypeId} {size n:Nat} {v:Value} {xs:List Value} (hg:w.grownBy wo (some b)) (h:wo.ownsRow w.heap.size e size v n xs) (h2:wo.grownBy w' v.ownBlock):w.grownBy w' (some b):=
 ⟨h2.os.trans hg.os,h2.tape.trans hg.tape,h2.output.trans hg.output,Nat.le_trans hg.size h2.size,fun k hk hne=>(h2.block k (Nat.lt_of_lt_of_le hk hg.size) (by
  intro he;have:=(h.lt k he.symm).1
  omega)).trans (hg.block k hk hne)⟩
theorem qQ {w W:World} {b:Nat} (h:w.grownBy W (some b)) (hb:b<=w.heap.size):Below b w W:=⟨h.os,h.tape,h.output,h.size,fun q hq=>h.block q (by omega) (aA (by omega))⟩
theorem je {w W W':World} {b B n:Nat} {e:TypeId} {size:Nat} {v:Value} {xs:List Value} (h:Below b w W) (hr:W.ownsRow B e size v n xs) (hB:b<=B) (hg:W.grownBy W' v.ownBlock) (hb:b<=w.heap.size):Below b w W':=
 h.trans ⟨hg.os,hg.tape,hg.output,hg.size,fun q hq=>hg.block q (by have:=h.size;omega) (by
  intro he;have:=(hr.lt q he.symm).1
  omega)⟩
theorem dh.set5 {b:Nat} {t:TypeId} {u:Value} {rr:List Value} {L:List az} {LA:Option Addr} {Lc:Nat} {s:PS} {w:World} (h:dh b t (u::rr) L LA Lc s w) (v:Value):dh b t (v::rr) L LA Lc s (w.setCell ⟨b,5,none⟩ v):=
 ⟨by simpa[bZ]using h.bk.put 5 v,nJ h.rd _ _⟩
theorem dh.c5 {b:Nat} {t:TypeId} {u:Value} {rr:List Value} {L:List az} {LA:Option Addr} {Lc:Nat} {s:PS} {w:World} (h:dh b t (u::rr) L LA Lc s w):w.cell? ⟨b,5,none⟩=some u:=by rw[h.bk.cell 5];simp[bZ]
theorem uK (L : List az) (nb : Nat) (s : PS) : eP L nb s =
  ((oQ L (L.length+1) [] (aJ L [40] (aJ L nH (if s.err=0/\eX L s nH=true/\nb=4 then aS L 2 s else s)))).1,
   aJ L [41] (oQ L (L.length+1) [] (aJ L [40] (aJ L nH (if s.err=0/\eX L s nH=true/\nb=4 then aS L 2 s else s)))).2):=rfl
theorem xQ (L:List az) (k:Nat) (l:List aZ) (s:PS):oQ L (k+1) l s=if s.err≠0 then(l,s)else if(jo L l.length s).2.err≠0\/eX L (jo L l.length s).2 [44]=false then(l++[(jo L l.length s).1],(jo L l.length s).2)else oQ L k (l++[(jo L l.length s).1]) (aI (jo L l.length s).2):=rfl
theorem jM {L:List az} {e:Nat} {s:PS} (he:e≠0):(aS L e s).err≠0:=by
 unfold aS
 split
 ·exact he
 ·assumption
theorem bf.item {L:List az} {s:PS} (he:dK L) (h:gG L s) (n:Nat):bf L s (jo L n s).2:=by
 by_cases hc:(decide (n=8)&&(decide ((aY L s).kind=2)||eX L s [33]))=true
 ·rw[xO hc];exact bf.fail _ h
 ·rw[EE (Bool.eq_false_iff.2 hc)];simp only[]
  have g1:bf L s (if eX L s [33]=true then aI s else s):=by
   split
   ·rename_i hi
    exact bf.next he h (bn hi)
   ·exact bf.refl h
  generalize(if eX L s [33]=true then aI s else s)=s1 at *;have g2:=g1.trans (bf.MJ he g1.ok);generalize dw L s1=r at *;obtain⟨ty,s2⟩:=r;simp only at *
  have g3:bf L s (if(decide (s2.err=0)&&(!eX L s [33]&&eX L s2 [43]))=true then aI s2 else s2):=by
   split
   ·rename_i hi
    simp at hi;exact g2.trans (bf.next he g2.ok (bn hi.2.2))
   ·exact g2
  exact g3.trans (bf.MJ he g3.ok)
theorem Ob (L:List az) (s:PS):(jo L 8 s).2.err≠0:=by
 by_cases hc:(decide ((8:Nat)=8)&&(decide ((aY L s).kind=2)||eX L s [33]))=true
 ·rw[xO hc];exact jM (by decide)
 ·have hc:=Bool.eq_false_iff.2 hc;rw[EE hc];simp at hc;simp only[hc.2,Bool.false_eq_true,if_false]
  have h1:(dw L s).2.err≠0:=by
   unfold dw;rw[if_pos (.inr hc.1)];exact jM (by decide)
  simp only[h1,decide_false,Bool.false_and,Bool.false_eq_true,if_false]
  have:dw L (dw L s).2=([],aS L 13 (dw L s).2):=by
   generalize(dw L s).2=s2 at *;unfold dw;rw[if_pos (.inl h1)]
  rw[this];exact jM (by decide)
theorem AY {L:List az} (he:dK L):∀(k:Nat) (l:List aZ) (s:PS),gG L s->bf L s (oQ L k l s).2
 |0,l,s,h=>bf.refl h
 |k+1,l,s,h=>by
  rw[xQ]
  split
  ·exact bf.refl h
  ·split
   ·exact bf.item he h _
   ·rename_i hx
    have g:=bf.item he h l.length;simp only[not_or,Bool.not_eq_false]at hx;have g2:=g.trans (bf.next he g.ok (bn hx.2));exact g2.trans (AY he k _ _ g2.ok)
theorem bf.branch {L:List az} {s:PS} (he:dK L) (h:gG L s) (nb:Nat):bf L s (eP L nb s).2:=by
 rw[uK]
 have g1:bf L s (if s.err=0/\eX L s nH=true/\nb=4 then aS L 2 s else s):=by
  split
  ·exact bf.fail _ h
  ·exact bf.refl h
 have g2:=g1.trans (bf.need he nH g1.ok);have g3:=g2.trans (bf.need he [40] g2.ok);have g4:=g3.trans (AY he (L.length+1) [] _ g3.ok);exact g4.trans (bf.need he [41] g4.ok)
theorem Hf (c0 c1 c2 c3:Value) (w:World):(Instr.buildSlice 112 1 #[(0,.agg #[c0,c1,c2,c3])]).run Try.prog w=.ok (.slice (some ⟨w.heap.size,0,none⟩) 1 1) (w.alloc (.cells #[c0,c1,c2,c3] 126)):=by kernel_rfl
theorem AZ {w : World} {ops : Array Oper} {rest : List Oper} {o : Oper} {a : Act} {Q : Exit → Act → World → Prop} {c0 c1 c2 c3 : Value} (hgd : o.guard = none) (x : Operand) (ho : o.op = .buildSlice 112 1 #[(0, x)]) (hx : a.eval x = .agg #[c0, c1, c2, c3])
  (h:wpList Try.prog ops Q rest (a.put o.dst (.slice (some ⟨w.heap.size,0,none⟩) 1 1)) (w.alloc (.cells #[c0,c1,c2,c3] 126))):wpList Try.prog ops Q (o::rest) a w:=
 wpList_plain hgd fun _ hK=>by
  unfold Oper.wp execOp;simp only[ho,List.map_toArray,List.map_cons,List.map_nil,hx,Sem.run_bind,Hf,Result.andThen_ok,Sem.run_pure];exact hK _ _ h
theorem YA:(Try.prog.info? 112).map (fun i=>(i.zero,i.size,i.bytes))=some (some (.slice none 0 0),1,24):=by kernel_rfl
theorem zAy (a d:Nat) (b c:Str):[(⟨a,b,c,d⟩:aZ)].flatMap aZ.cells=[.int .i64 a,.string (bytes b),.string (bytes c),.int .i64 (d:Nat)]:=rfl
structure YB (b:Nat) (t:TypeId) (rest:List Value) (L:List az) (LA:Option Addr) (Lc:Nat) (w:World) (x:PS) (v:Value) (l:List aZ) (W:World):Prop where
 st:dh b t rest L LA Lc x W
 gw:w.grownBy W (some b)
 own:W.ownsRow w.heap.size 126 4 v l.length (l.flatMap aZ.cells)
def MK (b B:Nat) (L:List az) (LA:Option Addr) (Lc:Nat) (rr:List Value) (dI:List (List aZ)) (s:PS) (w:World) (e:Ending) (w':World):Prop:=
 e=.returned (.tuple #[])/\Below b w w'/\∃v,dh b 98 (v::rr) L LA Lc (eP L dI.length s).2 w'/\jY B w' v (dI++[(eP L dI.length s).1])
section
variable (b B:Nat) (L:List az) (LA:Option Addr) (Lc:Nat) (s:PS) (w:World) (v0:Value) (rr:List Value) (dI:List (List aZ))
theorem JZ (h : dh b 98 (v0 :: rr) L LA Lc s w) (hbr : jY B w v0 dI) (he : dK L) (hi : gG L s) (hL : L.length ≤ 4001) (hn : dI.length ≤ 4) (hbB : b < B) (hBw : B ≤ w.heap.size) :
  Calls Try.prog 38 #[.pointer (some ⟨b,0,none⟩)] w (MK b B L LA Lc rr dI s w):=by
 obtain⟨A0,Jh,hv0,-⟩:∃A c,v0=.slice A dI.length c/\dI.length<=c:=by
  obtain⟨vs,h1,_⟩:=hbr;exact bg h1
 subst hv0;obtain⟨iT,hT,hT0,hT1,hT2⟩:=info_parts QX;obtain⟨jT,kT,kT0,kT1,kT2⟩:=info_parts YA
 have HIS:Hid (∀(x:PS) (W:World) (S:ByteArray) (v:Str) (rest:List Value),S.toList=v->gG L x->dh b 98 rest L LA Lc x W->Calls Try.prog 39 #[.pointer (some ⟨b,0,none⟩),.string S] W fun r w'=>r=.returned (.bool (eX L x v))/\Below W.heap.size W w'):=zH fun x W S v rest hv ho h=>by
  have:=lu b _ rest L LA Lc x W S h ho.lt hL
  rwa [hv]at this
 have pR:Hid (∀(x:PS) (W:World) (S:ByteArray) (v:Str) (rest:List Value),S.toList=v->gG L x->dh b 98 rest L LA Lc x W->Calls Try.prog 37 #[.pointer (some ⟨b,0,none⟩),.string S] W fun r w'=>r=.returned (.tuple #[])/\Steps b 98 rest L LA Lc (aJ L v x) W w'):=zH fun x W S v rest hv ho h=>by
  have:=lZ b _ rest L LA Lc x W S h ho.lt hL
  rwa [hv]at this
 have jR:Hid (∀W:World,dh b 98 (.slice A0 dI.length Jh::rr) L LA Lc s W->Calls Try.prog 42 #[.pointer (some ⟨b,0,none⟩),.int .i64 2] W fun r w'=>r=.returned (.tuple #[])/\Steps b 98 (.slice A0 dI.length Jh::rr) L LA Lc (aS L 2 s) W w'):=zH fun W h=>kU b _ _ L LA Lc s W 2 h hi.lt hL
 have HITM:Hid (∀(x:PS) (W:World) (n:Nat) (rest:List Value),n<=8->gG L x->dh b 98 rest L LA Lc x W->Calls Try.prog 53 #[.pointer (some ⟨b,0,none⟩),.int .i64 n] W fun r w'=>r=.returned (.agg (jo L n x).1.cells.toArray)/\Steps b 98 rest L LA Lc (jo L n x).2 W w'):=zH fun x W n rest hn ho h=>QY b _ rest L LA Lc x W n h he ho hL hn
 have hseq:(⟨#[83,69,81]⟩:ByteArray).toList=nH:=by rw[ByteArray.toList_eq];rfl
 have hopn:(⟨#[40]⟩:ByteArray).toList=[40]:=by rw[ByteArray.toList_eq]
 have hcom:(⟨#[44]⟩:ByteArray).toList=[44]:=by rw[ByteArray.toList_eq]
 have hcls:(⟨#[41]⟩:ByteArray).toList=[41]:=by rw[ByteArray.toList_eq]
 unfold MK;obtain⟨RES,hres⟩:∃R,eP L dI.length s=R:=⟨_,rfl⟩
 rw[hres];rw[uK]at hres;have aG:=zH hres;have HS:=zH h;have Qb:=zH hbr;have hbl:=h.bk.lt;have c3:=h.c3;have c5:=h.c5;clear hres h hbr
 go_enter Try.func38,Try.ntmps38
 obtain⟨full,hfull⟩:∃z,(decide (s.err=0)&&(eX L s nH&&decide (dI.length=4)))=z:=⟨_,rfl⟩
 have HFU:=zH hfull;clear hfull;go_upto_region 0 with fail
 go_cut[23] (fun v wx=>v=.bool full/\Hid (dh b 98 (.slice A0 dI.length Jh::rr) L LA Lc s wx/\Below w.heap.size w wx))
 case first=>
  as_aux_lemma=>
  by_cases h0:s.err=0
  case neg=>
   have iV:((s.err:Int)==0)=false:=zB (by omega)
   have hst:full=false:=by rw[<-HFU.out];simp[h0]
   subst hst;clear h0;go_wp2_with fail
   go_meet
   exact⟨rfl,zH ⟨HS.out,Below.refl _ _⟩⟩
  case pos=>
   have iV:((s.err:Int)==0)=true:=by rw[beq_iff_eq];omega
   obtain⟨bi,hbi⟩:∃z,eX L s nH=z:=⟨_,rfl⟩
   have Jc:=zH hbi;clear hbi
   by_cases h4:dI.length=4
   ·have Pm:((dI.length:Int)==4)=true:=by rw[beq_iff_eq];omega
    have hst:full=bi:=by rw[<-HFU.out,Jc.out];simp[h0,h4]
    subst hst;have H4:=zH Pm;have H5:=zH c5;clear h0 h4 Pm c5;go_wp2_with fail
    refine(HIS.out s _ _ _ _ hseq hi HS.out).mono ?_;rintro r w2 ⟨rfl,hb2⟩;rw[Jc.out];have d5:=(HS.out.old hb2).c5;have HM:=zH (And.intro (HS.out.old hb2) hb2);have Pm:=H4.out;clear hb2;cases full
    ·go_wp2_with fail
     go_meet
     exact⟨rfl,HM⟩
    ·go_wp2_with fail
     go_meet
     exact⟨rfl,HM⟩
   ·have Pm:((dI.length:Int)==4)=false:=zB (by omega)
    have hst:full=false:=by rw[<-HFU.out,Jc.out];simp[h0,h4]
    subst hst;have H4:=zH Pm;have H5:=zH c5;clear h0 h4 Pm c5;go_wp2_with fail
    refine(HIS.out s _ _ _ _ hseq hi HS.out).mono ?_;rintro r w2 ⟨rfl,hb2⟩;rw[Jc.out];have d5:=(HS.out.old hb2).c5;have HM:=zH (And.intro (HS.out.old hb2) hb2);have Pm:=H4.out;clear hb2;cases bi
    ·go_wp2_with fail
     go_meet
     exact⟨rfl,HM⟩
    ·go_wp2_with fail
     go_meet
     exact⟨rfl,HM⟩
 case rest=>
 obtain⟨rfl,HM⟩:=hcut;clear HS c3 c5
 have g1:bf L s (if s.err=0/\eX L s nH=true/\dI.length=4 then aS L 2 s else s):=by
  split
  ·exact bf.fail _ hi
  ·exact bf.refl hi
 have g2:=g1.trans (bf.need he nH g1.ok);have g3:=g2.trans (bf.need he [40] g2.ok);obtain⟨s1,hs1⟩:∃z,(if s.err=0/\eX L s nH=true/\dI.length=4 then aS L 2 s else s)=z:=⟨_,rfl⟩
 have hres:=aG.out;clear aG;rw[hs1]at hres g1 g2 g3;have zF:=zH hs1;have aG:=zH hres;have hg1:=g1.ok;have hg2:=g2.ok;have hg3:=g3.ok;clear hres hs1 g1 g2 g3;go_upto_if 23 with fail
 go_cut[] (fun wx=>Hid (Steps b 98 (.slice A0 dI.length Jh::rr) L LA Lc s1 w wx))
 case first=>
  as_aux_lemma=>
  cases full
  case false=>
   have hx:s1=s:=by
    rw[<-zF.out,if_neg];intro h;have:=HFU.out;simp[h.1,h.2.1,h.2.2]at this
   subst hx;go_wp2_with fail
   go_meet
   exact zH ⟨HM.out.1,below_grown HM.out.2 _⟩
  case true=>
   have hx:aS L 2 s=s1:=by
    rw[<-zF.out,if_pos];have:=HFU.out
    simpa using this
   have HX:=zH hx;clear hx;go_wp2_with fail
   refine(jR.out _ HM.out.1).mono ?_;rintro r w3 ⟨rfl,hs3⟩
   have Hg:Hid (Steps b 98 (.slice A0 dI.length Jh::rr) L LA Lc s1 w w3):=zH (by
    rw[<-HX.out]
    exact⟨hs3.st,(below_grown HM.out.2 _).trans hs3.grown⟩)
   clear hs3;go_wp2_with fail
   go_meet
   exact Hg
 case rest=>
 have GI:=hcut;clear hcut HM jR zF HFU;go_wp2_with fail
 refine(pR.out s1 _ _ _ _ hseq hg1 GI.out.st).mono ?_;rintro r w2 ⟨rfl,hs2⟩;have mV:=zH (And.intro hs2.st (GI.out.grown.trans hs2.grown));clear hs2 GI;go_wp2_with fail
 refine(pR.out (aJ L nH s1) _ _ _ _ hopn hg2 mV.out.1).mono ?_;rintro r w3 ⟨rfl,hs3⟩;have Hg:=zH (And.intro hs3.st (mV.out.2.trans hs3.grown));clear hs3 mV;generalize aJ L [40] (aJ L nH s1)=s3 at *;have V0:Hid (YB b 98 (.slice A0 dI.length Jh::rr) L LA Lc w s3 (.slice none 0 0) [] w3):=zH ⟨Hg.out.1,Hg.out.2,World.ownsRow_nil _ _ _ _⟩;clear Hg;obtain⟨RI,hri⟩:∃z,oQ L (L.length+1) [] s3=z:=⟨_,rfl⟩
 have hres:=aG.out;clear aG;rw[hri]at hres;have HRI:=zH hri;have aG:=zH hres;clear hri hres
 go_upto_block 0 with fail
 go_cut[2] (fun v wx=>∃A c,v=.slice A RI.1.length c/\Hid (YB b 98 (.slice A0 dI.length Jh::rr) L LA Lc w RI.2 v RI.1 wx))
 case first=>
  as_aux_lemma=>
  have J3:Hid (∀x,gG L x->x.i<=4001):=zH fun x h=>by have:=h.lt;omega
  clear aG;go_wp2_with fail
  go_loopg [2] (L.length+1) (fun gk l wr=>∃(A:Option Addr) (c:Nat) (acc:List aZ) (x:PS),l=.slice A acc.length c/\acc.length<=8/\Hid (oQ L gk acc x=RI)/\L.length-x.i<gk/\Hid (gG L x)/\Hid (YB b 98 (.slice A0 dI.length Jh::rr) L LA Lc w x (.slice A acc.length c) acc wr))
  case atStart=>exact⟨none,0,[],s3,rfl,by simp,HRI,by omega,zH hg3,V0⟩
  case round=>
   clear V0 HRI;obtain⟨A,c,acc,x,rfl,hac,hrec,hlt,xq,HV⟩:=hrel;obtain⟨wo,rfl⟩:∃wo:World,wo=wr:=⟨_,rfl⟩
   obtain⟨k,rfl⟩:∃k,gk=k+1:=⟨gk-1,by omega⟩
   have hrec:=hrec.out;rw[xQ]at hrec;have d3:=HV.out.st.c3
   by_cases herr:x.err=0
   case neg=>
    as_aux_lemma=>
    rw[if_pos herr]at hrec;subst hrec;have iV:((x.err:Int)==0)=false:=zB (by omega)
    clear herr;go_wp2_with fail
    go_meet
    exact⟨_,_,rfl,HV⟩
   case pos=>
    rw[if_neg (by omega)]at hrec;have iV:((x.err:Int)==0)=true:=by rw[beq_iff_eq];omega
    have HI:=zH (HITM.out x wo acc.length _ hac xq.out HV.out.st);have g1:=bf.item he xq.out acc.length;have hfull:acc.length=8->(jo L acc.length x).2.err≠0:=fun h=>by rw[h];exact Ob L x
    obtain⟨⟨⟨i0,i1,i2,i3⟩,x2⟩,hit⟩:∃r,jo L acc.length x=r:=⟨_,rfl⟩
    rw[hit]at HI g1 hfull hrec;simp only[aZ.cells]at HI g1 hfull hrec;have jS:=zH hrec;have Xd:=zH g1;have Q4:=zH hfull;clear hrec g1 hfull hit herr;go_wp2_with fail
    refine HI.out.mono ?_;rintro r w4 ⟨rfl,hs4⟩;have V4:YB b 98 (.slice A0 dI.length Jh::rr) L LA Lc w x2 (.slice A acc.length c) acc w4:=⟨hs4.st,HV.out.gw.trans hs4.grown,fV HV.out.own hs4.grown hbl⟩
    have hsz:=V4.gw.size;have oU:w.heap.size<=(w4.alloc (.cells #[.int .i64 i0,.string (bytes i1),.string (bytes i2),.int .i64 i3] 126)).heap.size:=by simp;omega
    have jE:=zH V4;have dD:=V4.own.alloc (.cells #[.int .i64 i0,.string (bytes i1),.string (bytes i2),.int .i64 i3] 126);clear hs4 HV V4 HI d3;go_wp2_with (first|(refine AZ rfl _ rfl rfl ?_)|at_builtin;(refine aH (by rfl) _ _ 112 (by rfl) w.heap.size 126 iT _ 4 48 Try.underlying112 hT hT0 hT1 hT2 rfl (by decide) (.slice A acc.length c) acc.length _ (by rfl) dD (w4.heap.size+1) (some ⟨w4.heap.size,0,none⟩) 1 1 [.int .i64 i0,.string (bytes i1),.string (bytes i2),.int .i64 i3] (by rfl) (Rd.lit rfl _ _) (by rfl) ?c2 ?c3 ?c4 oU ?_))
    case c2=>intro u hu;simp at hu;rcases hu with rfl|rfl|rfl|rfl<;>rfl
    case c3=>unfold maxLen;omega
    case c4=>omega
    intro A6 c6 w6 hown6 jK _;have hgA:w.grownBy (w4.alloc (.cells #[.int .i64 i0,.string (bytes i1),.string (bytes i2),.int .i64 i3] 126)) (some b):=JU jE.out.gw _;have hgw6:=He hgA dD jK
    have vV:dh b 98 (.slice A0 dI.length Jh::rr) L LA Lc x2 w6:=by
     have h5:=jE.out.st.old (zR.alloc zL (.cells #[.int .i64 i0,.string (bytes i1),.string (bytes i2),.int .i64 i3] 126))
     have hne:some b≠(Value.slice A acc.length c).ownBlock:=by
      intro he;have:=(dD.lt b he.symm).1;omega
     exact⟨h5.bk.grown jK hne,h5.rd.below (je zR dD (by omega) jK (by omega))⟩
    have Cj:(acc++[(⟨i0,i1,i2,i3⟩:aZ)]).length=acc.length+1:=by simp
    have V6:YB b 98 (.slice A0 dI.length Jh::rr) L LA Lc w x2 (.slice A6 (acc.length+1) c6) (acc++[(⟨i0,i1,i2,i3⟩:aZ)]) w6:=⟨vV,hgw6,by rw[Cj,List.flatMap_append,zAy];exact hown6⟩
    have fM:=zH V6;have d3:=vV.c3;clear hown6 jK hgA hgw6 vV dD oU jE V6
    by_cases he2:x2.err=0
    case neg=>
     as_aux_lemma=>
     have h2I:((x2.err:Int) !=0)=true:=by rw[bne_iff_ne];omega
     have hR:=jS.out;rw[if_pos (.inl he2)]at hR;subst hR;clear he2 Q4 jS;go_wp2_with fail
     go_meet
     exact⟨A6,c6,by rw[Cj],fM⟩
    case pos=>
     have h2I:((x2.err:Int) !=0)=false:=by rw[bne_eq_false_iff_eq];omega
     have hle:acc.length+1<=8:=by
      rcases Nat.lt_or_ge acc.length 8 with h|h
      ·exact h
      ·exact absurd he2 (Q4.out (by omega))
     have Oc:=zH Xd.out.ok;have hxi:=Xd.out.le;have hR:=jS.out;obtain⟨bi,hbi⟩:∃z,eX L x2 [44]=z:=⟨_,rfl⟩
     rw[hbi]at hR;have Jc:=zH hbi;have vU:=zH hR;have HE2:=zH he2;clear jS hR hbi Xd Q4 he2;go_wp2_with fail
     refine(HIS.out x2 _ _ _ _ hcom Oc.out fM.out.st).mono ?_;rintro r w7 ⟨rfl,hb7⟩;have V7:YB b 98 (.slice A0 dI.length Jh::rr) L LA Lc w x2 (.slice A6 (acc.length+1) c6) (acc++[(⟨i0,i1,i2,i3⟩:aZ)]) w7:=⟨fM.out.st.old hb7,fM.out.gw.trans (below_grown hb7 _),aQ fM.out.own hb7⟩
     have ML:=zH V7;rw[Jc.out];cases bi
     case false=>
      as_aux_lemma=>
      have hR:=vU.out;rw[if_pos (.inr rfl)]at hR;subst hR;clear hb7 V7 fM d3 vU;go_wp2_with fail
      go_meet
      exact⟨A6,c6,by rw[Cj],ML⟩
     case true=>
      as_aux_lemma=>
      have hR:=vU.out;rw[if_neg (by simp[HE2.out])]at hR;have HR:=zH hR;have gn:=bf.next he Oc.out (bn Jc.out);have Oe:=zH gn.ok;have hi2:=J3.out x2 Oc.out;have e1:=V7.st.c1;have f1:=V7.st.fr 1;have hn:=step_next b _ _ L LA Lc x2 w7 V7.st;have V8:YB b 98 (.slice A0 dI.length Jh::rr) L LA Lc w (aI x2) (.slice A6 (acc.length+1) c6) (acc++[(⟨i0,i1,i2,i3⟩:aZ)]) (w7.setCell ⟨b,1,none⟩ (.int .i64 ((x2.i:Int)+1))):=⟨hn.st,V7.gw.trans hn.grown,fV V7.own hn.grown hbl⟩
      have rZ:=zH V8;have hx8:(aI x2).i=x2.i+1:=rfl;have hxl:=xq.out.lt;clear hb7 V7 V8 fM ML d3 vU hn gn hR;go_wp2
      go_roundg k
      case measure=>omega
      case rel=>exact⟨A6,c6,acc++[(⟨i0,i1,i2,i3⟩:aZ)],aI x2,by rw[Cj],by rw[Cj];exact hle,HR,by rw[hx8];omega,Oe,by rw[Cj];exact rZ⟩
 case rest=>
 obtain⟨A,c,rfl,HV⟩:=hcut;have hgI:bf L s3 RI.2:=by rw[<-HRI.out];exact AY he _ _ _ hg3
 have hgi:=hgI.ok;clear V0 HRI hgI;obtain⟨l,s4⟩:=RI;simp only at HV hgi aG;go_wp2_with fail
 refine(pR.out s4 _ _ _ _ hcls hgi HV.out.st).mono ?_;rintro r w5 ⟨rfl,hs5⟩;have HV5:=zH (And.intro hs5.st (And.intro (HV.out.gw.trans hs5.grown) (fV HV.out.own hs5.grown hbl)));have hbr5:=Qb.out.grown HV5.out.2.1 hbB;obtain⟨vs,hvs,hits⟩:=hbr5;have HITS:=zH hits;clear hs5 HV hits;have c5:=HV5.out.1.c5;have hsz:=HV5.out.2.1.size;have oU:B<=(w5.alloc (.cells #[.slice A l.length c] 112)).heap.size:=by simp;omega
 have dD:=hvs.alloc (.cells #[.slice A l.length c] 112);have HOWN:=zH hvs;clear hvs;go_wp2_with (first|at_builtin;(refine aH (by rfl) _ _ 77 (by rfl) B 112 jT _ 1 24 Try.underlying77 kT kT0 kT1 kT2 rfl (by decide) (.slice A0 dI.length Jh) dI.length _ (by rfl) dD (w5.heap.size+1) (some ⟨w5.heap.size,0,none⟩) 1 1 [.slice A l.length c] (by rfl) (Rd.lit rfl _ _) (by rfl) ?c2 ?c3 ?c4 oU ?_))
 case c2=>intro u hu;simp at hu;subst hu;rfl
 case c3=>unfold maxLen;omega
 case c4=>omega
 intro A6 c6 w6 hown6 jK _;have jc:Below w5.heap.size w5 (w5.alloc (.cells #[.slice A l.length c] 112)):=zR.alloc zL _
 have hne:some b≠(Value.slice A0 dI.length Jh).ownBlock:=by
  intro he;have:=(dD.lt b he.symm).1;omega
 have hb1:Below b w w5:=qQ HV5.out.2.1 (by omega);have hb2:Below b w (w5.alloc (.cells #[.slice A l.length c] 112)):=hb1.trans (jc.mono (by omega));have hb3:Below b w w6:=je hb2 dD (by omega) jK (by omega)
 have vV:dh b 98 (.slice A0 dI.length Jh::rr) L LA Lc (aJ L [41] s4) w6:=by
  have h5:=HV5.out.1.old jc;exact⟨h5.bk.grown jK hne,h5.rd.below (je zR dD (by omega) jK (by have:=h5.bk.lt;omega))⟩
 have hall:oW B w6 (vs++[.slice A l.length c]) (dI++[l]):=by
  refine oW.app (HITS.out.keep fun v n xs h=>?_) ⟨?_,trivial⟩
  ·exact dN (aQ h jc) dD (by decide) jK
  ·exact dN (di (aQ HV5.out.2.2 jc) hBw) dD (by decide) jK
 have d5:=vV.c5;have f5:=vV.fr 5;have hst7:=vV.set5 (.slice A6 (dI.length+1) c6);have Xm:w6.grownBy (w6.setCell ⟨b,5,none⟩ (.slice A6 (dI.length+1) c6)) (some b):=bF (World.grownBy.refl _ _);have hb7:Below b w (w6.setCell ⟨b,5,none⟩ (.slice A6 (dI.length+1) c6)):=hb3.setCell (Nat.le_refl b) _;have hbr7:jY B (w6.setCell ⟨b,5,none⟩ (.slice A6 (dI.length+1) c6)) (.slice A6 (dI.length+1) c6) (dI++[l]):=jY.grown ⟨vs++[.slice A l.length c],by simpa using hown6,hall⟩ Xm hbB;have H7:=zH (And.intro hst7 (And.intro hb7 hbr7));clear hall hst7 Xm hb7 hbr7 vV hb3 hb2 hb1 hown6 jK dD oU jc c5 HITS HOWN HV5 hne;go_wp2
 first|go_end0|refine bodyPost_end (v:=.tuple #[]) (by simp[results,Try.results38,go_sem]) rfl ?_
 have hR:=aG.out;subst hR;exact⟨rfl,H7.out.2.1,_,H7.out.1,H7.out.2.2⟩
end
end Go.Proofs.Ytbjnhllkdilpfaa
