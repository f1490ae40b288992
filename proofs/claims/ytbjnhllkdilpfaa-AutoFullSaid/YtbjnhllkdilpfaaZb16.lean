/- Part 16 of the proof. No conditions. -/
import Derived.Test.YtbjnhllkdilpfaaZb15
namespace Go.Proofs.Ytbjnhllkdilpfaa
open Go.RowKit
set_option linter.unusedSimpArgs false
set_option linter.unusedVariables false
set_option maxHeartbeats 16000000
set_option maxRecDepth 100000
def oz (B:Nat) (w:World):List Value->List (List bu)->Prop
 |[],[]=>True
 |v::vs,l::ls=>w.ownsRow B 126 4 v l.length (l.flatMap bu.cells)/\oz B w vs ls
 |_,_=>False
theorem oz.app {B:Nat} {w:World}:∀{vs us:List Value} {ls ks:List (List bu)},oz B w vs ls->oz B w us ks->oz B w (vs++us) (ls++ks)
 |[],us,[],ks,_,h=>h
 |v::vs,us,l::ls,ks,h,h2=>⟨h.1,oz.app h.2 h2⟩
 |[],us,l::ls,ks,h,h2=>h.elim
 |v::vs,us,[],ks,h,h2=>h.elim
theorem oz.keep {B:Nat} {w w':World} (hk:∀v n xs,w.ownsRow B 126 4 v n xs->w'.ownsRow B 126 4 v n xs):∀{vs:List Value} {ls:List (List bu)},oz B w vs ls->oz B w' vs ls
 |[],[],_=>trivial
 |v::vs,l::ls,h=>⟨hk _ _ _ h.1,oz.keep hk h.2⟩
 |[],l::ls,h=>h.elim
 |v::vs,[],h=>h.elim
def jK (B:Nat) (w:World) (v:Value) (dC:List (List bu)):Prop:=∃vs:List Value,w.ownsRow B 112 1 v dC.length vs/\oz B w vs dC
theorem jK.old {B:Nat} {w w':World} {v:Value} {dC:List (List bu)} (h:jK B w v dC) (hb:Below w.heap.size w w'):jK B w' v dC:=by
 obtain⟨vs,h1,h2⟩:=h;exact⟨vs,aP h1 hb,h2.keep fun _ _ _ h=>aP h hb⟩
theorem fP {b B:Nat} {w w':World} {e:TypeId} {size n:Nat} {v:Value} {xs:List Value} (h:w.ownsRow B e size v n xs) (hg:w.grownBy w' (some b)) (hb:b<B):w'.ownsRow B e size v n xs:=by
 refine h.kept hg ?_;rcases hv:v.ownBlock with _|k
 ·exact .inl rfl
 ·have:=(h.lt k hv).1;exact .inr (aC (by omega))
theorem jK.grown {b B:Nat} {w w':World} {v:Value} {dC:List (List bu)} (h:jK B w v dC) (hg:w.grownBy w' (some b)) (hb:b<B):jK B w' v dC:=by
 obtain⟨vs,h1,h2⟩:=h;exact⟨vs,fP h1 hg hb,h2.keep fun _ _ _ h=>fP h hg hb⟩
theorem EX {b:Nat} {w wo w':World} {e:TypeId} {size n:Nat} {v:Value} {xs:List Value} (hg:w.grownBy wo (some b)) (h:wo.ownsRow w.heap.size e size v n xs) (h2:wo.grownBy w' v.ownBlock):w.grownBy w' (some b):=
 ⟨h2.os.trans hg.os,h2.tape.trans hg.tape,h2.output.trans hg.output,Nat.le_trans hg.size h2.size,fun k hk hne=>(h2.block k (Nat.lt_of_lt_of_le hk hg.size) (by
  intro he;have:=(h.lt k he.symm).1
  omega)).trans (hg.block k hk hne)⟩
theorem pW {w W:World} {b:Nat} (h:w.grownBy W (some b)) (hb:b<=w.heap.size):Below b w W:=⟨h.os,h.tape,h.output,h.size,fun q hq=>h.block q (by omega) (aC (by omega))⟩
theorem iY {w W W':World} {b B n:Nat} {e:TypeId} {size:Nat} {v:Value} {xs:List Value} (h:Below b w W) (hr:W.ownsRow B e size v n xs) (hB:b<=B) (hg:W.grownBy W' v.ownBlock) (hb:b<=w.heap.size):Below b w W':=
 h.trans ⟨hg.os,hg.tape,hg.output,hg.size,fun q hq=>hg.block q (by have:=h.size;omega) (by
  intro he;have:=(hr.lt q he.symm).1
  omega)⟩
theorem di.set5 {b:Nat} {t:TypeId} {u:Value} {rr:List Value} {L:List aA} {LA:Option Addr} {Lc:Nat} {s:PS} {w:World} (h:di b t (u::rr) L LA Lc s w) (v:Value):di b t (v::rr) L LA Lc s (w.setCell ⟨b,5,none⟩ v):=
 ⟨by simpa[dw]using h.bk.put 5 v,mW h.rd _ _⟩
theorem di.c5 {b:Nat} {t:TypeId} {u:Value} {rr:List Value} {L:List aA} {LA:Option Addr} {Lc:Nat} {s:PS} {w:World} (h:di b t (u::rr) L LA Lc s w):w.cell? ⟨b,5,none⟩=some u:=by rw[h.bk.cell 5];simp[dw]
theorem sK (L : List aA) (nb : Nat) (s : PS) : eG L nb s =
  ((nX L (L.length+1) [] (ay L [40] (ay L mV (if s.err=0/\eQ L s mV=true/\nb=4 then aW L 2 s else s)))).1,
   ay L [41] (nX L (L.length+1) [] (ay L [40] (ay L mV (if s.err=0/\eQ L s mV=true/\nb=4 then aW L 2 s else s)))).2):=rfl
theorem vV (L:List aA) (k:Nat) (l:List bu) (s:PS):nX L (k+1) l s=if s.err≠0 then(l,s)else if(jg L l.length s).2.err≠0\/eQ L (jg L l.length s).2 [44]=false then(l++[(jg L l.length s).1],(jg L l.length s).2)else nX L k (l++[(jg L l.length s).1]) (aO (jg L l.length s).2):=rfl
theorem jD {L:List aA} {e:Nat} {s:PS} (he:e≠0):(aW L e s).err≠0:=by
 unfold aW
 split
 ·exact he
 ·assumption
theorem bn.item {L:List aA} {s:PS} (he:dL L) (h:gm L s) (n:Nat):bn L s (jg L n s).2:=by
 by_cases hc:(decide (n=8)&&(decide ((bf L s).kind=2)||eQ L s [33]))=true
 ·rw[vT hc];exact bn.fail _ h
 ·rw[Dt (Bool.eq_false_iff.2 hc)];simp only[]
  have g1:bn L s (if eQ L s [33]=true then aO s else s):=by
   split
   ·rename_i hi
    exact bn.next he h (bG hi)
   ·exact bn.refl h
  generalize(if eQ L s [33]=true then aO s else s)=s1 at *;have g2:=g1.trans (bn.Js he g1.ok);generalize dD L s1=r at *;obtain⟨ty,s2⟩:=r;simp only at *
  have g3:bn L s (if(decide (s2.err=0)&&(!eQ L s [33]&&eQ L s2 [43]))=true then aO s2 else s2):=by
   split
   ·rename_i hi
    simp at hi;exact g2.trans (bn.next he g2.ok (bG hi.2.2))
   ·exact g2
  exact g3.trans (bn.Js he g3.ok)
theorem Kt (L:List aA) (s:PS):(jg L 8 s).2.err≠0:=by
 by_cases hc:(decide ((8:Nat)=8)&&(decide ((bf L s).kind=2)||eQ L s [33]))=true
 ·rw[vT hc];exact jD (by decide)
 ·have hc:=Bool.eq_false_iff.2 hc;rw[Dt hc];simp at hc;simp only[hc.2,Bool.false_eq_true,if_false]
  have h1:(dD L s).2.err≠0:=by
   unfold dD;rw[if_pos (.inr hc.1)];exact jD (by decide)
  simp only[h1,decide_false,Bool.false_and,Bool.false_eq_true,if_false]
  have:dD L (dD L s).2=([],aW L 13 (dD L s).2):=by
   generalize(dD L s).2=s2 at *;unfold dD;rw[if_pos (.inl h1)]
  rw[this];exact jD (by decide)
theorem zo {L:List aA} (he:dL L):∀(k:Nat) (l:List bu) (s:PS),gm L s->bn L s (nX L k l s).2
 |0,l,s,h=>bn.refl h
 |k+1,l,s,h=>by
  rw[vV]
  split
  ·exact bn.refl h
  ·split
   ·exact bn.item he h _
   ·rename_i hx
    have g:=bn.item he h l.length;simp only[not_or,Bool.not_eq_false]at hx;have g2:=g.trans (bn.next he g.ok (bG hx.2));exact g2.trans (zo he k _ _ g2.ok)
theorem bn.branch {L:List aA} {s:PS} (he:dL L) (h:gm L s) (nb:Nat):bn L s (eG L nb s).2:=by
 rw[sK]
 have g1:bn L s (if s.err=0/\eQ L s mV=true/\nb=4 then aW L 2 s else s):=by
  split
  ·exact bn.fail _ h
  ·exact bn.refl h
 have g2:=g1.trans (bn.need he mV g1.ok);have g3:=g2.trans (bn.need he [40] g2.ok);have g4:=g3.trans (zo he (L.length+1) [] _ g3.ok);exact g4.trans (bn.need he [41] g4.ok)
theorem EY (c0 c1 c2 c3:Value) (w:World):(Instr.buildSlice 112 1 #[(0,.agg #[c0,c1,c2,c3])]).run Try.prog w=.ok (.slice (some ⟨w.heap.size,0,none⟩) 1 1) (w.alloc (.cells #[c0,c1,c2,c3] 126)):=by kernel_rfl
theorem zq {w : World} {ops : Array Oper} {rest : List Oper} {o : Oper} {a : Act} {Q : Exit → Act → World → Prop} {c0 c1 c2 c3 : Value} (hgd : o.guard = none) (x : Operand) (ho : o.op = .buildSlice 112 1 #[(0, x)]) (hx : a.eval x = .agg #[c0, c1, c2, c3])
  (h:wpList Try.prog ops Q rest (a.put o.dst (.slice (some ⟨w.heap.size,0,none⟩) 1 1)) (w.alloc (.cells #[c0,c1,c2,c3] 126))):wpList Try.prog ops Q (o::rest) a w:=
 wpList_plain hgd fun _ hK=>by
  unfold Oper.wp execOp;simp only[ho,List.map_toArray,List.map_cons,List.map_nil,hx,Sem.run_bind,EY,Result.andThen_ok,Sem.run_pure];exact hK _ _ h
theorem VC:(Try.prog.info? 112).map (fun i=>(i.zero,i.size,i.bytes))=some (some (.slice none 0 0),1,24):=by kernel_rfl
theorem Y0 (a d:Nat) (b c:Str):[(⟨a,b,c,d⟩:bu)].flatMap bu.cells=[.int .i64 a,.string (bytes b),.string (bytes c),.int .i64 (d:Nat)]:=rfl
structure VD (b:Nat) (t:TypeId) (rest:List Value) (L:List aA) (LA:Option Addr) (Lc:Nat) (w:World) (x:PS) (v:Value) (l:List bu) (W:World):Prop where
 st:di b t rest L LA Lc x W
 gw:w.grownBy W (some b)
 own:W.ownsRow w.heap.size 126 4 v l.length (l.flatMap bu.cells)
def Jt (b B:Nat) (L:List aA) (LA:Option Addr) (Lc:Nat) (rr:List Value) (dC:List (List bu)) (s:PS) (w:World) (e:Ending) (w':World):Prop:=
 e=.returned (.tuple #[])/\Below b w w'/\∃v,di b 98 (v::rr) L LA Lc (eG L dC.length s).2 w'/\jK B w' v (dC++[(eG L dC.length s).1])
section
variable (b B:Nat) (L:List aA) (LA:Option Addr) (Lc:Nat) (s:PS) (w:World) (v0:Value) (rr:List Value) (dC:List (List bu))
theorem H8 (h : di b 98 (v0 :: rr) L LA Lc s w) (hbr : jK B w v0 dC) (he : dL L) (hi : gm L s) (hL : L.length ≤ 4001) (hn : dC.length ≤ 4) (hbB : b < B) (hBw : B ≤ w.heap.size) :
  Calls Try.prog 38 #[.pointer (some ⟨b,0,none⟩)] w (Jt b B L LA Lc rr dC s w):=by
 obtain⟨A0,GV,hv0,-⟩:∃A c,v0=.slice A dC.length c/\dC.length<=c:=by
  obtain⟨vs,h1,_⟩:=hbr;exact bF h1
 subst hv0;obtain⟨iT,hT,hT0,hT1,hT2⟩:=info_parts NR;obtain⟨jT,kT,kT0,kT1,kT2⟩:=info_parts VC
 have HIS:Hid (∀(x:PS) (W:World) (S:ByteArray) (v:Str) (rest:List Value),S.toList=v->gm L x->di b 98 rest L LA Lc x W->Calls Try.prog 39 #[.pointer (some ⟨b,0,none⟩),.string S] W fun r w'=>r=.returned (.bool (eQ L x v))/\Below W.heap.size W w'):=zH fun x W S v rest hv ho h=>by
  have:=kL b _ rest L LA Lc x W S h ho.lt hL
  rwa [hv]at this
 have lX:Hid (∀(x:PS) (W:World) (S:ByteArray) (v:Str) (rest:List Value),S.toList=v->gm L x->di b 98 rest L LA Lc x W->Calls Try.prog 37 #[.pointer (some ⟨b,0,none⟩),.string S] W fun r w'=>r=.returned (.tuple #[])/\Steps b 98 rest L LA Lc (ay L v x) W w'):=zH fun x W S v rest hv ho h=>by
  have:=fM b _ rest L LA Lc x W S h ho.lt hL
  rwa [hv]at this
 have jG:Hid (∀W:World,di b 98 (.slice A0 dC.length GV::rr) L LA Lc s W->Calls Try.prog 42 #[.pointer (some ⟨b,0,none⟩),.int .i64 2] W fun r w'=>r=.returned (.tuple #[])/\Steps b 98 (.slice A0 dC.length GV::rr) L LA Lc (aW L 2 s) W w'):=zH fun W h=>ku b _ _ L LA Lc s W 2 h hi.lt hL
 have HITM:Hid (∀(x:PS) (W:World) (n:Nat) (rest:List Value),n<=8->gm L x->di b 98 rest L LA Lc x W->Calls Try.prog 53 #[.pointer (some ⟨b,0,none⟩),.int .i64 n] W fun r w'=>r=.returned (.agg (jg L n x).1.cells.toArray)/\Steps b 98 rest L LA Lc (jg L n x).2 W w'):=zH fun x W n rest hn ho h=>NS b _ rest L LA Lc x W n h he ho hL hn
 have hseq:(⟨#[83,69,81]⟩:ByteArray).toList=mV:=by rw[ByteArray.toList_eq];rfl
 have hopn:(⟨#[40]⟩:ByteArray).toList=[40]:=by rw[ByteArray.toList_eq]
 have hcom:(⟨#[44]⟩:ByteArray).toList=[44]:=by rw[ByteArray.toList_eq]
 have hcls:(⟨#[41]⟩:ByteArray).toList=[41]:=by rw[ByteArray.toList_eq]
 unfold Jt;obtain⟨RES,hres⟩:∃R,eG L dC.length s=R:=⟨_,rfl⟩
 rw[hres];rw[sK]at hres;have aK:=zH hres;have HS:=zH h;have QZ:=zH hbr;have hbl:=h.bk.lt;have c3:=h.c3;have c5:=h.c5;clear hres h hbr
 go_enter Try.func38,Try.ntmps38
 obtain⟨full,hfull⟩:∃z,(decide (s.err=0)&&(eQ L s mV&&decide (dC.length=4)))=z:=⟨_,rfl⟩
 have XW:=zH hfull;clear hfull;go_upto_region 0 with fail
 go_cut[23] (fun v wx=>v=.bool full/\Hid (di b 98 (.slice A0 dC.length GV::rr) L LA Lc s wx/\Below w.heap.size w wx))
 case first=>
  as_aux_lemma=>
  by_cases h0:s.err=0
  case neg=>
   have iQ:((s.err:Int)==0)=false:=by rw[beq_eq_false_iff_ne];omega
   have hst:full=false:=by rw[<-XW.out];simp[h0]
   subst hst;clear h0;go_wp2_with fail
   go_meet
   exact⟨rfl,zH ⟨HS.out,Below.refl _ _⟩⟩
  case pos=>
   have iQ:((s.err:Int)==0)=true:=by rw[beq_iff_eq];omega
   obtain⟨bi,hbi⟩:∃z,eQ L s mV=z:=⟨_,rfl⟩
   have L6:=zH hbi;clear hbi
   by_cases h4:dC.length=4
   ·have J9:((dC.length:Int)==4)=true:=by rw[beq_iff_eq];omega
    have hst:full=bi:=by rw[<-XW.out,L6.out];simp[h0,h4]
    subst hst;have H4:=zH J9;have H5:=zH c5;clear h0 h4 J9 c5;go_wp2_with fail
    refine(HIS.out s _ _ _ _ hseq hi HS.out).mono ?_;rintro r w2 ⟨rfl,hb2⟩;rw[L6.out];have d5:=(HS.out.old hb2).c5;have HM:=zH (And.intro (HS.out.old hb2) hb2);have J9:=H4.out;clear hb2;cases full
    ·go_wp2_with fail
     go_meet
     exact⟨rfl,HM⟩
    ·go_wp2_with fail
     go_meet
     exact⟨rfl,HM⟩
   ·have J9:((dC.length:Int)==4)=false:=by rw[beq_eq_false_iff_ne];omega
    have hst:full=false:=by rw[<-XW.out,L6.out];simp[h0,h4]
    subst hst;have H4:=zH J9;have H5:=zH c5;clear h0 h4 J9 c5;go_wp2_with fail
    refine(HIS.out s _ _ _ _ hseq hi HS.out).mono ?_;rintro r w2 ⟨rfl,hb2⟩;rw[L6.out];have d5:=(HS.out.old hb2).c5;have HM:=zH (And.intro (HS.out.old hb2) hb2);have J9:=H4.out;clear hb2;cases bi
    ·go_wp2_with fail
     go_meet
     exact⟨rfl,HM⟩
    ·go_wp2_with fail
     go_meet
     exact⟨rfl,HM⟩
 case rest=>
 obtain⟨rfl,HM⟩:=hcut;clear HS c3 c5
 have g1:bn L s (if s.err=0/\eQ L s mV=true/\dC.length=4 then aW L 2 s else s):=by
  split
  ·exact bn.fail _ hi
  ·exact bn.refl hi
 have g2:=g1.trans (bn.need he mV g1.ok);have g3:=g2.trans (bn.need he [40] g2.ok);obtain⟨s1,hs1⟩:∃z,(if s.err=0/\eQ L s mV=true/\dC.length=4 then aW L 2 s else s)=z:=⟨_,rfl⟩
 have hres:=aK.out;clear aK;rw[hs1]at hres g1 g2 g3;have yx:=zH hs1;have aK:=zH hres;have hg1:=g1.ok;have hg2:=g2.ok;have hg3:=g3.ok;clear hres hs1 g1 g2 g3;go_upto_if 23 with fail
 go_cut[] (fun wx=>Hid (Steps b 98 (.slice A0 dC.length GV::rr) L LA Lc s1 w wx))
 case first=>
  as_aux_lemma=>
  cases full
  case false=>
   have hx:s1=s:=by
    rw[<-yx.out,if_neg];intro h;have:=XW.out;simp[h.1,h.2.1,h.2.2]at this
   subst hx;go_wp2_with fail
   go_meet
   exact zH ⟨HM.out.1,below_grown HM.out.2 _⟩
  case true=>
   have hx:aW L 2 s=s1:=by
    rw[<-yx.out,if_pos];have:=XW.out
    simpa using this
   have HX:=zH hx;clear hx;go_wp2_with fail
   refine(jG.out _ HM.out.1).mono ?_;rintro r w3 ⟨rfl,hs3⟩
   have EZ:Hid (Steps b 98 (.slice A0 dC.length GV::rr) L LA Lc s1 w w3):=zH (by
    rw[<-HX.out]
    exact⟨hs3.st,(below_grown HM.out.2 _).trans hs3.grown⟩)
   clear hs3;go_wp2_with fail
   go_meet
   exact EZ
 case rest=>
 have yh:=hcut;clear hcut HM jG yx XW;go_wp2_with fail
 refine(lX.out s1 _ _ _ _ hseq hg1 yh.out.st).mono ?_;rintro r w2 ⟨rfl,hs2⟩;have lF:=zH (And.intro hs2.st (yh.out.grown.trans hs2.grown));clear hs2 yh;go_wp2_with fail
 refine(lX.out (ay L mV s1) _ _ _ _ hopn hg2 lF.out.1).mono ?_;rintro r w3 ⟨rfl,hs3⟩;have EZ:=zH (And.intro hs3.st (lF.out.2.trans hs3.grown));clear hs3 lF;generalize ay L [40] (ay L mV s1)=s3 at *;have V0:Hid (VD b 98 (.slice A0 dC.length GV::rr) L LA Lc w s3 (.slice none 0 0) [] w3):=zH ⟨EZ.out.1,EZ.out.2,World.ownsRow_nil _ _ _ _⟩;clear EZ;obtain⟨RI,hri⟩:∃z,nX L (L.length+1) [] s3=z:=⟨_,rfl⟩
 have hres:=aK.out;clear aK;rw[hri]at hres;have HRI:=zH hri;have aK:=zH hres;clear hri hres
 go_upto_block 0 with fail
 go_cut[2] (fun v wx=>∃A c,v=.slice A RI.1.length c/\Hid (VD b 98 (.slice A0 dC.length GV::rr) L LA Lc w RI.2 v RI.1 wx))
 case first=>
  as_aux_lemma=>
  have H9:Hid (∀x,gm L x->x.i<=4001):=zH fun x h=>by have:=h.lt;omega
  clear aK;go_wp2_with fail
  go_loopg [2] (L.length+1) (fun gk l wr=>∃(A:Option Addr) (c:Nat) (acc:List bu) (x:PS),l=.slice A acc.length c/\acc.length<=8/\Hid (nX L gk acc x=RI)/\L.length-x.i<gk/\Hid (gm L x)/\Hid (VD b 98 (.slice A0 dC.length GV::rr) L LA Lc w x (.slice A acc.length c) acc wr))
  case atStart=>exact⟨none,0,[],s3,rfl,by simp,HRI,by omega,zH hg3,V0⟩
  case round=>
   clear V0 HRI;obtain⟨A,c,acc,x,rfl,hac,hrec,hlt,vw,HV⟩:=hrel;obtain⟨wo,rfl⟩:∃wo:World,wo=wr:=⟨_,rfl⟩
   obtain⟨k,rfl⟩:∃k,gk=k+1:=⟨gk-1,by omega⟩
   have hrec:=hrec.out;rw[vV]at hrec;have d3:=HV.out.st.c3
   by_cases herr:x.err=0
   case neg=>
    as_aux_lemma=>
    rw[if_pos herr]at hrec;subst hrec;have iQ:((x.err:Int)==0)=false:=by rw[beq_eq_false_iff_ne];omega
    clear herr;go_wp2_with fail
    go_meet
    exact⟨_,_,rfl,HV⟩
   case pos=>
    rw[if_neg (by omega)]at hrec;have iQ:((x.err:Int)==0)=true:=by rw[beq_iff_eq];omega
    have HI:=zH (HITM.out x wo acc.length _ hac vw.out HV.out.st);have g1:=bn.item he vw.out acc.length;have hfull:acc.length=8->(jg L acc.length x).2.err≠0:=fun h=>by rw[h];exact Kt L x
    obtain⟨⟨⟨i0,i1,i2,i3⟩,x2⟩,hit⟩:∃r,jg L acc.length x=r:=⟨_,rfl⟩
    rw[hit]at HI g1 hfull hrec;simp only[bu.cells]at HI g1 hfull hrec;have l7:=zH hrec;have HG1:=zH g1;have NV:=zH hfull;clear hrec g1 hfull hit herr;go_wp2_with fail
    refine HI.out.mono ?_;rintro r w4 ⟨rfl,hs4⟩;have V4:VD b 98 (.slice A0 dC.length GV::rr) L LA Lc w x2 (.slice A acc.length c) acc w4:=⟨hs4.st,HV.out.gw.trans hs4.grown,fP HV.out.own hs4.grown hbl⟩
    have hsz:=V4.gw.size;have kK:w.heap.size<=(w4.alloc (.cells #[.int .i64 i0,.string (bytes i1),.string (bytes i2),.int .i64 i3] 126)).heap.size:=by simp;omega
    have gZ:=zH V4;have bz:=V4.own.alloc (.cells #[.int .i64 i0,.string (bytes i1),.string (bytes i2),.int .i64 i3] 126);clear hs4 HV V4 HI d3;go_wp2_with (first|(refine zq rfl _ rfl rfl ?_)|at_builtin;(refine az (by rfl) _ _ 112 (by rfl) w.heap.size 126 iT _ 4 48 Try.underlying112 hT hT0 hT1 hT2 rfl (by decide) (.slice A acc.length c) acc.length _ (by rfl) bz (w4.heap.size+1) (some ⟨w4.heap.size,0,none⟩) 1 1 [.int .i64 i0,.string (bytes i1),.string (bytes i2),.int .i64 i3] (by rfl) (Rd.lit rfl _ _) (by rfl) ?c2 ?c3 ?c4 kK ?_))
    case c2=>intro u hu;simp at hu;rcases hu with rfl|rfl|rfl|rfl<;>rfl
    case c3=>unfold maxLen;omega
    case c4=>omega
    intro A6 c6 w6 hown6 iy _;have hgA:w.grownBy (w4.alloc (.cells #[.int .i64 i0,.string (bytes i1),.string (bytes i2),.int .i64 i3] 126)) (some b):=Hq gZ.out.gw _;have Y1:=EX hgA bz iy
    have uk:di b 98 (.slice A0 dC.length GV::rr) L LA Lc x2 w6:=by
     have h5:=gZ.out.st.old (zR.alloc zL (.cells #[.int .i64 i0,.string (bytes i1),.string (bytes i2),.int .i64 i3] 126))
     have hne:some b≠(Value.slice A acc.length c).ownBlock:=by
      intro he;have:=(bz.lt b he.symm).1;omega
     exact⟨h5.bk.grown iy hne,h5.rd.below (iY zR bz (by omega) iy (by omega))⟩
    have AX:(acc++[(⟨i0,i1,i2,i3⟩:bu)]).length=acc.length+1:=by simp
    have V6:VD b 98 (.slice A0 dC.length GV::rr) L LA Lc w x2 (.slice A6 (acc.length+1) c6) (acc++[(⟨i0,i1,i2,i3⟩:bu)]) w6:=⟨uk,Y1,by rw[AX,List.flatMap_append,Y0];exact hown6⟩
    have dS:=zH V6;have d3:=uk.c3;clear hown6 iy hgA Y1 uk bz kK gZ V6
    by_cases he2:x2.err=0
    case neg=>
     as_aux_lemma=>
     have h2I:((x2.err:Int) !=0)=true:=by rw[bne_iff_ne];omega
     have hR:=l7.out;rw[if_pos (.inl he2)]at hR;subst hR;clear he2 NV l7;go_wp2_with fail
     go_meet
     exact⟨A6,c6,by rw[AX],dS⟩
    case pos=>
     have h2I:((x2.err:Int) !=0)=false:=by rw[bne_eq_false_iff_eq];omega
     have hle:acc.length+1<=8:=by
      rcases Nat.lt_or_ge acc.length 8 with h|h
      ·exact h
      ·exact absurd he2 (NV.out (by omega))
     have Ku:=zH HG1.out.ok;have hxi:=HG1.out.le;have hR:=l7.out;obtain⟨bi,hbi⟩:∃z,eQ L x2 [44]=z:=⟨_,rfl⟩
     rw[hbi]at hR;have L6:=zH hbi;have uj:=zH hR;have HE2:=zH he2;clear l7 hR hbi HG1 NV he2;go_wp2_with fail
     refine(HIS.out x2 _ _ _ _ hcom Ku.out dS.out.st).mono ?_;rintro r w7 ⟨rfl,hb7⟩;have V7:VD b 98 (.slice A0 dC.length GV::rr) L LA Lc w x2 (.slice A6 (acc.length+1) c6) (acc++[(⟨i0,i1,i2,i3⟩:bu)]) w7:=⟨dS.out.st.old hb7,dS.out.gw.trans (below_grown hb7 _),aP dS.out.own hb7⟩
     have vz:=zH V7;rw[L6.out];cases bi
     case false=>
      as_aux_lemma=>
      have hR:=uj.out;rw[if_pos (.inr rfl)]at hR;subst hR;clear hb7 V7 dS d3 uj;go_wp2_with fail
      go_meet
      exact⟨A6,c6,by rw[AX],vz⟩
     case true=>
      as_aux_lemma=>
      have hR:=uj.out;rw[if_neg (by simp[HE2.out])]at hR;have HR:=zH hR;have gn:=bn.next he Ku.out (bG L6.out);have Kv:=zH gn.ok;have hi2:=H9.out x2 Ku.out;have e1:=V7.st.c1;have f1:=V7.st.fr 1;have hn:=step_next b _ _ L LA Lc x2 w7 V7.st;have V8:VD b 98 (.slice A0 dC.length GV::rr) L LA Lc w (aO x2) (.slice A6 (acc.length+1) c6) (acc++[(⟨i0,i1,i2,i3⟩:bu)]) (w7.setCell ⟨b,1,none⟩ (.int .i64 ((x2.i:Int)+1))):=⟨hn.st,V7.gw.trans hn.grown,fP V7.own hn.grown hbl⟩
      have qH:=zH V8;have hx8:(aO x2).i=x2.i+1:=rfl;have hxl:=vw.out.lt;clear hb7 V7 V8 dS vz d3 uj hn gn hR;go_wp2
      go_roundg k
      case measure=>omega
      case rel=>exact⟨A6,c6,acc++[(⟨i0,i1,i2,i3⟩:bu)],aO x2,by rw[AX],by rw[AX];exact hle,HR,by rw[hx8];omega,Kv,by rw[AX];exact qH⟩
 case rest=>
 obtain⟨A,c,rfl,HV⟩:=hcut;have hgI:bn L s3 RI.2:=by rw[<-HRI.out];exact zo he _ _ _ hg3
 have hgi:=hgI.ok;clear V0 HRI hgI;obtain⟨l,s4⟩:=RI;simp only at HV hgi aK;go_wp2_with fail
 refine(lX.out s4 _ _ _ _ hcls hgi HV.out.st).mono ?_;rintro r w5 ⟨rfl,hs5⟩;have HV5:=zH (And.intro hs5.st (And.intro (HV.out.gw.trans hs5.grown) (fP HV.out.own hs5.grown hbl)));have hbr5:=QZ.out.grown HV5.out.2.1 hbB;obtain⟨vs,hvs,hits⟩:=hbr5;have HITS:=zH hits;clear hs5 HV hits;have c5:=HV5.out.1.c5;have hsz:=HV5.out.2.1.size;have kK:B<=(w5.alloc (.cells #[.slice A l.length c] 112)).heap.size:=by simp;omega
 have bz:=hvs.alloc (.cells #[.slice A l.length c] 112);have HOWN:=zH hvs;clear hvs;go_wp2_with (first|at_builtin;(refine az (by rfl) _ _ 77 (by rfl) B 112 jT _ 1 24 Try.underlying77 kT kT0 kT1 kT2 rfl (by decide) (.slice A0 dC.length GV) dC.length _ (by rfl) bz (w5.heap.size+1) (some ⟨w5.heap.size,0,none⟩) 1 1 [.slice A l.length c] (by rfl) (Rd.lit rfl _ _) (by rfl) ?c2 ?c3 ?c4 kK ?_))
 case c2=>intro u hu;simp at hu;subst hu;rfl
 case c3=>unfold maxLen;omega
 case c4=>omega
 intro A6 c6 w6 hown6 iy _;have fV:Below w5.heap.size w5 (w5.alloc (.cells #[.slice A l.length c] 112)):=zR.alloc zL _
 have hne:some b≠(Value.slice A0 dC.length GV).ownBlock:=by
  intro he;have:=(bz.lt b he.symm).1;omega
 have hb1:Below b w w5:=pW HV5.out.2.1 (by omega);have hb2:Below b w (w5.alloc (.cells #[.slice A l.length c] 112)):=hb1.trans (fV.mono (by omega));have hb3:Below b w w6:=iY hb2 bz (by omega) iy (by omega)
 have uk:di b 98 (.slice A0 dC.length GV::rr) L LA Lc (ay L [41] s4) w6:=by
  have h5:=HV5.out.1.old fV;exact⟨h5.bk.grown iy hne,h5.rd.below (iY zR bz (by omega) iy (by have:=h5.bk.lt;omega))⟩
 have hall:oz B w6 (vs++[.slice A l.length c]) (dC++[l]):=by
  refine oz.app (HITS.out.keep fun v n xs h=>?_) ⟨?_,trivial⟩
  ·exact dB (aP h fV) bz (by decide) iy
  ·exact dB (dF (aP HV5.out.2.2 fV) hBw) bz (by decide) iy
 have d5:=uk.c5;have f5:=uk.fr 5;have Y2:=uk.set5 (.slice A6 (dC.length+1) c6);have Qr:w6.grownBy (w6.setCell ⟨b,5,none⟩ (.slice A6 (dC.length+1) c6)) (some b):=aY (World.grownBy.refl _ _);have hb7:Below b w (w6.setCell ⟨b,5,none⟩ (.slice A6 (dC.length+1) c6)):=hb3.setCell (Nat.le_refl b) _;have Y3:jK B (w6.setCell ⟨b,5,none⟩ (.slice A6 (dC.length+1) c6)) (.slice A6 (dC.length+1) c6) (dC++[l]):=jK.grown ⟨vs++[.slice A l.length c],by simpa using hown6,hall⟩ Qr hbB;have H7:=zH (And.intro Y2 (And.intro hb7 Y3));clear hall Y2 Qr hb7 Y3 uk hb3 hb2 hb1 hown6 iy bz kK fV c5 HITS HOWN HV5 hne;go_wp2
 first|go_end0|refine bodyPost_end (v:=.tuple #[]) (by simp[results,Try.results38,go_sem]) rfl ?_
 have hR:=aK.out;subst hR;exact⟨rfl,H7.out.2.1,_,H7.out.1,H7.out.2.2⟩
end
end Go.Proofs.Ytbjnhllkdilpfaa
