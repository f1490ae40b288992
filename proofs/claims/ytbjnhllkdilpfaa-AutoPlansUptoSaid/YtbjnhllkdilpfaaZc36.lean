/- Part 36 of the proof. No conditions. -/
import Derived.Test.YtbjnhllkdilpfaaZc31
import Derived.Test.YtbjnhllkdilpfaaZc26
namespace Go.Proofs.Ytbjnhllkdilpfaa
open Go.RowKit
set_option maxRecDepth 100000
set_option maxHeartbeats 16000000
set_option linter.unusedVariables false
set_option linter.unusedSimpArgs false
def Bj (b j:Nat):Nat:=if b=4\/j=1 then b+1 else if b=8 then 1 else b
def mX (b j:Nat) (a:Nat×Nat×Nat):Nat×Nat:=if aW a.1<Bj b j then(a.2.1+2,a.2.2+1)else(a.2.1,a.2.2)
def mi (b:Nat):Nat->List (Nat×Nat×Nat)->List (Nat×Nat)
 |_,[]=>[]
 |j,a::l=>mX b j a::mi b (j+1) l
theorem sH (b:Nat):∀(l:List (Nat×Nat×Nat)) (j:Nat),(mi b j l).length=l.length
 |[],j=>rfl
 |a::l,j=>by simp[mi,sH b l (j+1)]
theorem DW (b:Nat):∀(l:List (Nat×Nat×Nat)) (i j:Nat) (h:j<l.length),(mi b i l)[j]'(by rw[sH];exact h)=mX b (i+j) l[j]
 |a::l,i,0,h=>rfl
 |a::l,i,j+1,h=>by
  have:=DW b l (i+1) j (by simpa using h)
  show(mi b (i+1) l)[j]'_=_
  rw[this,show i+1+j=i+(j+1) by omega];rfl
structure zA8 (w:World) (A:Option Addr) (j:Nat) (a:Nat×Nat×Nat):Prop where
 ex:∃(g:Nat) (d1 d2 d3 d4 d5 d6:Value),A=some ⟨g,0,none⟩/\g<w.heap.size/\(∀(q:Nat) (u:Value),[.int .i64 a.1,d1,d2,d3,d4,d5,d6][q]? =some u->w.cell? ⟨g,j*7+q,none⟩=some u)/\
  ∀W:World,Below w.heap.size w W->Calls Try.prog 63 #[.agg #[.int .i64 a.1,d1,d2,d3,d4,d5,d6]] W fun r W'=>∃S:ByteArray,r=.returned (.tuple #[.string S,.int .i64 a.2.2])/\S.size=a.2.1/\Below W.heap.size W W'
def uP (r:Nat×Nat) (w:World) (e:Ending) (w':World):Prop:=∃S:ByteArray,e=.returned (.tuple #[.string S,.int .i64 (r.2:Nat)])/\S.size=r.1/\Below w.heap.size w w'
def Bl (l:List (Nat×Nat)):Nat:=l.foldl (fun m a=>max m a.2) 0
def textF (op:Nat) (ps:List (Nat×Nat)):Nat×Nat:=
 match ps with
 |[p]=>(p.1+(if op=6 then 1 else if op=15 then 4 else if op=16 then 6 else 7),p.2+1)
 |[p,q]=>(p.1+1+((dB (aW op)).1.getD (op-(dB (aW op)).2) []).length+1+q.1,max p.2 q.2)
 |_=>(0,0)
def Su (op k:Nat):Prop:=(k=1/\(op=6\/(15<=op/\op<=17)))\/(k=2/\1<=op/\op<=14/\op≠6)
theorem MW {α:Type} {l:List α} (h:l.length=2):∃a b,l=[a,b]:=by
 match l,h with
 |[a,b],_=>exact⟨a,b,rfl⟩
structure TxI (bx n:Nat) (w0:World) (A:Option Addr) (c:Nat) (Ss:List ByteArray) (W:World):Prop where
 hb:Below w0.heap.size w0 W
 own:W.ownsRow w0.heap.size 9 1 (.slice A n c) n (Ss.map .string)
theorem TxI.old {bx n c:Nat} {w0 W W':World} {A:Option Addr} {Ss:List ByteArray} (h:TxI bx n w0 A c Ss W) (hb:Below W.heap.size W W'):TxI bx n w0 A c Ss W':=⟨h.hb.trans (hb.mono h.hb.size),aQ h.own hb⟩
theorem DX (op p : Nat) (c2 c3 c4 c5 : Value) (A0 : Option Addr) (k cc : Nat) (al : List (Nat × Nat × Nat)) (hk : al.length = k) (hop : Su op k) (hs : ∀ a ∈ al, a.2.1 ≤ 1000000 ∧ a.2.2 ≤ 1000000) (w : World) (hcall : ∀ j (hj : j < al.length), zA8 w A0 j al[j]) :
  Calls Try.prog 63 #[.agg #[.int .i64 op,.slice A0 k cc,c2,c3,c4,c5,.int .i64 p]] w (uP (textF op (mi (aW op) 0 al)) w):=by
 have HC:=zH hcall;have HKK:=zH hk;have HS:=zH hs;have QR:=zH hop;obtain⟨iS,hiS,hS0,hS1,hS2⟩:=info_parts MM;have qm:Hid (∀(o:Nat) (W:World),Calls Try.prog 82 #[.int .i64 o] W fun e w'=>e=.returned (.int .i64 (aW o:Nat))/\w'=W):=zH fun o W=>DU o W
 have hk2:k<=2:=by rcases hop with h|h<;>omega
 have hk1:1<=k:=by rcases hop with h|h<;>omega
 have hb8:aW op<=8:=by unfold aW;(repeat' split)<;>omega
 obtain⟨b,hbb⟩:∃z,aW op=z:=⟨_,rfl⟩
 have HBB:=zH hbb;rw[hbb]at hb8;obtain⟨ps,hps⟩:∃z,mi b 0 al=z:=⟨_,rfl⟩
 have LZ:=zH hps;rw[hbb,hps];clear hcall hk hs hop hbb hps;unfold uP
 go_enter Try.func63,Try.ntmps63
 have kb:=Bk.new w 118 #[.int .i64 op,.slice A0 k cc,c2,c3,c4,c5,.int .i64 p];have hb0:Below w.heap.size w (w.alloc (.cells #[.int .i64 op,.slice A0 k cc,c2,c3,c4,c5,.int .i64 p] 118)):=zR.alloc zL _;go_upto_region 1 with fail
 generalize w.alloc (.cells #[.int .i64 op,.slice A0 k cc,c2,c3,c4,c5,.int .i64 p] 118)=w0 at *;have hbx:=kb.lt;generalize eU:w.heap.size=bx at *;have q0:=kb.cell 0;have q1:=kb.cell 1;have HKB:=zH kb;have HB0:=zH hb0;have jw:=zH eU;clear kb hb0 eU;go_wp2_with fail
 refine(qm.out op _).mono ?_;rintro r w1 ⟨rfl,hw1⟩;obtain rfl:w0=w1:=hw1.symm;rw[HBB.out];go_wp2_with fail
 clear q0 q1
 go_loopw[5,6,19] (fun l m i wr=>∃(j:Nat) (A:Option Addr) (c dd:Nat) (Ss:List ByteArray),j<=k/\l=.slice A j c/\m=.int .i64 dd/\i=.int .i64 j/\dd<=1000001/\Hid (Ss.map ByteArray.size=(ps.take j).map (·.1)/\Bl (ps.take j)=dd)/\Hid (TxI bx j w0 A c Ss wr)) (fun _ _ i _=>k-(intOf i).toNat)
 case atStart=>exact⟨0,none,0,0,[],Nat.zero_le _,rfl,rfl,rfl,by omega,zH ⟨rfl,rfl⟩,zH ⟨Below.refl _ _,World.ownsRow_nil _ _ _ _⟩⟩
 case round=>
  obtain⟨j,A,c,dd,Ss,hj,rfl,rfl,rfl,hdd,HR,HV⟩:=hrel;obtain⟨wo,rfl⟩:∃wo:World,wo=wr:=⟨_,rfl⟩
  by_cases hlt:j<k
  ·as_aux_lemma=>
   have hjl:j<al.length:=by rw[HKK.out];exact hlt
   obtain⟨g,d1,d2,d3,d4,d5,d6,rfl,hg,hc,hq⟩:=(HC.out j hjl).ex;have hsz:=HS.out al[j] (List.getElem_mem hjl)
   have Xj:ps[j]? =some (mX b j al[j]):=by
    have h1:j<ps.length:=by rw[<-LZ.out,sH];exact hjl
    rw[List.getElem?_eq_getElem h1]
    congr 1
    have:=DW b al 0 j hjl;rw[Nat.zero_add]at this;simp only[LZ.out]at this;exact this
   have lF:Below w.heap.size w wo:=by
    rw[jw.out];exact HB0.out.trans (HV.out.hb.mono (by have:=HB0.out.size;have:=jw.out;omega))
   obtain⟨⟨oj,lj,dj⟩,haj⟩:∃z,al[j]=z:=⟨_,rfl⟩
   rw[haj]at hc hq hsz Xj;simp only at hc hq hsz;have q1:=(HKB.out.old HV.out.hb).cell 1;have hcc:∀(q:Nat) (u:Value),[.int .i64 oj,d1,d2,d3,d4,d5,d6][q]? =some u->wo.cell? ⟨g,j*7+q,none⟩=some u:=fun q u h=>(aT lF g _ hg).trans (hc q u h)
   have r0:wo.cell? ⟨g,j*7,none⟩=some (.int .i64 oj):=hcc 0 _ rfl;have r1:wo.cell? ⟨g,j*7+1,none⟩=some d1:=hcc 1 _ rfl;have r2:wo.cell? ⟨g,j*7+2,none⟩=some d2:=hcc 2 _ rfl;have r3:wo.cell? ⟨g,j*7+3,none⟩=some d3:=hcc 3 _ rfl;have r4:wo.cell? ⟨g,j*7+4,none⟩=some d4:=hcc 4 _ rfl;have r5:wo.cell? ⟨g,j*7+5,none⟩=some d5:=hcc 5 _ rfl;have r6:wo.cell? ⟨g,j*7+6,none⟩=some d6:=hcc 6 _ rfl;have HQ:=zH (hq wo lF);have HPJ:=zH Xj;have HGB:=zH (And.intro hg lF);have hl1:=hsz.1;have hd1:=hsz.2;clear hc hq hcc Xj hsz haj lF hg hjl HC HKK HS;go_wp2_with fail
   refine HQ.out.mono ?_;rintro r w2 ⟨S,rfl,hS,hb2⟩;have iy:=zH (HV.out.old hb2);have q1:=(HKB.out.old iy.out.hb).cell 1;have r0:=(aT hb2 g _ (Nat.lt_of_lt_of_le HGB.out.1 HGB.out.2.size)).trans r0;have HSZ:=zH hS;clear HQ hb2 r1 r2 r3 r4 r5 r6 HV hS;obtain⟨b0,hb0'⟩:∃z,(if b=8 then 1 else b:Nat)=z:=⟨_,rfl⟩
   have Zf:=zH hb0';clear hb0';go_upto_if 33 with fail
   go_cut[10] (fun v wx=>v=.int .i64 b0/\w2=wx)
   case first=>
    as_aux_lemma=>
    by_cases h8:b=8
    ·have h8I:((b:Int)==8)=true:=by rw[beq_iff_eq];omega
     have h1:b0=1:=by rw[<-Zf.out,if_pos h8]
     subst h1;clear h8;go_wp2_with fail
     go_meet
     exact⟨rfl,rfl⟩
    ·have h8I:((b:Int)==8)=false:=zB (by omega)
     have h1:b0=b:=by rw[<-Zf.out,if_neg h8]
     subst h1;clear h8;go_wp2_with fail
     go_meet
     exact⟨rfl,rfl⟩
   case rest=>
   obtain⟨rfl,hwc⟩:=hcut;subst hwc;obtain⟨up,hup⟩:∃z,(decide (b=4)||decide (j=1))=z:=⟨_,rfl⟩
   have Iq:=zH hup;clear hup;go_upto_region 11 with fail
   go_cut[39] (fun v wx=>v=.bool up/\w2=wx)
   case first=>
    as_aux_lemma=>
    by_cases h4:b=4
    ·have Pm:((b:Int)==4)=true:=by rw[beq_iff_eq];omega
     have hu:up=true:=by rw[<-Iq.out];simp[h4]
     subst hu;clear h4;go_wp2_with fail
     go_meet
     exact⟨rfl,rfl⟩
    ·have Pm:((b:Int)==4)=false:=zB (by omega)
     have hu:((j:Int)==1)=up:=by
      rw[<-Iq.out,Bool.eq_iff_iff,beq_iff_eq];simp[h4];omega
     clear h4;cases up
     all_goals
      go_wp2_with fail
      go_meet
      exact⟨rfl,rfl⟩
   case rest=>
   obtain⟨rfl,hwc⟩:=hcut;subst hwc;obtain⟨lst,Zg⟩:∃z,Bj b j=z:=⟨_,rfl⟩
   have hls:lst<=9:=by
    rw[<-Zg];unfold Bj
    (repeat' split)<;>omega
   have Zh:=zH Zg;clear Zg;go_upto_if 39 with fail
   go_cut[10] (fun v wx=>v=.int .i64 lst/\w2=wx)
   case first=>
    as_aux_lemma=>
    cases up
    ·have hl:lst=b0:=by
      have hu:¬(b=4\/j=1):=by
       have:=Iq.out;simp at this;omega
      rw[<-Zh.out];unfold Bj;rw[if_neg hu];exact Zf.out
     subst hl;go_wp2_with fail
     go_meet
     exact⟨rfl,rfl⟩
    ·have hl:lst=b+1:=by
      have hu:b=4\/j=1:=by
       have:=Iq.out
       simpa using this
      rw[<-Zh.out];unfold Bj;rw[if_pos hu]
     subst hl;go_wp2_with fail
     go_meet
     exact⟨by go_num,rfl⟩
   case rest=>
   obtain⟨rfl,hwc⟩:=hcut;subst hwc;go_wp2_with fail
   refine(qm.out oj w2).mono ?_;rintro r w3 ⟨rfl,hw3⟩;obtain rfl:w2=w3:=hw3.symm;obtain⟨lo,hlo⟩:∃z,aW oj=z:=⟨_,rfl⟩
   rw[hlo];obtain⟨pj,Xj⟩:∃z,mX b j (oj,lj,dj)=z:=⟨_,rfl⟩
   have Zi:pj=if lo<lst then(lj+2,dj+1)else(lj,dj):=by
    rw[<-Xj,<-hlo,<-Zh.out];rfl
   have hpd:pj.2<=1000001:=by
    rw[Zi]
    split
    ·show dj+1<=_;omega
    ·show dj<=_;omega
   have HPP:=zH Zi;have VQ:Hid (ps[j]? =some pj):=zH (by rw[<-Xj];exact HPJ.out);clear hlo Xj Zi HPJ;go_upto_if 50 with fail
   go_cut[8,9] (fun v8 v9 wx=>∃S:ByteArray,v8=.string S/\v9=.int .i64 pj.2/\Hid (S.size=pj.1)/\w2=wx)
   case first=>
    as_aux_lemma=>
    by_cases hlt2:lo<lst
    ·have hI:(lo:Int)<(lst:Int):=by omega
     have hp:=HPP.out;rw[if_pos hlt2]at hp;subst hp;have hsz:=HSZ.out;have hs1:¬9223372036854775807<1+S.size:=by omega
     have hs2:¬9223372036854775807<((⟨#[40]⟩:ByteArray)++S).size+1:=by rw[aj];show¬9223372036854775807<1+S.size+1;omega
     have hs3:¬9223372036854775807<1+S.size+1:=by omega
     have HZ:Hid ((((⟨#[40]⟩:ByteArray)++S)++(⟨#[41]⟩:ByteArray)).size=lj+2):=zH (by rw[aj,aj];show 1+S.size+1=_;omega);clear hlt2 HPP hsz;go_wp2_with fail
     go_meet
     exact⟨_,rfl,by go_num,HZ,rfl⟩
    ·have hI:¬(lo:Int)<(lst:Int):=by omega
     have hp:=HPP.out;rw[if_neg hlt2]at hp;subst hp;clear hlt2 HPP;go_wp2_with fail
     go_meet
     exact⟨_,rfl,rfl,HSZ,rfl⟩
   case rest=>
   obtain⟨S',rfl,rfl,HZ,hwc⟩:=hcut;subst hwc;clear HPP HSZ r0;obtain⟨pl,pd⟩:=pj;simp only at hpd HZ VQ⊢;have hb3:=iy.out.hb.size;have oU:w0.heap.size<=(w2.alloc (.cells #[.string S'] 9)).heap.size:=by simp;omega
   have dD:=iy.out.own.alloc (.cells #[.string S'] 9);have hj2:j<=2:=by omega
   clear q1;go_wp2_with (first|at_builtin;(refine aH (by rfl) _ _ 59 (by rfl) w0.heap.size 9 iS _ 1 16 Try.underlying59 hiS hS0 hS1 hS2 rfl (by decide) (.slice A j c) j _ (by rfl) dD (w2.heap.size+1) (some ⟨w2.heap.size,0,none⟩) 1 1 [.string S'] (by rfl) (Rd.lit rfl _ _) (by rfl) ?c2 ?c3 ?c4 oU ?_))
   case c2=>intro u hu;simp at hu;subst hu;rfl
   case c3=>unfold maxLen;omega
   case c4=>omega
   intro A6 c6 w6 hown6 jK _;have hb6:Below w0.heap.size w0 w6:=dY (iy.out.hb.alloc hb3 _) dD zL jK oU;have fM:Hid (TxI bx (j+1) w0 A6 c6 (Ss++[S']) w6):=zH ⟨hb6,by rw[List.map_append];exact hown6⟩
   have HRR:Hid ((Ss++[S']).map ByteArray.size=(ps.take (j+1)).map (·.1)/\Bl (ps.take (j+1))=max dd pd):=zH (by
    have hl:j<ps.length:=(List.getElem?_eq_some_iff.1 VQ.out).1;have he:ps[j]=(pl,pd):=(List.getElem?_eq_some_iff.1 VQ.out).2;rw[List.take_succ_eq_append_getElem hl,he];refine⟨by rw[List.map_append,List.map_append,HR.out.1];simp[HZ.out],?_⟩;unfold Bl;rw[List.foldl_append];have:=HR.out.2;unfold Bl at this;rw[this]
    rfl)
   have hmx:max dd pd<=1000001:=by omega
   clear hown6 jK hb6 dD oU iy HR HZ VQ HGB
   by_cases hm:dd<pd
   ·have NY:(dd:Int)<(pd:Int):=by omega
    have hmm:max dd pd=pd:=by omega
    rw[hmm]at HRR hmx;clear hm hmm;go_wp2
    go_roundw
    case rel=>exact⟨j+1,A6,c6,pd,Ss++[S'],by omega,rfl,rfl,by go_num,hmx,HRR,fM⟩
    case measure=>simp[intOf];omega
   ·have NY:¬(dd:Int)<(pd:Int):=by omega
    have hmm:max dd pd=dd:=by omega
    rw[hmm]at HRR hmx;clear hm hmm;go_wp2
    go_roundw
    case rel=>exact⟨j+1,A6,c6,dd,Ss++[S'],by omega,rfl,rfl,by go_num,hmx,HRR,fM⟩
    case measure=>simp[intOf];omega
  ·obtain rfl:j=k:=by omega
   have hps:ps.length=j:=by rw[<-LZ.out,sH];exact HKK.out
   have hlen:Ss.length=j:=by
    have h1:=congrArg List.length HR.out.1;rw[List.length_map,List.length_map,List.take_of_length_le (by omega)]at h1;omega
   have VR:Ss.map ByteArray.size=ps.map (·.1):=by
    have h1:=HR.out.1
    rwa [List.take_of_length_le (by omega)]at h1
   have hdp:Bl ps=dd:=by
    have h1:=HR.out.2
    rwa [List.take_of_length_le (by omega)]at h1
   have hbig:∀q∈ps,q.1<=1000002:=by
    rw[<-LZ.out]
    have key:∀(l:List (Nat×Nat×Nat)) (i:Nat),(∀a∈l,a.2.1<=1000000/\a.2.2<=1000000)->∀q∈mi b i l,q.1<=1000002:=by
     intro l
     induction l with
     |nil=>intro i _ q hq;simp[mi]at hq
     |cons a l ih=>
      intro i h q hq;rcases List.mem_cons.1 hq with rfl|hq
      ·have:=h a (by simp);unfold mX
       split<;>simp<;>omega
      ·exact ih _ (fun a ha=>h a (by simp[ha])) q hq
    exact key al 0 HS.out
   have hrd:=dG HV.out.own
   have HF:Hid (Below w.heap.size w wo):=zH (by
    rw[jw.out]
    exact HB0.out.trans (HV.out.hb.mono (by have:=HB0.out.size;have:=jw.out;omega)))
   have q0:=(HKB.out.old HV.out.hb).cell 0;clear HC HKK HS LZ HR;rcases QR.out with⟨rfl,ho⟩|⟨rfl,ho⟩
   ·as_aux_lemma=>
    obtain⟨T,rfl⟩:=List.length_eq_one_iff.1 hlen;obtain⟨⟨l0,e0⟩,rfl⟩:=List.length_eq_one_iff.1 hps;have hT:T.size=l0:=by simpa using VR
    have hl0:l0<=1000002:=hbig (l0,e0) (by simp);have hde:e0=dd:=by rw[<-hdp];simp[Bl]
    obtain⟨g,o,hA,hg,hc⟩:=hrd.at_ (j:=0) (by simp);subst hA;have t0:wo.cell? ⟨g,o+0,none⟩=some (.string T):=hc 0 _ rfl;have t0':wo.cell? ⟨g,o,none⟩=some (.string T):=t0;have HT:=zH hT;have hTs:T.size<=1000002:=by omega
    subst hde;clear VR hlen hps hbig hrd hdp hc QR hT qm HBB HV;have hc4:op=6\/op=15\/op=16\/op=17:=by omega
    rcases hc4 with rfl|rfl|rfl|rfl
    ·as_aux_lemma=>
     have hs:¬9223372036854775807<1+T.size:=by omega
     clear ho;go_wp2
     go_ret2
     exact⟨_,rfl,by rw[aj];show 1+T.size=l0+1;rw[HT.out];omega,by first|exact HF.out|(rw[<-jw.out];exact HF.out)⟩
    ·as_aux_lemma=>
     have hs:¬9223372036854775807<4+T.size:=by omega
     clear ho;go_wp2
     go_ret2
     exact⟨_,rfl,by rw[aj];show 4+T.size=l0+4;rw[HT.out];omega,by first|exact HF.out|(rw[<-jw.out];exact HF.out)⟩
    ·as_aux_lemma=>
     have hs:¬9223372036854775807<5+T.size:=by omega
     have hs2:¬9223372036854775807<((⟨#[82,69,65,76,40]⟩:ByteArray)++T).size+1:=by rw[aj];show¬9223372036854775807<5+T.size+1;omega
     have hs3:¬9223372036854775807<5+T.size+1:=by omega
     clear ho;go_wp2
     go_ret2
     exact⟨_,rfl,by rw[aj,aj];show 5+T.size+1=l0+6;rw[HT.out];omega,by first|exact HF.out|(rw[<-jw.out];exact HF.out)⟩
    ·as_aux_lemma=>
     have hs:¬9223372036854775807<6+T.size:=by omega
     have hs2:¬9223372036854775807<((⟨#[73,83,78,65,78,40]⟩:ByteArray)++T).size+1:=by rw[aj];show¬9223372036854775807<6+T.size+1;omega
     have hs3:¬9223372036854775807<6+T.size+1:=by omega
     clear ho;go_wp2
     go_ret2
     exact⟨_,rfl,by rw[aj,aj];show 6+T.size+1=l0+7;rw[HT.out];omega,by first|exact HF.out|(rw[<-jw.out];exact HF.out)⟩
   ·as_aux_lemma=>
    obtain⟨T,U,rfl⟩:=MW hlen;obtain⟨⟨l0,e0⟩,⟨l1,e1⟩,rfl⟩:=MW hps;have hT:T.size=l0/\U.size=l1:=by simpa using VR
    have hl0:l0<=1000002:=hbig (l0,e0) (by simp);have hl1:l1<=1000002:=hbig (l1,e1) (by simp);have hde:max e0 e1=dd:=by rw[<-hdp];simp[Bl]
    obtain⟨g,o,hA,hg,hc⟩:=hrd.at_ (j:=0) (by simp);subst hA;have t0:wo.cell? ⟨g,o,none⟩=some (.string T):=hc 0 _ rfl;have t1:wo.cell? ⟨g,o+1,none⟩=some (.string U):=hc 1 _ rfl;have HT:=zH hT;have hTs:T.size<=1000002:=by omega
    have hUs:U.size<=1000002:=by omega
    have HDE:=zH hde
    have hsig:∃ix,op=(dB b).2+ix/\ix<(dB b).1.length:=by
     rw[<-HBB.out];have hc13:op=1\/op=2\/op=3\/op=4\/op=5\/op=7\/op=8\/op=9\/op=10\/op=11\/op=12\/op=13\/op=14:=by omega
     rcases hc13 with rfl|rfl|rfl|rfl|rfl|rfl|rfl|rfl|rfl|rfl|rfl|rfl|rfl<;>
      first|exact⟨0,by decide⟩|exact⟨1,by decide⟩|exact⟨2,by decide⟩|exact⟨3,by decide⟩|exact⟨4,by decide⟩|exact⟨5,by decide⟩
    have hsl:∀x∈(dB b).1,x.length<=3:=by
     match b,hb8 with
     |0,_|1,_|2,_|3,_|4,_|5,_|6,_|7,_|8,_=>decide
    obtain⟨ix,hix,OB⟩:=hsig;have Oa:=zH (DD b hb8 wo);unfold Ez at Oa
    have HTX:Hid (textF op [(l0,e0),(l1,e1)]=(l0+1+((dB b).1.getD ix []).length+1+l1,max e0 e1)):=zH (by
     unfold textF
     rw[HBB.out,show op-(dB b).2=ix by omega])
    have hgl:((dB b).1.getD ix []).length<=3:=by
     rw[List.getD_eq_getElem?_getD,List.getElem?_eq_getElem OB];exact hsl _ (List.getElem_mem OB)
    have hs10:(dB b).1.length<=6:=by
     match b,hb8 with
     |0,_|1,_|2,_|3,_|4,_|5,_|6,_|7,_|8,_=>decide
    have hgg:(dB b).1[ix]? =some ((dB b).1.getD ix []):=by
     rw[List.getD_eq_getElem?_getD,List.getElem?_eq_getElem OB];rfl
    generalize dB b=sp at *;obtain⟨sl,fs⟩:=sp;simp only at hix OB Oa HTX hgl hs10 hgg;have hsub:(op:Int)-(fs:Int)=(ix:Int):=by omega
    clear VR hlen hps hbig hrd hdp hc QR hT qm HBB hsl hix hde ho;go_wp2_with fail
    refine Oa.out.mono ?_;rintro r w4 ⟨As,cs,rfl,hrs,hb4⟩;have hown4:=(HV.out.old hb4)
    have q0:=(HKB.out.old hown4.hb).cell 0
    have t0:=(aT hb4 g _ (by
     have:=hg
     omega)).trans t0
    have t1:=(aT hb4 g _ (by
     have:=hg
     omega)).trans t1
    have nK:=zH (HF.out.trans (hb4.mono HF.out.size));obtain⟨gs,os,hAs,hgs,hcs⟩:=hrs.at_ (j:=ix) (by simpa using OB);subst hAs;have t2:w4.cell? ⟨gs,os+ix,none⟩=some (.string (bytes (sl.getD ix []))):=hcs ix _ (by rw[List.getElem?_map,hgg];rfl);obtain⟨G,hG⟩:∃G,bytes (sl.getD ix [])=G:=⟨_,rfl⟩
    have UO:G.size=(sl.getD ix []).length:=by rw[<-hG,bD]
    rw[hG]at t2;have HGS:=zH UO;have hG3:G.size<=3:=by omega
    have hs1:¬9223372036854775807<T.size+1:=by omega
    have hs2:¬9223372036854775807<(T++(⟨#[32]⟩:ByteArray)).size+G.size:=by rw[aj];show¬9223372036854775807<T.size+1+G.size;omega
    have hs3:¬9223372036854775807<((T++(⟨#[32]⟩:ByteArray))++G).size+1:=by rw[aj,aj];show¬9223372036854775807<T.size+1+G.size+1;omega
    have hs4:¬9223372036854775807<(((T++(⟨#[32]⟩:ByteArray))++G)++(⟨#[32]⟩:ByteArray)).size+U.size:=by rw[aj,aj,aj];show¬9223372036854775807<T.size+1+G.size+1+U.size;omega
    have hs5:¬9223372036854775807<T.size+1+G.size:=by omega
    have hs6:¬9223372036854775807<T.size+1+G.size+1:=by omega
    have hs7:¬9223372036854775807<T.size+1+G.size+1+U.size:=by omega
    have Ze:(ix:Int)<(sl.length:Int):=by omega
    have Zd:IntKind.i64.wrap (ix:Int)=(ix:Int):=by rw[IntKind.wrap_i64];omega
    generalize sl.length=sn at *;clear hG UO hcs hrs hgg hgl hb4 hown4 HV Oa HKB OB;go_upto_region 20 with fail
    go_quiet (fail)
    have HFQ:=zH (nK.out.trans ((below_drewN (Below.refl w4.heap.size w4) nq).mono nK.out.size));go_wp2
    go_ret2
    exact⟨_,by rw[HTX.out,HDE.out];rfl,by rw[HTX.out,aj,aj,aj,aj];show T.size+1+G.size+1+U.size=_;have h1:=HT.out;have h2:=HGS.out;omega,by first|exact HFQ.out|(rw[<-jw.out];exact HFQ.out)⟩
end Go.Proofs.Ytbjnhllkdilpfaa
