/- Part 9 of the proof. No conditions. -/
import Derived.Test.YtbjnhllkdilpfaaZc08
namespace Go.Proofs.Ytbjnhllkdilpfaa
open Go.RowKit
set_option maxRecDepth 100000
set_option maxHeartbeats 16000000
set_option linter.unusedVariables false
set_option linter.unusedSimpArgs false
theorem GL {D:ByteArray} {l:Str} (h:D.toList=l):bytes l=D:=by
 rw[<-h,ByteArray.toList_eq];simp[bytes]
theorem AA (s:ByteArray) (p n:Nat):(s.extract p (p+n)).toList=(s.toList.drop p).take n:=by
 rw[ByteArray.toList_eq,Lib.extract_eq,ByteArray.toList_eq,Nat.add_sub_cancel_left]
theorem QK {w:World} {g:Nat} (h:Bk w g 9 (jb.map fun x=>Value.string (bytes x)).toArray):Rd w w.heap.size (some ⟨g,0,none⟩) (jb.map fun x=>Value.string (bytes x)):=
 .inr ⟨g,0,rfl,h.lt,fun j u hu=>by rw[Nat.zero_add,h.cell j];simpa using hu⟩
theorem Dy (l w:Str) (r:List Str):yE l (w::r)=if l.take w.length=w then some w else yE l r:=rfl
def Eu (o:Option Str):az×Nat:=match o with|some w=>(⟨6,w,0,0,0⟩,w.length)|none=>(oM,0)
theorem one_any (s : ByteArray) (p : Nat) (w : World) (hp : p < s.size) (hs : s.size ≤ 1048576) :
  Calls Try.prog 52 #[.string s,.int .i64 p] w (Dx (tH (s.toList.drop p)) w):=by
 obtain⟨R,hR⟩:∃R,tH (s.toList.drop p)=R:=⟨_,rfl⟩
 obtain⟨l,hl⟩:∃l,s.toList.drop p=l:=⟨_,rfl⟩
 have hll:l.length=s.size-p:=by rw[<-hl,List.length_drop,bC]
 have hcons:l=s[p]::s.toList.drop (p+1):=by rw[<-hl];exact dL s p hp
 have HR:Hid ((if iM s[p].toNat then Gx l else if jH s[p].toNat then numberT l else if s[p]=39 then Qv l else Eu (yE l jb))=R):=zH (by
  rw[<-hR,hl];unfold tH;rw[hcons]
  rfl)
 have GK:Hid (s.toList.drop p=l):=zH hl;have vP:Hid (s.toList.drop (p+1)=l.drop 1):=zH (by rw[hcons];rfl);have hlr:=jW (s[p].toNat:Int);have hdg:=rV (s[p].toNat:Int);obtain⟨b1,h1⟩:∃b,iM s[p].toNat=b:=⟨_,rfl⟩
 obtain⟨b2,h2⟩:∃b,jH s[p].toNat=b:=⟨_,rfl⟩
 obtain⟨b3,h3⟩:∃b,(s[p]==(39:UInt8))=b:=⟨_,rfl⟩
 have h39:((s[p].toNat:Int)==39)=b3:=(vN s[p] 39 (by omega)).trans h3;have HB3:Hid (b3=true<->s[p]=39):=zH (by rw[<-h3];simp);have HB2:Hid (jH s[p].toNat=b2):=zH h2;rw[h1]at hlr;rw[h2]at hdg;rw[h1,h2]at HR;have HLR:=zH hlr;have QD:=zH hdg;have hpI:(p:Int)<(s.size:Int):=by omega
 rw[hR];clear hR hl h1 h2 h3 hlr hdg hcons
 go_enter Try.func52,Try.ntmps52
 have x0:=Bk.new w 102 #[.int .i64 0,.string ⟨#[]⟩,.int .i64 0,.int .i64 0,.int .i64 0];have hb0:Below w.heap.size w (w.alloc (.cells #[.int .i64 0,.string ⟨#[]⟩,.int .i64 0,.int .i64 0,.int .i64 0] 102)):=zR.alloc zL _;go_wp2_with fail
 generalize w.alloc (.cells #[.int .i64 0,.string ⟨#[]⟩,.int .i64 0,.int .i64 0,.int .i64 0] 102)=W at *;refine(HLR.out W).mono ?_;rintro r w2 ⟨rfl,rfl⟩;clear HLR;cases b1
 case true=>
  as_aux_lemma=>
  have HR1:Hid (Gx l=R):=zH HR.out;obtain⟨n,hn⟩:∃n,fK true l=n:=⟨_,rfl⟩
  have hnl:n<=l.length:=by rw[<-hn];exact lK _ _
  obtain⟨q,hq⟩:∃q,p+n=q:=⟨_,rfl⟩
  have hqI:(p:Int)+(n:Int)=(q:Int):=by omega
  have hqsI:(q:Int)<=(s.size:Int):=by omega
  have hpqI:(p:Int)<=(q:Int):=by omega
  obtain⟨D,hD⟩:∃D,s.extract p q=D:=⟨_,rfl⟩
  have hDl:D.toList=l.take n:=by rw[<-hD,<-hq,AA,GK.out]
  have hBD:=GL hDl
  have HM:Hid (∀W:World,Calls Try.prog 75 #[.string s,.int .i64 p,.bool true] W fun e w'=>e=.returned (.int .i64 (n:Nat))/\w'=W):=zH fun W=>by
   have h:=vO s p true W (by omega) hs;rw[GK.out,hn]at h;exact h
  have HWD:Hid (∀W:World,Calls Try.prog 76 #[.string D] W fun e w'=>e=.returned (.bool (ug (l.take n)))/\Below W.heap.size W w'):=zH fun W=>by
   have h:=xJ D W;rw[hDl]at h;exact h
  have tJ:Hid (∀W:World,Calls Try.prog 77 #[.string D] W fun e w'=>e=.returned (.bool (nameB (l.take n)))/\Below W.heap.size W w'):=zH fun W=>by
   have h:=nX D W;rw[hDl]at h;exact h
  have HR2:Hid ((if ug (l.take n)then(⟨1,l.take n,0,0,0⟩,n)else if nameB (l.take n)then(⟨2,l.take n,0,0,0⟩,n)else(oM,0))=R):=zH (by
   rw[<-HR1.out];unfold Gx;simp only[hn])
  have Fz:=zH hBD;clear HR HR1 HB2 HB3 QD h39 hn hDl GK vP hBD;generalize ug (l.take n)=wb at *;generalize nameB (l.take n)=nb at *;go_wp2_with fail
  refine(HM.out _).mono ?_;rintro r w3 ⟨rfl,rfl⟩;go_wp2_with fail
  refine(HWD.out _).mono ?_;rintro r w4 ⟨rfl,hb4⟩;replace hb0:=hb0.trans (hb4.mono hb0.size);replace x0:=x0.old hb4;clear hb4 HWD HM;cases wb
  case true=>
   as_aux_lemma=>
   go_upto_region 6 with fail
   go_wp2_with (first|(refine ae eF rfl _ _ rfl rfl [.int .i64 1,.string D,.int .i64 0,.int .i64 0,.int .i64 0] rfl x0 rfl rfl rfl ?_;intro w9 p9))
   obtain⟨u0,u1,u2,u3,u4⟩:=zc5 p9.bk;have dO:=p9.below _ _ hb0 zL;refine bodyPost_ret (v:=.tuple #[.agg #[.int .i64 1,.string D,.int .i64 0,.int .i64 0,.int .i64 0],.int .i64 ((n:Nat))]) (by simp[results,Try.results52,go_sem,u0,u1,u2,u3,u4]) rfl ?_;exact⟨by rw[<-HR2.out];show _=Ending.returned (.tuple #[.agg #[.int .i64 1,.string (bytes (l.take n)),.int .i64 0,.int .i64 0,.int .i64 0],.int .i64 (n:Nat)]);rw[Fz.out];try rfl,dO⟩
  case false=>
   go_wp2_with fail
   refine(tJ.out _).mono ?_;rintro r w5 ⟨rfl,hb5⟩;replace hb0:=hb0.trans (hb5.mono hb0.size);replace x0:=x0.old hb5;clear hb5 tJ;cases nb
   case true=>
    as_aux_lemma=>
    go_upto_region 8 with fail
    go_wp2_with (first|(refine ae eF rfl _ _ rfl rfl [.int .i64 2,.string D,.int .i64 0,.int .i64 0,.int .i64 0] rfl x0 rfl rfl rfl ?_;intro w9 p9))
    obtain⟨u0,u1,u2,u3,u4⟩:=zc5 p9.bk;have dO:=p9.below _ _ hb0 zL;refine bodyPost_ret (v:=.tuple #[.agg #[.int .i64 2,.string D,.int .i64 0,.int .i64 0,.int .i64 0],.int .i64 ((n:Nat))]) (by simp[results,Try.results52,go_sem,u0,u1,u2,u3,u4]) rfl ?_;exact⟨by rw[<-HR2.out];show _=Ending.returned (.tuple #[.agg #[.int .i64 2,.string (bytes (l.take n)),.int .i64 0,.int .i64 0,.int .i64 0],.int .i64 (n:Nat)]);rw[Fz.out];try rfl,dO⟩
   case false=>
    as_aux_lemma=>
    go_upto_region 9 with fail
    go_wp2_with (first|(refine ae eF rfl _ _ rfl rfl [.int .i64 0,.string ⟨#[]⟩,.int .i64 0,.int .i64 0,.int .i64 0] rfl x0 rfl rfl rfl ?_;intro w9 p9))
    obtain⟨u0,u1,u2,u3,u4⟩:=zc5 p9.bk;have dO:=p9.below _ _ hb0 zL;refine bodyPost_ret (v:=.tuple #[.agg #[.int .i64 0,.string ⟨#[]⟩,.int .i64 0,.int .i64 0,.int .i64 0],.int .i64 (0)]) (by simp[results,Try.results52,go_sem,u0,u1,u2,u3,u4]) rfl ?_;exact⟨by rw[<-HR2.out];rfl,dO⟩
 case false=>
 go_wp2_with fail
 refine(QD.out _).mono ?_;rintro r w3 ⟨rfl,hw3⟩;subst hw3;clear QD;cases b2
 case true=>
  as_aux_lemma=>
  have HN:Hid (∀W:World,Calls Try.prog 79 #[.string s,.int .i64 p] W (Dx (numberT l) W)):=zH fun W=>by
   have h:=JP s p W hp hs HB2.out;rw[GK.out]at h;exact h
  have HR1:Hid (numberT l=R):=zH HR.out;rw[HR1.out]at HN;obtain⟨⟨a0,a1,a2,a3,a4⟩,a5⟩:=R;unfold Dx at HN;clear HR HR1 HB2 HB3 h39 GK vP;go_wp2_with fail
  refine(HN.out _).mono ?_;rintro r w4 ⟨rfl,hb4⟩;replace hb0:=hb0.trans (hb4.mono hb0.size);replace x0:=x0.old hb4;unfold az.val;clear hb4 HN;go_wp2_with (first|(refine ae eF rfl _ _ rfl rfl [.int .i64 a0,.string (bytes a1),.int .i64 a2,.int .i64 a3,.int .i64 a4] rfl x0 rfl rfl rfl ?_;intro w9 p9))
  obtain⟨u0,u1,u2,u3,u4⟩:=zc5 p9.bk;have dO:=p9.below _ _ hb0 zL;refine bodyPost_ret (v:=.tuple #[.agg #[.int .i64 a0,.string (bytes a1),.int .i64 a2,.int .i64 a3,.int .i64 a4],.int .i64 ((a5:Nat))]) (by simp[results,Try.results52,go_sem,u0,u1,u2,u3,u4]) rfl ?_;exact⟨rfl,dO⟩
 case false=>
 cases b3
 case true=>
  as_aux_lemma=>
  have HR1:Hid (Qv l=R):=zH (by rw[<-HR.out];simp only[Bool.false_eq_true,if_false];rw[if_pos (HB3.out.1 rfl)]);obtain⟨n,hn⟩:∃n,fK true (l.drop 1)=n:=⟨_,rfl⟩
  have hnl:n<=l.length-1:=by rw[<-hn];have:=lK true (l.drop 1);rwa [List.length_drop]at this
  obtain⟨q,hq⟩:∃q,p+1+n=q:=⟨_,rfl⟩
  have hqI:(p:Int)+1+(n:Int)=(q:Int):=by omega
  have hqsI:(q:Int)<=(s.size:Int):=by omega
  have hpqI:(p:Int)+1<=(q:Int):=by omega
  obtain⟨D,hD⟩:∃D,s.extract (p+1) q=D:=⟨_,rfl⟩
  have hDl:D.toList=(l.drop 1).take n:=by rw[<-hD,<-hq,AA,vP.out]
  have hBD:=GL hDl
  have HM:Hid (∀W:World,Calls Try.prog 75 #[.string s,.int .i64 ((p:Int)+1),.bool true] W fun e w'=>e=.returned (.int .i64 (n:Nat))/\w'=W):=zH fun W=>by
   have h:=vO s (p+1) true W (by omega) hs;rw[vP.out,hn,show((p+1:Nat):Int)=(p:Int)+1 by omega]at h;exact h
  have tJ:Hid (∀W:World,Calls Try.prog 77 #[.string D] W fun e w'=>e=.returned (.bool (nameB ((l.drop 1).take n)))/\Below W.heap.size W w'):=zH fun W=>by
   have h:=nX D W;rw[hDl]at h;exact h
  obtain⟨b4,hb4⟩:∃b,decide (∃h:q<s.size,s[q]=39)=b:=⟨_,rfl⟩
  have hlq:(l[1+n]? =some 39)<->b4=true:=by
   rw[<-hb4,decide_eq_true_iff,<-GK.out,List.getElem?_drop,show p+(1+n)=q by omega]
   constructor
   ·intro e;obtain⟨h1,h2⟩:=List.getElem?_eq_some_iff.1 e;have hq2:q<s.size:=by rw[<-bC];exact h1
    have h3:=dL s q hq2;have h4:(s.toList.drop q)[0]? =some s[q]:=by rw[h3];rfl
    rw[List.getElem?_drop,Nat.add_zero,e]at h4;injection h4 with h4
    exact⟨hq2,h4.symm⟩
   ·rintro⟨hq2,e⟩;have h3:=dL s q hq2;have h4:(s.toList.drop q)[0]? =some s[q]:=by rw[h3];rfl
    rw[List.getElem?_drop,Nat.add_zero]at h4;rw[h4,e]
  obtain⟨nb,hnb⟩:∃b,nameB ((l.drop 1).take n)=b:=⟨_,rfl⟩
  have HR2:Hid ((if nb=true/\b4=true then(⟨5,(l.drop 1).take n,0,0,0⟩,n+2)else(oM,0))=R):=zH (by
   rw[<-HR1.out];unfold Qv;simp only[hn,hnb,hlq])
  rw[hnb]at tJ;have Fz:=zH hBD;have HB4:=zH hb4;clear HR HR1 HB2 HB3 hn hDl GK vP hBD hlq hb4 hnb;go_wp2_with fail
  refine(HM.out _).mono ?_;rintro r w4 ⟨rfl,rfl⟩;go_wp2_with fail
  refine(tJ.out _).mono ?_;rintro r w5 ⟨rfl,hb5⟩;replace hb0:=hb0.trans (hb5.mono hb0.size);replace x0:=x0.old hb5;clear hb5 tJ HM;cases nb
  case false=>
   as_aux_lemma=>
   go_upto_region 16 with fail
   go_wp2_with (first|(refine ae eF rfl _ _ rfl rfl [.int .i64 0,.string ⟨#[]⟩,.int .i64 0,.int .i64 0,.int .i64 0] rfl x0 rfl rfl rfl ?_;intro w9 p9))
   obtain⟨u0,u1,u2,u3,u4⟩:=zc5 p9.bk;have dO:=p9.below _ _ hb0 zL;refine bodyPost_ret (v:=.tuple #[.agg #[.int .i64 0,.string ⟨#[]⟩,.int .i64 0,.int .i64 0,.int .i64 0],.int .i64 (0)]) (by simp[results,Try.results52,go_sem,u0,u1,u2,u3,u4]) rfl ?_;exact⟨by rw[<-HR2.out];rfl,dO⟩
  case true=>
   by_cases hq2:q<s.size
   ·have Yj:¬(s.size:Int)<=(q:Int):=by omega
    have hq3I:(q:Int)<(s.size:Int):=by omega
    have h46I:((s[q].toNat:Int)==39)=b4:=by
     refine(vN s[q] 39 (by omega)).trans ?_;rw[<-HB4.out,Bool.eq_iff_iff,beq_iff_eq,decide_eq_true_iff];exact⟨fun e=>⟨hq2,e⟩,fun⟨_,e⟩=>e⟩
    have h46N:((s[q].toNat:Int) !=39)= !b4:=by rw[<-h46I];rfl
    cases b4
    ·as_aux_lemma=>
     go_upto_region 16 with fail
     go_wp2_with (first|(refine ae eF rfl _ _ rfl rfl [.int .i64 0,.string ⟨#[]⟩,.int .i64 0,.int .i64 0,.int .i64 0] rfl x0 rfl rfl rfl ?_;intro w9 p9))
     obtain⟨u0,u1,u2,u3,u4⟩:=zc5 p9.bk;have dO:=p9.below _ _ hb0 zL;refine bodyPost_ret (v:=.tuple #[.agg #[.int .i64 0,.string ⟨#[]⟩,.int .i64 0,.int .i64 0,.int .i64 0],.int .i64 (0)]) (by simp[results,Try.results52,go_sem,u0,u1,u2,u3,u4]) rfl ?_;exact⟨by rw[<-HR2.out];rfl,dO⟩
    ·as_aux_lemma=>
     go_upto_region 17 with fail
     go_wp2_with (first|(refine ae eF rfl _ _ rfl rfl [.int .i64 5,.string D,.int .i64 0,.int .i64 0,.int .i64 0] rfl x0 rfl rfl rfl ?_;intro w9 p9))
     obtain⟨u0,u1,u2,u3,u4⟩:=zc5 p9.bk;have dO:=p9.below _ _ hb0 zL;refine bodyPost_ret (v:=.tuple #[.agg #[.int .i64 5,.string D,.int .i64 0,.int .i64 0,.int .i64 0],.int .i64 ((n:Nat)+2)]) (by simp[results,Try.results52,go_sem,u0,u1,u2,u3,u4]) rfl ?_;exact⟨by rw[<-HR2.out];show _=Ending.returned (.tuple #[.agg #[.int .i64 5,.string (bytes ((l.drop 1).take n)),.int .i64 0,.int .i64 0,.int .i64 0],.int .i64 (n+2:Nat)]);rw[Fz.out];try rfl,dO⟩
   ·have Yj:(s.size:Int)<=(q:Int):=by omega
    obtain rfl:b4=false:=by
     rw[<-HB4.out];exact decide_eq_false fun⟨h,_⟩=>hq2 h
    as_aux_lemma=>
    go_upto_region 16 with fail
    go_wp2_with (first|(refine ae eF rfl _ _ rfl rfl [.int .i64 0,.string ⟨#[]⟩,.int .i64 0,.int .i64 0,.int .i64 0] rfl x0 rfl rfl rfl ?_;intro w9 p9))
    obtain⟨u0,u1,u2,u3,u4⟩:=zc5 p9.bk;have dO:=p9.below _ _ hb0 zL;refine bodyPost_ret (v:=.tuple #[.agg #[.int .i64 0,.string ⟨#[]⟩,.int .i64 0,.int .i64 0,.int .i64 0],.int .i64 (0)]) (by simp[results,Try.results52,go_sem,u0,u1,u2,u3,u4]) rfl ?_;exact⟨by rw[<-HR2.out];rfl,dO⟩
 case false=>
 have HR1:Hid (Eu (yE l (jb.drop 0))=R):=zH (by
  rw[List.drop_zero,<-HR.out];simp only[Bool.false_eq_true,if_false]
  rw[if_neg fun e=>by have:=HB3.out.2 e;cases this])
 clear HR HB2 HB3 vP;go_wp2
 have y0:=Bk.new W 9 (jb.map fun x=>Value.string (bytes x)).toArray;have hbY:Below W.heap.size W (W.alloc (.cells (jb.map fun x=>Value.string (bytes x)).toArray 9)):=zR.alloc zL _;have hY:=QK y0;replace hb0:=hb0.trans (hbY.mono hb0.size);replace x0:=x0.old hbY;clear y0;rw[show(#[Value.string ⟨#[33,61]⟩,Value.string ⟨#[60,61]⟩,Value.string ⟨#[62,61]⟩,Value.string ⟨#[40]⟩,Value.string ⟨#[41]⟩,Value.string ⟨#[44]⟩,Value.string ⟨#[46]⟩,Value.string ⟨#[43]⟩,Value.string ⟨#[45]⟩,Value.string ⟨#[42]⟩,Value.string ⟨#[47]⟩,Value.string ⟨#[37]⟩,Value.string ⟨#[61]⟩,Value.string ⟨#[60]⟩,Value.string ⟨#[62]⟩,Value.string ⟨#[33]⟩,Value.string ⟨#[124]⟩]:Array Value)=(jb.map fun x=>Value.string (bytes x)).toArray from rfl];clear hbY
 have HY:Hid (∀k (h:k<jb.length),∃b o,some (⟨W.heap.size,0,none⟩:Addr)=some ⟨b,o,none⟩/\(W.alloc (.cells (jb.map fun x=>Value.string (bytes x)).toArray 9)).cell? ⟨b,o+k,none⟩=some (.string (bytes jb[k]))):=zH fun k h=>by
  obtain⟨b,o,h1,_,h2⟩:=hY.Ls h;exact⟨b,o,h1,h2⟩
 have HLEN:Hid (∀x∈jb,x.length<=2):=zH (by decide);have hsl:jb.length=17:=rfl;clear hY;generalize W.alloc (.cells (jb.map fun x=>Value.string (bytes x)).toArray 9)=W4 at *;generalize hgY:W.heap.size=gY at *;generalize jb=SL at *
 go_loopw[87] (fun i wr=>∃k:Nat,k<=17/\i=.int .i64 k/\wr=W4/\Hid (Eu (yE l (SL.drop k))=R)) (fun i _=>17-(intOf i).toNat)
 case atStart=>exact⟨0,Nat.zero_le _,rfl,rfl,HR1⟩
 case round=>
  clear HR1;obtain⟨k,hk,rfl,hwr,hrec⟩:=hrel;obtain rfl:wr=W4:=hwr
  by_cases hlt:k<17
  ·have hltL:k<SL.length:=by omega
   obtain⟨b,o,hA,hck⟩:=HY.out k hltL;have hst:=hrec.out;rw[List.drop_eq_getElem_cons hltL,Dy]at hst;have hxl:=HLEN.out SL[k] (List.getElem_mem _);generalize SL[k]=x at *;obtain⟨X,hX⟩:∃X,bytes x=X:=⟨_,rfl⟩
   have hXs:X.size=x.length:=by rw[<-hX,bD]
   have UA:X.toList=x:=by rw[<-hX,aF]
   have hXI:(X.size:Int)=(x.length:Int):=by omega
   have HX:=zH hX;rw[hA];rw[hX]at hck;clear hrec hA hX;obtain⟨e,he⟩:∃e,p+x.length=e:=⟨_,rfl⟩
   have heI:(p:Int)+(x.length:Int)=(e:Int):=by omega
   have heI2:(p:Int)+(X.size:Int)=(e:Int):=by omega
   by_cases hfit:e<=s.size
   ·have zAt:(e:Int)<=(s.size:Int):=by omega
    have hpe:(p:Int)<=(e:Int):=by omega
    obtain⟨E,hE⟩:∃E,s.extract p e=E:=⟨_,rfl⟩
    have hEl:E.toList=l.take x.length:=by rw[<-hE,<-he,AA,GK.out]
    have hq:(E.toList==X.toList)=decide (l.take x.length=x):=by
     rw[hEl,UA,Bool.eq_iff_iff,beq_iff_eq,decide_eq_true_iff]
    by_cases hb:l.take x.length=x
    ·as_aux_lemma=>
     rw[decide_eq_true hb]at hq;rw[if_pos hb]at hst;have HR2:=zH hst;have HX2:=zH hXs;clear hst hb hEl UA hxl hXs;go_upto_region 22 with fail
     go_wp2_with (first|(refine ae eF rfl _ _ rfl rfl [.int .i64 6,.string X,.int .i64 0,.int .i64 0,.int .i64 0] rfl x0 rfl rfl rfl ?_;intro w9 p9))
     obtain⟨u0,u1,u2,u3,u4⟩:=zc5 p9.bk;have dO:=p9.below _ _ hb0 zL
     try simp only[hXI]
     refine bodyPost_ret (v:=.tuple #[.agg #[.int .i64 6,.string X,.int .i64 0,.int .i64 0,.int .i64 0],.int .i64 ((x.length:Nat))]) (by simp[results,Try.results52,go_sem,u0,u1,u2,u3,u4]) rfl ?_;exact⟨by rw[<-HR2.out,<-HX.out];rfl,dO⟩
    ·as_aux_lemma=>
     rw[decide_eq_false hb]at hq;rw[if_neg hb]at hst;have HST:=zH hst;clear hst hb hEl UA hxl;go_wp2
     go_roundw
     case rel=>exact⟨k+1,by omega,by go_num,by first|rfl|trivial,HST⟩
     case measure=>simp[intOf];omega
   ·as_aux_lemma=>
    have zAt:¬(e:Int)<=(s.size:Int):=by omega
    have hb:¬l.take x.length=x:=fun h=>by
     have:=congrArg List.length h;rw[List.length_take]at this;omega
    rw[if_neg hb]at hst;have HST:=zH hst;clear hst hb UA;go_wp2
    go_roundw
    case rel=>exact⟨k+1,by omega,by go_num,by first|rfl|trivial,HST⟩
    case measure=>simp[intOf];omega
  ·as_aux_lemma=>
   obtain rfl:k=17:=by omega
   have hst:=hrec.out;rw[List.drop_eq_nil_of_le (by omega)]at hst;have HR2:Hid ((oM,0)=R):=zH hst;clear hrec hst;go_upto_region 24 with fail
   go_wp2_with (first|(refine ae eF rfl _ _ rfl rfl [.int .i64 0,.string ⟨#[]⟩,.int .i64 0,.int .i64 0,.int .i64 0] rfl x0 rfl rfl rfl ?_;intro w9 p9))
   obtain⟨u0,u1,u2,u3,u4⟩:=zc5 p9.bk;have dO:=p9.below _ _ hb0 zL;refine bodyPost_ret (v:=.tuple #[.agg #[.int .i64 0,.string ⟨#[]⟩,.int .i64 0,.int .i64 0,.int .i64 0],.int .i64 (0)]) (by simp[results,Try.results52,go_sem,u0,u1,u2,u3,u4]) rfl ?_;exact⟨by rw[<-HR2.out];rfl,dO⟩
theorem vS (t:az):t.cells.length=5:=rfl
theorem JQ (s:ByteArray) (p:Nat) (h:p<s.size):fD (s.toList.drop p)=if xK s[p]then fD (s.toList.drop (p+1))+1 else 0:=by
 rw[dL s p h];rfl
theorem NZ (s:ByteArray) (p:Nat) (h:s.size<=p):fD (s.toList.drop p)=0:=by
 rw[List.drop_eq_nil_of_le (by rw[bC];exact h)];rfl
theorem xN:∀l:Str,fD l<=l.length
 |[]=>Nat.le_refl _
 |c::l=>by
  have:=xN l;unfold fD
  split
  ·simp;omega
  ·simp
theorem AB (s:Str) (f p q:Nat) (acc:List az) (hq:p+fD (s.drop p)=q):qH s (f+1) p acc=if q=s.length then(acc++[setPos oM q],0,0)else if(tH (s.drop q)).2=0 then([],q,12)else qH s f (q+(tH (s.drop q)).2) (acc++[setPos (tH (s.drop q)).1 q]):=by
 subst hq;rfl
theorem MB (l:Str):∀(r:List Str) (w:Str),yE l r=some w->w.length<=l.length
 |x::r,w,h=>by
  rw[Dy]at h
  split at h
  ·rename_i hx
   injection h with h
   subst h;have:=congrArg List.length hx;rw[List.length_take]at this;omega
  ·exact MB l r w h
theorem one_le (l:Str):(tH l).2<=l.length:=by
 unfold tH
 split
 ·simp
 ·rename_i c r
  split
  ·unfold Gx;have:=lK true (c::r);simp only[]
   split
   ·exact this
   ·split
    ·exact this
    ·exact Nat.zero_le _
  ·split
   ·unfold numberT;have h1:=lK false (c::r);simp only[]
    split
    ·exact Nat.zero_le _
    ·split
     ·split
      ·exact h1
      ·exact Nat.zero_le _
     ·rename_i h2
      show fK false (c::r)+1+yD (c::r) (fK false (c::r))<=_
      unfold yD at h2⊢
      split at h2
      ·rename_i h3
       rw[if_pos h3];obtain⟨h4,_⟩:=List.getElem?_eq_some_iff.1 h3;have:=lK false ((c::r).drop (fK false (c::r)+1));rw[List.length_drop]at this;omega
      ·exact absurd rfl h2
   ·split
    ·unfold Qv;simp only[]
     split
     ·rename_i h
      obtain⟨h4,_⟩:=List.getElem?_eq_some_iff.1 h.2
      show fK true ((c::r).drop 1)+2<=_
      omega
     ·exact Nat.zero_le _
    ·split
     ·rename_i w hw
      exact MB _ _ _ hw
     ·exact Nat.zero_le _
theorem JR (c0 c1 c2 c3 c4:Value) (w:World):(Instr.buildSlice 91 1 #[(0,.agg #[c0,c1,c2,c3,c4])]).run Try.prog w=.ok (.slice (some ⟨w.heap.size,0,none⟩) 1 1) (w.alloc (.cells #[c0,c1,c2,c3,c4] 102)):=by kernel_rfl
theorem ui {w : World} {ops : Array Oper} {rest : List Oper} {o : Oper} {a : Act} {Q : Exit → Act → World → Prop} {c0 c1 c2 c3 c4 : Value} (hgd : o.guard = none) (x : Operand) (ho : o.op = .buildSlice 91 1 #[(0, x)]) (hx : a.eval x = .agg #[c0, c1, c2, c3, c4])
  (h:wpList Try.prog ops Q rest (a.put o.dst (.slice (some ⟨w.heap.size,0,none⟩) 1 1)) (w.alloc (.cells #[c0,c1,c2,c3,c4] 102))):wpList Try.prog ops Q (o::rest) a w:=
 wpList_plain hgd fun _ hK=>by
  unfold Oper.wp execOp;simp only[ho,List.map_toArray,List.map_cons,List.map_nil,hx,Sem.run_bind,JR,Result.andThen_ok,Sem.run_pure];exact hK _ _ h
theorem tokE (p:Nat):[(⟨0,[],0,0,p⟩:az)].flatMap az.cells=[.int .i64 0,.string ⟨#[]⟩,.int .i64 0,.int .i64 0,.int .i64 (p:Nat)]:=rfl
theorem tokN (a:Nat) (b:Str) (c d e:Nat):[(⟨a,b,c,d,e⟩:az)].flatMap az.cells=[.int .i64 a,.string (bytes b),.int .i64 c,.int .i64 d,.int .i64 (e:Nat)]:=rfl
def JS (r:List az×Nat×Nat) (w:World) (e:Ending) (w':World):Prop:=
 ∃(A:Option Addr) (c:Nat),e=.returned (.tuple #[.slice A r.1.length c,.int .i64 (r.2.1:Nat),.int .i64 (r.2.2:Nat)])/\Rd w' w'.heap.size A (r.1.flatMap az.cells)/\Below w.heap.size w w'
theorem QL (s:ByteArray) (w:World):Calls Try.prog 36 #[.string s] w (JS (kN s.toList) w):=by
 obtain⟨iT,hT,hT0,hT1,hT2⟩:=info_parts QH
 by_cases hbig:4000<s.size
 ·have Xi:(4000:Int)<(s.size:Int):=by omega
  have hR:kN s.toList=([],0,2):=by unfold kN;rw[bC,if_pos hbig]
  rw[hR];clear hR hbig
  go_enter Try.func36,Try.ntmps36
  go_wp2
  refine bodyPost_ret (v:=.tuple #[.slice none 0 0,.int .i64 0,.int .i64 2]) (by simp[results,Try.results36,go_sem]) rfl ?_;exact⟨none,0,rfl,Rd.nil,Below.refl _ _⟩
 have Xi:¬(4000:Int)<(s.size:Int):=by omega
 obtain⟨RES,hres⟩:∃RES,kN s.toList=RES:=⟨_,rfl⟩
 have HR:Hid (∃f,s.size+1<=0+f/\qH s.toList f 0 []=RES):=zH ⟨s.size+1,by omega,by rw[<-hres];unfold kN;rw[bC,if_neg hbig]⟩;rw[hres];clear hres;have hsz:s.size<=4000:=by omega
 clear hbig
 go_enter Try.func36,Try.ntmps36
 go_wp2
 clear Xi
 go_loopw[5,6] (fun l i wr=>∃(p:Nat) (A:Option Addr) (c:Nat) (acc:List az),p<=s.size/\acc.length<=p/\l=.slice A acc.length c/\i=.int .i64 p/\Below w.heap.size w wr/\wr.ownsRow w.heap.size 102 5 (.slice A acc.length c) acc.length (acc.flatMap az.cells)/\Hid (∃f,s.size+1<=p+f/\qH s.toList f p acc=RES)) (fun _ i _=>s.size-(intOf i).toNat)
 case atStart=>exact⟨0,none,0,[],Nat.zero_le _,Nat.le_refl _,rfl,rfl,Below.refl _ _,World.ownsRow_nil _ _ _ _,HR⟩
 case round=>
  clear HR;obtain⟨p,A,c,acc,hp,hacc,rfl,rfl,hbel,hown,hrec⟩:=hrel;obtain⟨wo,rfl⟩:∃wo:World,wo=wr:=⟨_,rfl⟩
  obtain⟨q,hq⟩:∃q,p+fD (s.toList.drop p)=q:=⟨_,rfl⟩
  have hqs:q<=s.size:=by
   have:=xN (s.toList.drop p);rw[List.length_drop,bC]at this;omega
  have hpq:p<=q:=by omega
  have hst:∃f,s.size+1<=p+1+f/\(if q=s.size then(acc++[setPos oM q],0,0)else if(tH (s.toList.drop q)).2=0 then([],q,12)else qH s.toList f (q+(tH (s.toList.drop q)).2) (acc++[setPos (tH (s.toList.drop q)).1 q]))=RES:=by
   obtain⟨f,hf,e⟩:=hrec.out;obtain⟨f',rfl⟩:∃f',f=f'+1:=⟨f-1,by omega⟩
   rw[AB s.toList f' p q acc hq,bC]at e;exact⟨f',by omega,e⟩
  have HST:=zH hst;have HQ:=zH hq;clear hrec hst
  have HEND:Hid (fD (s.toList.drop q)=0):=zH (by
   have key:∀l:Str,fD (l.drop (fD l))=0:=by
    intro l
    induction l with
    |nil=>rfl
    |cons x l ih=>
     by_cases hx:xK x=true
     ·have e:fD (x::l)=fD l+1:=if_pos hx;rw[e,List.drop_succ_cons];exact ih
     ·have e:fD (x::l)=0:=if_neg hx;rw[e,List.drop_zero];exact e
   have h:=key (s.toList.drop p);rw[List.drop_drop]at h
   rwa [hq]at h)
  clear hq;go_wp2
  go_loopw[6] (fun i wr=>∃j:Nat,p<=j/\j<=s.size/\i=.int .i64 j/\wr=wo/\Hid (j+fD (s.toList.drop j)=q)) (fun i _=>s.size-(intOf i).toNat)
  case atStart=>exact⟨p,Nat.le_refl _,hp,rfl,rfl,HQ⟩
  case round=>
   clear HQ;obtain⟨j,Xj,hj,rfl,hwr,hrj⟩:=hrel;obtain rfl:wr=wo:=hwr
   by_cases hlt:j<s.size
   ·have QA:(j:Int)<(s.size:Int):=by omega
    have hbl:=NW s[j];have hsj:=hrj.out;rw[JQ s j hlt]at hsj
    by_cases hb:xK s[j]=true
    ·as_aux_lemma=>
     rw[if_pos hb]at hsj
     have HBL:Hid (∀W:World,Calls Try.prog 51 #[.int .u8 (s[j].toNat:Int)] W fun e w'=>e=.returned (.bool true)/\w'=W):=zH fun W=>by
      have h:=hbl W;rw[hb]at h;exact h
     have HSJ:Hid (j+1+fD (s.toList.drop (j+1))=q):=zH (by omega);clear hbl hsj hb hrj;go_wp2_with fail
     refine(HBL.out _).mono ?_;rintro r w2 ⟨rfl,hw2⟩;obtain rfl:w2=wr:=hw2;go_wp2
     go_roundw
     case rel=>exact⟨j+1,by omega,by omega,by go_num,by first|rfl|trivial,HSJ⟩
     case measure=>simp[intOf];omega
    ·have hjq:j=q:=by rw[if_neg hb]at hsj;omega
     subst hjq
     have HBL:Hid (∀W:World,Calls Try.prog 51 #[.int .u8 (s[j].toNat:Int)] W fun e w'=>e=.returned (.bool false)/\w'=W):=zH fun W=>by
      have h:=hbl W;rw[Bool.eq_false_iff.2 hb]at h;exact h
     obtain⟨f,hf,hst⟩:=HST.out;rw[if_neg (by omega)]at hst;have hone:=one_le (s.toList.drop j);rw[List.length_drop,bC]at hone;have HO:Hid (∀W:World,Calls Try.prog 52 #[.string s,.int .i64 j] W (Dx (tH (s.toList.drop j)) W)):=zH fun W=>one_any s j W hlt (by omega)
     obtain⟨⟨⟨a0,a1,a2,a3,a4⟩,n⟩,hon⟩:∃o,tH (s.toList.drop j)=o:=⟨_,rfl⟩
     rw[hon]at hst HO hone;unfold Dx az.val at HO;have Vf:=zH hst;have hne:¬(j:Int)=(s.size:Int):=by omega
     have hneI:((j:Int)==(s.size:Int))=false:=zB (by omega)
     clear hbl hsj hb hrj hon HST hst HEND;go_wp2_with fail
     refine(HBL.out _).mono ?_;rintro r w2 ⟨rfl,hw2⟩;obtain rfl:w2=wr:=hw2;clear HBL;go_wp2_with fail
     refine(HO.out _).mono ?_;rintro r w3 ⟨rfl,hb3⟩;have hown3:=aQ hown hb3;have GM:=hbel.trans (hb3.mono hbel.size);clear hown hb3 hbel HO
     by_cases hn0:n=0
     ·as_aux_lemma=>
      subst hn0;have HR2:Hid (([],j,12)=RES):=zH Vf.out;clear Vf;have hfin:=GM.alloc GM.size (.cells #[.int .i64 a0,.string (bytes a1),.int .i64 a2,.int .i64 a3,.int .i64 a4] 102);go_wp2
      refine bodyPost_ret (v:=.tuple #[.slice none 0 0,.int .i64 (j:Nat),.int .i64 12]) (by simp[results,Try.results36,go_sem]) rfl ?_;exact⟨none,0,by rw[<-HR2.out];rfl,by rw[<-HR2.out];exact Rd.nil,hfin⟩
     ·as_aux_lemma=>
      have hn0I:((n:Int)==0)=false:=zB (by omega)
      have hws:=GM.size
      have En:Hid (∃f,s.size+1<=(j+n)+f/\qH s.toList f (j+n) (acc++[⟨a0,a1,a2,a3,j⟩])=RES):=zH (by
       have h:=Vf.out;rw[if_neg hn0]at h
       exact⟨f,by omega,h⟩)
      clear Vf;have q0:=Bk.new w3 102 #[.int .i64 a0,.string (bytes a1),.int .i64 a2,.int .i64 a3,.int .i64 a4];have s4:=q0.cell 4;have f4:=q0.frozen 4;go_upto_region 13 with fail
      clear s4 f4 q0;have q1:=Bk.new w3 102 #[.int .i64 a0,.string (bytes a1),.int .i64 a2,.int .i64 a3,.int .i64 (j:Nat)];have jc:Below w.heap.size w (w3.alloc (.cells #[.int .i64 a0,.string (bytes a1),.int .i64 a2,.int .i64 a3,.int .i64 (j:Nat)] 102)):=GM.alloc hws _;have dD:=aQ hown3 (zR.alloc zL (.cells #[.int .i64 a0,.string (bytes a1),.int .i64 a2,.int .i64 a3,.int .i64 (j:Nat)] 102));obtain⟨v0,v1,v2,v3,v4⟩:=zc5 q1;clear hown3 GM;generalize w3.alloc (.cells #[.int .i64 a0,.string (bytes a1),.int .i64 a2,.int .i64 a3,.int .i64 (j:Nat)] 102)=W5 at *;have hw5:=jc.size;have oU:w.heap.size<=(W5.alloc (.cells #[.int .i64 a0,.string (bytes a1),.int .i64 a2,.int .i64 a3,.int .i64 (j:Nat)] 102)).heap.size:=by simp;omega
      go_wp2_with (first|(refine ui rfl _ rfl rfl ?_)|at_builtin;(refine aH (by rfl) _ _ 91 (by rfl) w.heap.size 102 iT _ 5 48 Try.underlying91 hT hT0 hT1 hT2 rfl (by decide) (.slice A acc.length c) acc.length _ (by rfl) (dD.alloc _) (W5.heap.size+1) (some ⟨W5.heap.size,0,none⟩) 1 1 [.int .i64 a0,.string (bytes a1),.int .i64 a2,.int .i64 a3,.int .i64 (j:Nat)] (by rfl) (Rd.lit rfl _ _) (by rfl) ?c2 ?c3 ?c4 oU ?_))
      case c2=>intro u hu;simp at hu;rcases hu with rfl|rfl|rfl|rfl|rfl<;>rfl
      case c3=>unfold maxLen;omega
      case c4=>omega
      intro A6 c6 w6 hown6 jK _;have pO:Below w.heap.size w w6:=dY (jc.alloc hw5 _) (dD.alloc _) zL jK oU;have Cj:(acc++[(⟨a0,a1,a2,a3,j⟩:az)]).length=acc.length+1:=by simp
      have zAu:w6.ownsRow w.heap.size 102 5 (.slice A6 (acc++[(⟨a0,a1,a2,a3,j⟩:az)]).length c6) (acc++[(⟨a0,a1,a2,a3,j⟩:az)]).length ((acc++[(⟨a0,a1,a2,a3,j⟩:az)]).flatMap az.cells):=by
       rw[Cj,List.flatMap_append,tokN];exact hown6
      clear hown6 jK dD jc oU v0 v1 v2 v3 v4 q1;go_wp2
      go_roundw
      case rel=>exact⟨j+n,A6,c6,acc++[(⟨a0,a1,a2,a3,j⟩:az)],by omega,by omega,by first|(rw[Cj];done)|(rw[Cj];trivial),by go_num,pO,zAu,En⟩
      case measure=>simp[intOf];omega
   ·as_aux_lemma=>
    obtain rfl:j=s.size:=by omega
    have hsj:=hrj.out;rw[NZ s s.size zL]at hsj;obtain rfl:q=s.size:=by omega
    obtain⟨f,hf,hst⟩:=HST.out;rw[if_pos rfl]at hst;have HR2:Hid ((acc++[(⟨0,[],0,0,s.size⟩:az)],0,0)=RES):=zH hst;clear hrj hsj hst HST HEND;have hws:=hbel.size;have oU:w.heap.size<=(wr.alloc (.cells #[.int .i64 0,.string ⟨#[]⟩,.int .i64 0,.int .i64 0,.int .i64 (s.size:Nat)] 102)).heap.size:=by simp;omega
    go_wp2_with (first|(refine ui rfl _ rfl rfl ?_)|at_builtin;refine aH (by rfl) _ _ 91 (by rfl) w.heap.size 102 iT _ 5 48 Try.underlying91 hT hT0 hT1 hT2 rfl (by decide) (.slice A acc.length c) acc.length _ (by rfl) (hown.alloc _) (wr.heap.size+1) (some ⟨wr.heap.size,0,none⟩) 1 1 [.int .i64 0,.string ⟨#[]⟩,.int .i64 0,.int .i64 0,.int .i64 (s.size:Nat)] (by rfl) (Rd.lit rfl _ _) (by rfl) ?c2 ?c3 ?c4 oU ?_)
    case c2=>intro u hu;simp at hu;rcases hu with rfl|rfl|rfl|rfl|rfl<;>rfl
    case c3=>unfold maxLen;omega
    case c4=>omega
    intro A6 c6 w6 hown6 jK _;have pO:Below w.heap.size w w6:=dY (hbel.alloc hws _) (hown.alloc _) zL jK oU
    have hrd:Rd w6 w6.heap.size A6 ((acc++[(⟨0,[],0,0,s.size⟩:az)]).flatMap az.cells):=by
     rw[List.flatMap_append,tokE];exact dG hown6
    clear hown6 jK hown oU hbel;go_wp2
    refine bodyPost_ret (v:=.tuple #[.slice A6 (acc.length+1) c6,.int .i64 0,.int .i64 0]) (by simp[results,Try.results36,go_sem]) rfl ?_;exact⟨A6,c6,by rw[<-HR2.out];simp,by rw[<-HR2.out];exact hrd,pO⟩
end Go.Proofs.Ytbjnhllkdilpfaa
