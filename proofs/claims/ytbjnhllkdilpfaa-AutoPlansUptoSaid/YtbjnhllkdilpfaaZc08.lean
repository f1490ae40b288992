/- Part 8 of the proof. No conditions. -/
import Derived.Test.YtbjnhllkdilpfaaZc02
import Derived.Test.YtbjnhllkdilpfaaZc07
namespace Go.Proofs.Ytbjnhllkdilpfaa
open Go.RowKit
set_option maxRecDepth 100000
set_option maxHeartbeats 16000000
set_option linter.unusedVariables false
set_option linter.unusedSimpArgs false
theorem vN (c:UInt8) (n:Nat) (h:n<256):((c.toNat:Int)==(n:Int))=(c==UInt8.ofNat n):=by
 by_cases e:c=UInt8.ofNat n
 ·subst e;simp;omega
 ·have h1:(c==UInt8.ofNat n)=false:=by simpa using e
  rw[h1,beq_eq_false_iff_ne];intro h2
  apply e
  apply UInt8.toNat_inj.1
  rw[UInt8.toNat_ofNat'];omega
theorem NW (c : UInt8) (w : World) :
  Calls Try.prog 51 #[.int .u8 (c.toNat:Int)] w fun e w'=>e=.returned (.bool (xK c))/\w'=w:=by
 obtain⟨b1,h1⟩:∃b,(c==32)=b:=⟨_,rfl⟩
 obtain⟨b2,h2⟩:∃b,(c==9)=b:=⟨_,rfl⟩
 obtain⟨b3,h3⟩:∃b,(c==10)=b:=⟨_,rfl⟩
 obtain⟨b4,h4⟩:∃b,(c==13)=b:=⟨_,rfl⟩
 have k1:((c.toNat:Int)==32)=b1:=(vN c 32 (by omega)).trans h1;have k2:((c.toNat:Int)==9)=b2:=(vN c 9 (by omega)).trans h2;have k3:((c.toNat:Int)==10)=b3:=(vN c 10 (by omega)).trans h3;have k4:((c.toNat:Int)==13)=b4:=(vN c 13 (by omega)).trans h4;unfold xK;rw[h1,h2,h3,h4];clear h1 h2 h3 h4;generalize(c.toNat:Int)=z at *;cases b1<;>cases b2<;>cases b3<;>cases b4<;>
 (go_enter Try.func51,Try.ntmps51
  go_wp2
  go_ret
  exact⟨rfl,rfl⟩)
theorem lK (names:Bool):∀l:Str,fK names l<=l.length
 |[]=>Nat.le_refl _
 |c::l=>by
  have:=lK names l;unfold fK
  split
  ·simp;omega
  ·simp
theorem Du (names:Bool) (s:ByteArray) (p:Nat) (h:p<s.size):fK names (s.toList.drop p)=if Gw names s[p]then fK names (s.toList.drop (p+1))+1 else 0:=by
 rw[dL s p h];rfl
theorem Qz (names:Bool) (s:ByteArray) (p:Nat) (h:s.size<=p):fK names (s.toList.drop p)=0:=by
 rw[List.drop_eq_nil_of_le (by rw[bC];exact h)];rfl
theorem vO (s : ByteArray) (p0 : Nat) (names : Bool) (w : World) (hp : p0 ≤ s.size) (hs : s.size ≤ 1048576) :
  Calls Try.prog 75 #[.string s,.int .i64 p0,.bool names] w fun e w'=>e=.returned (.int .i64 (fK names (s.toList.drop p0):Nat))/\w'=w:=by
 obtain⟨RES,hres⟩:∃RES,fK names (s.toList.drop p0)=RES:=⟨_,rfl⟩
 have HR:Hid (0+fK names (s.toList.drop (p0+0))=RES):=zH (by rw[Nat.zero_add];exact hres);rw[hres];clear hres
 go_enter Try.func75,Try.ntmps75
 go_wp2
 go_loopw[7] (fun n wr=>∃k:Nat,p0+k<=s.size/\n=.int .i64 k/\wr=w/\Hid (k+fK names (s.toList.drop (p0+k))=RES)) (fun n _=>s.size-(intOf n).toNat)
 case atStart=>exact⟨0,hp,rfl,rfl,HR⟩
 case round=>
  clear HR;obtain⟨k,hk,rfl,rfl,hrec⟩:=hrel;obtain⟨p,hpe⟩:∃p,p0+k=p:=⟨_,rfl⟩
  have hpI:(p0:Int)+(k:Int)=(p:Int):=by omega
  rw[hpe]at hrec hk
  by_cases hlt:p<s.size
  ·have QA:(p:Int)<(s.size:Int):=by omega
   have hst:=hrec.out;rw[Du names s p hlt]at hst;have hdg:=rV (s[p].toNat:Int);have hlr:=jW (s[p].toNat:Int);have h95:=vN s[p] 95 (by omega);have hcl:Gw names s[p]=(jH s[p].toNat||(names&&(iM s[p].toNat||s[p]==95))):=rfl;rw[hcl]at hst;obtain⟨b1,h1⟩:∃b,jH s[p].toNat=b:=⟨_,rfl⟩
   obtain⟨b2,h2⟩:∃b,iM s[p].toNat=b:=⟨_,rfl⟩
   obtain⟨b3,h3⟩:∃b,(s[p]==(95:UInt8))=b:=⟨_,rfl⟩
   rw[h1]at hdg hst;rw[h2]at hlr hst;have h95':((s[p].toNat:Int)==95)=b3:=h95.trans h3;rw[h3]at hst;have QD:=zH hdg;have HLR:=zH hlr;have HST:=zH hst;clear hdg hlr hst hrec h95 h1 h2 h3 hcl;cases b1
   ·cases names
    ·as_aux_lemma=>
     have hz:k=RES:=by simpa using HST.out
     subst hz;go_wp2_with fail
     refine(QD.out _).mono ?_;rintro r w2 ⟨rfl,rfl⟩;go_wp2
     go_ret
     exact⟨rfl,rfl⟩
    ·cases b2
     ·cases b3
      ·as_aux_lemma=>
       have hz:k=RES:=by simpa using HST.out
       subst hz;go_wp2_with fail
       refine(QD.out _).mono ?_;rintro r w2 ⟨rfl,rfl⟩;go_wp2_with fail
       refine(HLR.out _).mono ?_;rintro r w2 ⟨rfl,rfl⟩;go_wp2
       go_ret
       exact⟨rfl,rfl⟩
      ·as_aux_lemma=>
       have HN:Hid (k+1+fK true (s.toList.drop (p0+(k+1)))=RES):=zH (by have:=HST.out;simp at this;rw[<-this,<-hpe];rw[show p0+(k+1)=p0+k+1 by omega];omega);go_wp2_with fail
       refine(QD.out _).mono ?_;rintro r w2 ⟨rfl,rfl⟩;go_wp2_with fail
       refine(HLR.out _).mono ?_;rintro r w2 ⟨rfl,rfl⟩;go_wp2
       go_roundw
       case rel=>exact⟨k+1,by omega,by go_num,by first|rfl|trivial,HN⟩
       case measure=>simp[intOf];omega
     ·as_aux_lemma=>
      have HN:Hid (k+1+fK true (s.toList.drop (p0+(k+1)))=RES):=zH (by have:=HST.out;simp at this;rw[<-this,<-hpe];rw[show p0+(k+1)=p0+k+1 by omega];omega);go_wp2_with fail
      refine(QD.out _).mono ?_;rintro r w2 ⟨rfl,rfl⟩;go_wp2_with fail
      refine(HLR.out _).mono ?_;rintro r w2 ⟨rfl,rfl⟩;go_wp2
      go_roundw
      case rel=>exact⟨k+1,by omega,by go_num,by first|rfl|trivial,HN⟩
      case measure=>simp[intOf];omega
   ·as_aux_lemma=>
    have HN:Hid (k+1+fK names (s.toList.drop (p0+(k+1)))=RES):=zH (by have:=HST.out;simp at this;rw[<-this,<-hpe];rw[show p0+(k+1)=p0+k+1 by omega];omega);go_wp2_with fail
    refine(QD.out _).mono ?_;rintro r w2 ⟨rfl,rfl⟩;go_wp2
    go_roundw
    case rel=>exact⟨k+1,by omega,by go_num,by first|rfl|trivial,HN⟩
    case measure=>simp[intOf];omega
  ·rw[Qz names s p (by omega)]at hrec;have hz:k=RES:=by simpa using hrec.out
   subst hz;go_wp2
   go_ret
   exact⟨rfl,rfl⟩
def qj (c:UInt8):Prop:=48<=c.toNat/\c.toNat<=57
theorem Dv (d:UInt8):∀(l:Str) (n:Nat),iC n (l++[d])=10*iC n l+(d.toNat-48)
 |[],n=>rfl
 |c::l,n=>Dv d l _
theorem Me:∀(l:Str) (n:Nat),n<=iC n l
 |[],n=>Nat.le_refl _
 |c::l,n=>by have:=Me l (10*n+(c.toNat-48));show n<=iC (10*n+(c.toNat-48)) l;omega
theorem QE (q n P d:Nat) (h1:q<(10*n+d+1)*P) (h2:d<=9):q<(n+1)*(10*P):=by
 have h3:(10*n+d+1)*P<=((n+1)*10)*P:=Nat.mul_le_mul_right P (by omega);rw[Nat.mul_assoc]at h3;exact Nat.lt_of_lt_of_le h1 h3
theorem Vd (l:Str):∀(n:Nat),(∀c∈l,qj c)->iC n l<(n+1)*10^l.length:=by
 induction l with
 |nil=>intro n _;show n<(n+1)*1;omega
 |cons c l ih=>
  intro n h;have h1:iC n (c::l)<(10*n+(c.toNat-48)+1)*10^l.length:=ih (10*n+(c.toNat-48)) fun x hx=>h x (by simp[hx])
  have h3:=h c (by simp);unfold qj at h3;rw[List.length_cons,Nat.pow_succ,Nat.mul_comm (10^l.length) 10];exact QE (iC n (c::l)) n (10^l.length) (c.toNat-48) h1 (by omega)
theorem QF {d:UInt8} (h:qj d):uh (d.toNat-48)=d:=by
 unfold uh
 apply UInt8.toNat_inj.1
 rw[UInt8.toNat_ofNat'];unfold qj at h;omega
theorem GG:∀(n:Nat) (l:Str),l.length=n+1->(∀c∈l,qj c)->(n=0\/l[0]?≠some 48)->Lib.decDigits (iC 0 l)=l
 |0,[d],_,hd,_=>by
  have h:=hd d (by simp);have e:iC 0 [d]=d.toNat-48:=by show 10*0+(d.toNat-48)=_;omega
  have h9:d.toNat-48<10:=by have:=h.2;omega
  rw[e,og (d.toNat-48) h9,QF h]
 |n+1,l,hl,hd,h0=>by
  have hne:l≠[]:=by intro e;rw[e]at hl;simp at hl
  obtain⟨l',d,rfl⟩:∃l' d,l=l'++[d]:=⟨l.dropLast,l.getLast hne,(List.dropLast_concat_getLast hne).symm⟩
  have hl':l'.length=n+1:=by simpa using hl
  have h:=hd d (by simp)
  have h48:(l')[0]?≠some 48:=by
   rcases h0 with h0|h0
   ·omega
   ·rwa [List.getElem?_append_left (by omega)]at h0
  have ih:=GG n l' hl' (fun c hc=>hd c (by simp[hc])) (.inr h48)
  have hpos:1<=iC 0 l':=by
   match l',hl',h48 with
   |c::r,_,h48=>
    have hc:=hd c (by simp)
    have:c.toNat≠48:=by
     intro e
     apply h48
     have:c=48:=UInt8.toNat_inj.1 e;rw[this];rfl
    have h1:=Me r (10*0+(c.toNat-48));have h2:iC 0 (c::r)=iC (10*0+(c.toNat-48)) r:=rfl;unfold qj at hc;omega
  have h9:d.toNat-48<10:=by have:=h.2;omega
  have hdg:=QF h;rw[Dv];generalize iC 0 l'=v at *;generalize d.toNat-48=q at *;rw[vM (10*v+q) (by omega),show(10*v+q)/10=v by omega,show(10*v+q)%10=q by omega,ih,hdg]
theorem Dw (s:ByteArray) (n k:Nat) (h:k<s.size):iC n (s.toList.drop k)=iC (10*n+(s[k].toNat - 48)) (s.toList.drop (k+1)):=by
 rw[dL s k h];rfl
def QG (z:Int) (ok:Bool) (w:World) (e:Ending) (w':World):Prop:=e=.returned (.tuple #[.int .i64 z,.bool ok])/\Below w.heap.size w w'
theorem GH (s : ByteArray) (w : World) (hd : ∀ c ∈ s.toList, qj c) (h1 : 1 ≤ s.size) (h19 : s.size ≤ 19) (h0 : s.size = 1 ∨ s.toList[0]? ≠ some 48) :
  Calls Try.prog 91 #[.string s] w (QG (wrap64 (iC 0 s.toList:Nat)) (decide (iC 0 s.toList<=9223372036854775807)) w):=by
 obtain⟨V,hV⟩:∃V,iC 0 s.toList=V:=⟨_,rfl⟩
 obtain⟨m,hm⟩:∃m,wrap64 (V:Int)=m:=⟨_,rfl⟩
 obtain⟨ok,hok⟩:∃ok,decide (V<=9223372036854775807)=ok:=⟨_,rfl⟩
 have hdec:Lib.decDigits V=s.toList:=by
  rw[<-hV];refine GG (s.size-1) s.toList (by rw[bC];omega) hd ?_;rcases h0 with h0|h0
  ·exact .inl (by omega)
  ·exact .inr h0
 have hlt:V<10000000000000000000:=by
  have:=Vd s.toList 0 hd;rw[hV,bC]at this;have h2:=Nat.pow_le_pow_right (n:=10) (by omega) h19;omega
 have hrg: -9223372036854775808<=m/\m<=9223372036854775807:=by rw[<-hm];unfold wrap64;omega
 have hfd:∀c:UInt8,s.toList[0]? =some c->qj c:=fun c hc=>hd c (List.mem_of_getElem? hc)
 have HEQ:Hid (((bytes (Lib.itoa m)).toList==s.toList)=ok):=zH (by
  rw[aF,<-hok]
  by_cases hle:V<=9223372036854775807
  ·have e:m=V:=by rw[<-hm];unfold wrap64;omega
   have e2:Lib.itoa m=s.toList:=by
    unfold Lib.itoa;rw[if_neg (by omega),e,Int.toNat_natCast,hdec]
   rw[e2,decide_eq_true hle];simp
  ·have hneg:m<0:=by rw[<-hm];unfold wrap64;omega
   rw[decide_eq_false hle,beq_eq_false_iff_ne];intro e;unfold Lib.itoa at e;rw[if_pos hneg]at e;have:=hfd 45 (by rw[<-e];rfl);unfold qj at this
   exact absurd this.1 (by decide))
 have h45:∀h:0<s.size,((s[0].toNat:Int)==45)=false:=fun h=>by
  have h2:=dL s 0 h;rw[List.drop_zero]at h2;have h3:=hd s[0] (by rw[h2];simp);unfold qj at h3;rw[beq_eq_false_iff_ne];omega
 have h45I:=h45 (by omega);have HD:=zH (zy m hrg);have HQ:Hid (∀w':World,Below w.heap.size w w'->QG m ok w (.returned (.tuple #[.int .i64 m,.bool ok])) w'):=zH fun w' h=>⟨rfl,h⟩
 have HDI:Hid (∀k (h:k<s.size),qj s[k]):=zH fun k h=>hd _ (by
  have h2:=dL s k h
  exact List.mem_of_mem_drop (i:=k) (by rw[h2];simp))
 have HR:Hid (iC 0 (s.toList.drop 0)=V):=zH (by rw[List.drop_zero];exact hV);rw[hV,hm,hok];have HM:=zH hm;have hsI:(0:Int)<(s.size:Int):=by omega
 clear hV hm hok hdec hlt hrg hfd h45 h0 hd
 go_enter Try.func91,Try.ntmps91
 go_wp2
 go_loopw[5,6] (fun x i wr=>∃(k n:Nat),k<=s.size/\x=.int .u64 n/\i=.int .i64 k/\wr=w/\Hid (n<10^k)/\Hid (iC n (s.toList.drop k)=V)) (fun _ i _=>s.size-(intOf i).toNat)
 case atStart=>exact⟨0,0,Nat.zero_le _,rfl,rfl,rfl,zH (by decide),HR⟩
 case round=>
  clear HR;obtain⟨k,n,hk,rfl,rfl,hwr,hn,hrec⟩:=hrel;obtain rfl:wr=w:=hwr
  by_cases hlt:k<s.size
  ·as_aux_lemma=>
   have QA:(k:Int)<(s.size:Int):=by omega
   have h18I:¬(18:Int)<(k:Int):=by omega
   have hst:=hrec.out;rw[Dw s n k hlt]at hst;have hdg:=rV (s[k].toNat:Int);have hdk:=HDI.out k hlt;unfold qj at hdk;have hdb:jH (s[k].toNat:Int)=true:=decide_eq_true (by omega);rw[hdb]at hdg;have QD:=zH hdg;have HST:=zH hst
   have hnl:n<1000000000000000000:=by
    have h1:=Nat.pow_le_pow_right (n:=10) (by omega) (show k<=18 by omega);have h2:=hn.out;have h3:(10:Nat)^18=1000000000000000000:=by decide
    omega
   have HP:Hid (10*n+(s[k].toNat - 48)<10^(k+1)):=zH (by
    have h2:=hn.out
    rw[Nat.pow_succ];omega)
   have h48:(48:Int)<=(s[k].toNat:Int):=by omega
   have h57:(s[k].toNat:Int)<=57:=by omega
   have hw1:IntKind.u64.wrap (10*(n:Int))=10*(n:Int):=by rw[IntKind.wrap_u64];omega
   have hw2:IntKind.u64.wrap (10*(n:Int)+((s[k].toNat:Int)-48))=10*(n:Int)+((s[k].toNat:Int)-48):=by rw[IntKind.wrap_u64];omega
   have hw3:(10*(n:Int))%18446744073709551616=10*(n:Int):=by omega
   have hw4:(10*(n:Int)+((s[k].toNat:Int)-48))%18446744073709551616=10*(n:Int)+((s[k].toNat:Int)-48):=by omega
   clear hn hdk hnl hdg hst hdb hrec h45I;go_wp2_with fail
   refine(QD.out wr).mono ?_;rintro r w2 ⟨rfl,rfl⟩;go_wp2
   go_roundw
   case rel=>exact⟨k+1,10*n+(s[k].toNat - 48),by omega,by first|go_num|(congr 1;omega),by go_num,by first|rfl|trivial,HP,HST⟩
   case measure=>simp[intOf];omega
  ·as_aux_lemma=>
   obtain rfl:k=s.size:=by omega
   have hdn:s.toList.drop s.size=[]:=List.drop_eq_nil_of_le (by rw[bC];omega);have hst:=hrec.out;rw[hdn]at hst;have hst:n=V:=hst;subst hst;have hm2:wrap64 (n:Int)=m:=HM.out;clear hrec hn hdn h45I;go_wp2_with fail
   refine(HD.out wr).mono ?_;rintro r w2 ⟨rfl,hb2⟩;have heq:=HEQ.out;generalize bytes (Lib.itoa m)=T at *;clear HD;go_wp2
   go_ret2
   exact HQ.out _ hb2
def az.cells (t:az):List Value:=[.int .i64 t.kind,.string (bytes t.text),.int .i64 t.n,.int .i64 t.scale,.int .i64 t.pos]
def az.val (t:az):Value:=.agg #[.int .i64 t.kind,.string (bytes t.text),.int .i64 t.n,.int .i64 t.scale,.int .i64 t.pos]
theorem QH:(Try.prog.info? 102).map (fun i=>(i.zero,i.size,i.bytes))=some (some (.agg #[.int .i64 0,.string ⟨#[]⟩,.int .i64 0,.int .i64 0,.int .i64 0]),5,48):=by kernel_rfl
theorem eF (w:World):(sizeOf 102).run Try.prog w=.ok 5 w:=by
 obtain⟨i,hi,h0,h1,h2⟩:=info_parts QH;simp[sizeOf,typeInfo,hi,h1]
def Dx (r:az×Nat) (w:World) (e:Ending) (w':World):Prop:=e=.returned (.tuple #[r.1.val,.int .i64 (r.2:Nat)])/\Below w.heap.size w w'
theorem Az (names:Bool):∀l:Str,∀c∈l.take (fK names l),Gw names c=true
 |[],c,h=>by simp at h
 |x::l,c,h=>by
  unfold fK at h
  by_cases hx:Gw names x=true
  ·rw[if_pos hx,List.take_succ_cons]at h;rcases List.mem_cons.1 h with rfl|h
   ·exact hx
   ·exact Az names l c h
  ·rw[if_neg hx]at h;simp at h
theorem QI {c:UInt8} (h:Gw false c=true):qj c:=by
 simp[Gw,jH]at h;unfold qj;omega
theorem QJ (S:ByteArray) (w:World):∃(g c:Nat) (W:World),(convert 9 159 (.string S)).run Try.prog w=.ok (.slice (some ⟨g,0,none⟩) S.size c) W/\Below w.heap.size w W/\∀j (h:j<S.size),W.cell? ⟨g,j,none⟩=some (.int .u8 (S[j].toNat:Int)):=by
 refine⟨w.heap.size,_,_,Lib.run_convert_string_bytes w 9 159 5 S Try.underlying9 Try.underlying159 Try.underlying5,⟨rfl,rfl,rfl,by rw[Lib.bytesWorld_size];omega,fun k hk=>Lib.bytesWorld_at_old w _ S k hk⟩,fun j h=>?_⟩;rw[Lib.bytesWorld_cell w _ S j h];have h1:=dL S j h;have h2:S.data.toList.drop j=S[j]::S.data.toList.drop (j+1):=by rw[<-ByteArray.toList_eq];exact h1
 have h3:S.data.toList[j]? =some S[j]:=by
  have h4:(S.data.toList.drop j)[0]? =some S[j]:=by rw[h2];rfl
  rwa [List.getElem?_drop,Nat.add_zero]at h4
 rw[List.getD_eq_getElem?_getD,h3];rfl
theorem JP (s : ByteArray) (p : Nat) (w : World) (hp : p < s.size) (hs : s.size ≤ 1048576) (hdig : jH s[p].toNat = true) :
  Calls Try.prog 79 #[.string s,.int .i64 p] w (Dx (numberT (s.toList.drop p)) w):=by
 obtain⟨R,hR⟩:∃R,numberT (s.toList.drop p)=R:=⟨_,rfl⟩
 obtain⟨l,hl⟩:∃l,s.toList.drop p=l:=⟨_,rfl⟩
 have hll:l.length=s.size-p:=by rw[<-hl,List.length_drop,bC]
 obtain⟨n,hn⟩:∃n,fK false l=n:=⟨_,rfl⟩
 have hn1:1<=n:=by
  rw[<-hn,<-hl,Du false s p hp,if_pos (by simp[Gw,hdig])];omega
 have hnl:n<=l.length:=by rw[<-hn];exact lK _ _
 obtain⟨q,hq⟩:∃q,p+n=q:=⟨_,rfl⟩
 have hqI:(p:Int)+(n:Int)=(q:Int):=by omega
 have hqs:q<=s.size:=by omega
 have hqsI:(q:Int)<=(s.size:Int):=by omega
 have hpqI:(p:Int)<=(q:Int):=by omega
 obtain⟨D,hD⟩:∃D,s.extract p q=D:=⟨_,rfl⟩
 have hDl:D.toList=l.take n:=by
  rw[<-hD,<-hl,ByteArray.toList_eq,Lib.extract_eq,ByteArray.toList_eq,<-hq,Nat.add_sub_cancel_left]
 have hDs:D.size=n:=by rw[<-bC,hDl,List.length_take];omega
 have GI:Hid (∀W:World,Calls Try.prog 75 #[.string s,.int .i64 p,.bool false] W fun e w'=>e=.returned (.int .i64 (n:Nat))/\w'=W):=zH fun W=>by
  have h:=vO s p false W (by omega) hs;rw[hl,hn]at h;exact h
 obtain⟨m,hm⟩:∃m,yD l n=m:=⟨_,rfl⟩
 have h0l:l[0]? =some s[p]:=by rw[<-hl,dL s p hp];rfl
 have hD0:(h:0<D.size)->D[0]=s[p]:=fun h=>by
  have h1:=dL D 0 h;rw[List.drop_zero,hDl]at h1;have h2:(l.take n)[0]? =some D[0]:=by rw[h1];rfl
  rw[List.getElem?_take_of_lt (by omega),h0l]at h2;injection h2 with h2
  exact h2.symm
 obtain⟨Ve,hb48⟩:∃b,(s[p]==(48:UInt8))=b:=⟨_,rfl⟩
 have hD48:(h:0<D.size)->((D[0].toNat:Int)==48)=Ve:=fun h=>by rw[hD0 h];exact(vN s[p] 48 (by omega)).trans hb48
 have h48:=hD48 (by omega)
 have HR : Hid ((if (1 < n ∧ Ve = true) ∨ (m = 0 ∧ 19 < n) ∨ (0 < m ∧ 15 < n + m) then (oM, 0)
   else if m=0 then(if iC 0 D.toList<=9223372036854775807 then(⟨3,[],iC 0 D.toList,0,0⟩,n)else(oM,0))
   else(⟨4,[],iC 0 (D.toList++(l.drop (n+1)).take m),m,0⟩,n+1+m))=R):=zH (by
  rw[<-hR,hl];unfold numberT;simp only[hn,hm,h0l];have e:(Ve=true)<->(some s[p]=some 48):=by rw[<-hb48];simp
  rw[hDl]
  simp only[e])
 have HDD:Hid (∀c∈D.toList,qj c):=zH fun c hc=>by
  rw[hDl,<-hn]at hc;exact QI (Az false l c hc)
 have HD0:Hid (Ve=false->D.toList[0]?≠some 48):=zH fun hb e=>by
  rw[hDl,List.getElem?_take_of_lt (by omega),h0l]at e;injection e with e
  rw[hb,beq_eq_false_iff_ne]at hb48;exact hb48 e
 have hDsI:(D.size:Int)=(n:Int):=by omega
 have Yh:Hid (yD l n=m):=zH hm;have GK:Hid (s.toList.drop p=l):=zH hl;have hD0I:(0:Int)<(D.size:Int):=by omega
 rw[hR];clear hR hn hDl hD48 hD0 h0l hb48 hll hdig hm hl
 go_enter Try.func79,Try.ntmps79
 have x0:=Bk.new w 102 #[.int .i64 0,.string ⟨#[]⟩,.int .i64 0,.int .i64 0,.int .i64 0];have hb0:Below w.heap.size w (w.alloc (.cells #[.int .i64 0,.string ⟨#[]⟩,.int .i64 0,.int .i64 0,.int .i64 0] 102)):=zR.alloc zL _;go_wp2_with fail
 generalize w.alloc (.cells #[.int .i64 0,.string ⟨#[]⟩,.int .i64 0,.int .i64 0,.int .i64 0] 102)=W at *;refine(GI.out W).mono ?_;rintro r w2 ⟨rfl,rfl⟩;clear GI;obtain⟨Yi,Es⟩:∃b,decide (∃h:q<s.size,s[q]=46)=b:=⟨_,rfl⟩
 go_upto_region 4 with fail
 go_cut[36] (fun v wx=>v=.bool Yi/\w2=wx)
 case first=>
  by_cases hq2:q<s.size
  ·have Yj:(q:Int)<(s.size:Int):=by omega
   have h46I:((s[q].toNat:Int)==46)=Yi:=by
    refine(vN s[q] 46 (by omega)).trans ?_;rw[<-Es,Bool.eq_iff_iff,beq_iff_eq,decide_eq_true_iff];exact⟨fun e=>⟨hq2,e⟩,fun⟨_,e⟩=>e⟩
   clear Es;go_wp2_with fail
   go_meet
   exact⟨rfl,rfl⟩
  ·have Yj:¬(q:Int)<(s.size:Int):=by omega
   obtain rfl:Yi=false:=by
    rw[<-Es];exact decide_eq_false fun⟨h,_⟩=>hq2 h
   clear Es;go_wp2_with fail
   go_meet
   exact⟨rfl,rfl⟩
 case rest=>
 obtain⟨rfl,rfl⟩:=hcut
 have mV:Hid (Yi=true->q<s.size/\s.toList.drop (q+1)=l.drop (n+1)/\q+1+m<=s.size/\fK false (s.toList.drop (q+1))=m):=zH fun hb=>by
  rw[hb]at Es;obtain⟨hq2,h46⟩:=of_decide_eq_true Es
  have hqg:l[n]? =some 46:=by
   rw[<-GK.out,List.getElem?_drop,hq,<-h46];have:=dL s q hq2;have h2:(s.toList.drop q)[0]? =some s[q]:=by rw[this];rfl
   rwa [List.getElem?_drop,Nat.add_zero]at h2
  have hld:s.toList.drop (q+1)=l.drop (n+1):=by rw[<-GK.out,List.drop_drop,show p+(n+1)=q+1 by omega]
  have hme:fK false (s.toList.drop (q+1))=m:=by
   have h2:=Yh.out;unfold yD at h2
   rwa [if_pos hqg,<-hld]at h2
  have h1:=lK false (s.toList.drop (q+1));rw[hme,List.length_drop,bC]at h1;exact⟨hq2,hld,by omega,hme⟩
 have Et:Hid (Yi=false->m=0):=zH fun hb=>by
  rw[hb]at Es;have h46:=of_decide_eq_false Es;rw[<-Yh.out];unfold yD;rw[if_neg];intro e
  apply h46
  rw[<-GK.out,List.getElem?_drop,hq]at e;obtain⟨h1,h2⟩:=List.getElem?_eq_some_iff.1 e;have hq2:q<s.size:=by rw[<-bC];exact h1
  have h3:=dL s q hq2;have h4:(s.toList.drop q)[0]? =some s[q]:=by rw[h3];rfl
  rw[List.getElem?_drop,Nat.add_zero,e]at h4;injection h4 with h4
  exact⟨hq2,h4.symm⟩
 clear Es;go_upto_if 36 with fail
 go_cut[8] (fun v wx=>v=.int .i64 (m:Nat)/\w2=wx)
 case first=>
  cases Yi
  ·have hm0:=Et.out rfl;subst hm0;go_wp2_with fail
   go_meet
   exact⟨rfl,rfl⟩
  ·obtain⟨hq2,_,_,hme⟩:=mV.out rfl
   have HC:Hid (∀W:World,Calls Try.prog 75 #[.string s,.int .i64 ((q:Int)+1),.bool false] W fun e w'=>e=.returned (.int .i64 (m:Nat))/\w'=W):=zH fun W=>by
    have h:=vO s (q+1) false W (by omega) hs;rw[hme,show((q+1:Nat):Int)=(q:Int)+1 by omega]at h;exact h
   clear hme hq2;go_wp2_with fail
   refine(HC.out _).mono ?_;rintro r w3 ⟨rfl,rfl⟩;go_wp2_with fail
   go_meet
   exact⟨rfl,rfl⟩
 case rest=>
 obtain⟨rfl,rfl⟩:=hcut
 have hmb:m<=1048576:=by
  have h1:=lK false (l.drop (n+1));have h2:l.length<=s.size:=by rw[<-GK.out,List.length_drop,bC];omega
  rw[<-Yh.out];unfold yD
  split
  ·rw[List.length_drop]at h1;omega
  ·omega
 obtain⟨bad,hbad⟩:∃b,decide ((1<n/\Ve=true)\/(m=0/\19<n)\/(0<m/\15<n+m))=b:=⟨_,rfl⟩
 go_upto_region 6 with fail
 go_cut[67] (fun v wx=>v=.bool bad/\w2=wx)
 case first=>
  clear mV Et HDD HD0 Yh GK HR
  by_cases h1:1<n
  ·have h1I:(1:Int)<(n:Int):=by omega
   cases Ve
   ·by_cases hm0:m=0
    ·subst hm0
     by_cases h19:19<n
     ·have h19I:(19:Int)<(n:Int):=by omega
      obtain rfl:bad=true:=by rw[<-hbad];simp;omega
      clear hbad;go_wp2_with fail
      go_meet
      exact⟨by first|rfl|exact congrArg Value.bool (decide_eq_true (by omega))|exact congrArg Value.bool (decide_eq_false (by omega)),rfl⟩
     ·have h19I:¬(19:Int)<(n:Int):=by omega
      obtain rfl:bad=false:=by rw[<-hbad];simp;omega
      clear hbad;go_wp2_with fail
      go_meet
      exact⟨by first|rfl|exact congrArg Value.bool (decide_eq_true (by omega))|exact congrArg Value.bool (decide_eq_false (by omega)),rfl⟩
    ·have NY:((m:Int)==0)=false:=zB (by omega)
     have hmI2:(0:Int)<(m:Int):=by omega
     by_cases h15:15<n+m
     ·have Yk:(15:Int)<(n:Int)+(m:Int):=by omega
      obtain rfl:bad=true:=by rw[<-hbad];simp;omega
      clear hbad;go_wp2_with fail
      go_meet
      exact⟨by first|rfl|exact congrArg Value.bool (decide_eq_true (by omega))|exact congrArg Value.bool (decide_eq_false (by omega)),rfl⟩
     ·have Yk:¬(15:Int)<(n:Int)+(m:Int):=by omega
      obtain rfl:bad=false:=by rw[<-hbad];simp;omega
      clear hbad;go_wp2_with fail
      go_meet
      exact⟨by first|rfl|exact congrArg Value.bool (decide_eq_true (by omega))|exact congrArg Value.bool (decide_eq_false (by omega)),rfl⟩
   ·obtain rfl:bad=true:=by rw[<-hbad];simp;omega
    clear hbad;go_wp2_with fail
    go_meet
    exact⟨by first|rfl|exact congrArg Value.bool (decide_eq_true (by omega))|exact congrArg Value.bool (decide_eq_false (by omega)),rfl⟩
  ·have h1I:¬(1:Int)<(n:Int):=by omega
   have h19I:¬(19:Int)<(n:Int):=by omega
   by_cases hm0:m=0
   ·subst hm0;obtain rfl:bad=false:=by rw[<-hbad];simp;omega
    clear hbad;go_wp2_with fail
    go_meet
    exact⟨by first|rfl|exact congrArg Value.bool (decide_eq_true (by omega))|exact congrArg Value.bool (decide_eq_false (by omega)),rfl⟩
   ·have NY:((m:Int)==0)=false:=zB (by omega)
    have hmI2:(0:Int)<(m:Int):=by omega
    by_cases h15:15<n+m
    ·have Yk:(15:Int)<(n:Int)+(m:Int):=by omega
     obtain rfl:bad=true:=by rw[<-hbad];simp;omega
     clear hbad;go_wp2_with fail
     go_meet
     exact⟨by first|rfl|exact congrArg Value.bool (decide_eq_true (by omega))|exact congrArg Value.bool (decide_eq_false (by omega)),rfl⟩
    ·have Yk:¬(15:Int)<(n:Int)+(m:Int):=by omega
     obtain rfl:bad=false:=by rw[<-hbad];simp;omega
     clear hbad;go_wp2_with fail
     go_meet
     exact⟨by first|rfl|exact congrArg Value.bool (decide_eq_true (by omega))|exact congrArg Value.bool (decide_eq_false (by omega)),rfl⟩
 case rest=>
 obtain⟨rfl,rfl⟩:=hcut
 have HB:Hid (bad=false->¬((1<n/\Ve=true)\/(m=0/\19<n)\/(0<m/\15<n+m))):=zH fun hb=>by
  rw[hb]at hbad;exact of_decide_eq_false hbad
 have HB2:Hid (bad=true->R=(oM,0)):=zH fun hb=>by
  rw[hb]at hbad;rw[<-HR.out,if_pos (of_decide_eq_true hbad)]
 clear hbad;cases bad
 case true=>
  as_aux_lemma=>
  have hR:=HB2.out rfl;subst hR;clear mV Et HDD HD0 Yh GK HR HB HB2;go_upto_region 7 with fail
  go_wp2_with (first|(refine ae eF rfl _ _ rfl rfl [.int .i64 0,.string ⟨#[]⟩,.int .i64 0,.int .i64 0,.int .i64 0] rfl x0 rfl rfl rfl ?_;intro w9 p9))
  obtain⟨u0,u1,u2,u3,u4⟩:=zc5 p9.bk;have dO:=p9.below _ _ hb0 zL;refine bodyPost_ret (v:=.tuple #[.agg #[.int .i64 0,.string ⟨#[]⟩,.int .i64 0,.int .i64 0,.int .i64 0],.int .i64 (0)]) (by simp[results,Try.results79,go_sem,u0,u1,u2,u3,u4]) rfl ?_;exact⟨rfl,dO⟩
 case false=>
 have hnb:=HB.out rfl
 by_cases hm0:m=0
 ·as_aux_lemma=>
  subst hm0
  have hn19:n<=19:=by
   rcases Nat.lt_or_ge 19 n with h|h
   ·exact absurd (.inr (.inl ⟨rfl,h⟩)) hnb
   ·exact h
  have hn48:1<n->Ve=false:=fun h=>by
   cases Ve with
   |false=>rfl
   |true=>exact absurd (.inl ⟨h,rfl⟩) hnb
  have HN:Hid (Calls Try.prog 91 #[.string D] w2 (QG (wrap64 (iC 0 D.toList:Nat)) (decide (iC 0 D.toList<=9223372036854775807)) w2)):=zH (GH D w2 HDD.out (by omega) (by omega) (by
   by_cases h1:1<n
   ·exact .inr (HD0.out (hn48 h1))
   ·exact .inl (by omega)))
  have HR2:Hid ((if iC 0 D.toList<=9223372036854775807 then(⟨3,[],iC 0 D.toList,0,0⟩,n)else(oM,0))=R):=zH (by rw[<-HR.out,if_neg hnb,if_pos rfl]);generalize iC 0 D.toList=V at HN HR2;clear HR HDD HD0 Yh GK mV Et HB HB2 hnb hn48
  by_cases hV:V<=9223372036854775807
  ·as_aux_lemma=>
   have hwV:wrap64 (V:Int)=V:=by unfold wrap64;omega
   rw[decide_eq_true hV,hwV]at HN;rw[if_pos hV]at HR2;clear hwV;go_wp2_with fail
   refine HN.out.mono ?_;rintro r w4 ⟨rfl,hb4⟩;replace hb0:=hb0.trans (hb4.mono hb0.size);replace x0:=x0.old hb4;clear HN hb4;go_upto_region 12 with fail
   go_wp2_with (first|(refine ae eF rfl _ _ rfl rfl [.int .i64 3,.string ⟨#[]⟩,.int .i64 V,.int .i64 0,.int .i64 0] rfl x0 rfl rfl rfl ?_;intro w9 p9))
   obtain⟨u0,u1,u2,u3,u4⟩:=zc5 p9.bk;have dO:=p9.below _ _ hb0 zL;refine bodyPost_ret (v:=.tuple #[.agg #[.int .i64 3,.string ⟨#[]⟩,.int .i64 V,.int .i64 0,.int .i64 0],.int .i64 ((n:Nat))]) (by simp[results,Try.results79,go_sem,u0,u1,u2,u3,u4]) rfl ?_;exact⟨by rw[<-HR2.out];rfl,dO⟩
  ·as_aux_lemma=>
   rw[decide_eq_false hV]at HN;rw[if_neg hV]at HR2;generalize wrap64 (V:Int)=z at HN;go_wp2_with fail
   refine HN.out.mono ?_;rintro r w4 ⟨rfl,hb4⟩;replace hb0:=hb0.trans (hb4.mono hb0.size);replace x0:=x0.old hb4;clear HN hb4;go_upto_region 11 with fail
   go_wp2_with (first|(refine ae eF rfl _ _ rfl rfl [.int .i64 0,.string ⟨#[]⟩,.int .i64 0,.int .i64 0,.int .i64 0] rfl x0 rfl rfl rfl ?_;intro w9 p9))
   obtain⟨u0,u1,u2,u3,u4⟩:=zc5 p9.bk;have dO:=p9.below _ _ hb0 zL;refine bodyPost_ret (v:=.tuple #[.agg #[.int .i64 0,.string ⟨#[]⟩,.int .i64 0,.int .i64 0,.int .i64 0],.int .i64 (0)]) (by simp[results,Try.results79,go_sem,u0,u1,u2,u3,u4]) rfl ?_;exact⟨by rw[<-HR2.out];rfl,dO⟩
 ·as_aux_lemma=>
  have NY:((m:Int)==0)=false:=zB (by omega)
  have hn15:n+m<=15:=by
   rcases Nat.lt_or_ge 15 (n+m)with h|h
   ·exact absurd (.inr (.inr ⟨by omega,h⟩)) hnb
   ·exact h
  obtain⟨hq2,hld,hmle,hme⟩:=mV.out (by
   cases Yi with
   |true=>rfl
   |false=>exact absurd (Et.out rfl) hm0)
  have Yl:=zH hld
  have HDM:Hid (∀c∈(l.drop (n+1)).take m,qj c):=zH fun c hc=>by
   rw[<-hld,<-hme]at hc;exact QI (Az false _ c hc)
  clear hld hme;have HR2:Hid ((⟨4,[],iC 0 (D.toList++(l.drop (n+1)).take m),m,0⟩,n+1+m)=R):=zH (by rw[<-HR.out,if_neg hnb,if_neg hm0]);obtain⟨e,he⟩:∃e,q+1+m=e:=⟨_,rfl⟩
  have heI:(q:Int)+1+(m:Int)=(e:Int):=by omega
  have heI2:(e:Int)<=(s.size:Int):=by omega
  have hqeI:(q:Int)+1<=(e:Int):=by omega
  obtain⟨S,hS⟩:∃S,D++s.extract (q+1) e=S:=⟨_,rfl⟩
  have hSl:S.toList=D.toList++(l.drop (n+1)).take m:=by
   rw[<-hS,lM,aF]
   congr 1
   rw[ByteArray.toList_eq,Lib.extract_eq,<-Yl.out,ByteArray.toList_eq,<-he,Nat.add_sub_cancel_left]
  have hSs:S.size=n+m:=by
   rw[<-bC,hSl,List.length_append,bC,hDs,List.length_take,<-Yl.out,List.length_drop,bC];omega
  have HSD:Hid (∀k (h:k<S.size),qj S[k]):=zH fun k h=>by
   have h2:=dL S k h;have h3:S[k]∈S.toList:=List.mem_of_mem_drop (i:=k) (by rw[h2];simp);rw[hSl]at h3;rcases List.mem_append.1 h3 with h3|h3
   ·exact HDD.out _ h3
   ·exact HDM.out _ h3
  rw[<-hSl]at HR2;have Qy:¬9223372036854775807<D.size+(e-(q+1)):=by omega
  go_upto_region 14 with fail
  clear HR HDD HD0 Yh GK Yl HDM hSl h48 hD0I mV Et HB HB2 hnb;obtain⟨g,cc,W9,hcv,hbW,hcell⟩:=QJ S w2;have HC:=zH hcell;replace hb0:=hb0.trans (hbW.mono hb0.size);replace x0:=x0.old hbW;clear hcell hbW;go_wp2
  clear hcv Qy hS
  go_loopw[11,98] (fun x i wr=>∃(k a:Nat),k<=S.size/\x=.int .i64 a/\i=.int .i64 k/\wr=W9/\Hid (a<10^k)/\Hid (iC a (S.toList.drop k)=iC 0 S.toList)) (fun _ i _=>S.size-(intOf i).toNat)
  case atStart=>exact⟨0,0,Nat.zero_le _,rfl,rfl,rfl,zH (by decide),zH (by rw[List.drop_zero])⟩
  case round=>
   obtain⟨k,a,hk,rfl,rfl,hwr,ha,hrec⟩:=hrel;obtain rfl:wr=W9:=hwr
   by_cases hlt:k<S.size
   ·as_aux_lemma=>
    have QA:(k:Int)<(S.size:Int):=by omega
    have hst:=hrec.out;rw[Dw S a k hlt]at hst;have hdk:=HSD.out k hlt;unfold qj at hdk;have hck:=HC.out k hlt;have HST:=zH hst
    have hnl:a<1000000000000000:=by
     have h1:=Nat.pow_le_pow_right (n:=10) (by omega) (show k<=15 by omega);have h2:=ha.out;have h3:(10:Nat)^15=1000000000000000:=by decide
     omega
    have HP:Hid (10*a+(S[k].toNat - 48)<10^(k+1)):=zH (by
     have h2:=ha.out
     rw[Nat.pow_succ];omega)
    generalize hsk:S[k].toNat=z at *;have h48:(48:Int)<=(z:Int):=by omega
    have h57:(z:Int)<=57:=by omega
    have hw1:IntKind.u8.wrap ((z:Int)-48)=(z:Int)-48:=by
     have e:IntKind.u8.wrap ((z:Int)-48)=((z:Int)-48)%256:=rfl;rw[e];omega
    have hw2:((z:Int)-48)%256=(z:Int)-48:=by omega
    have hw3:IntKind.i64.wrap ((z:Int)-48)=(z:Int)-48:=IntWalk.i64_in _ ⟨by omega,by omega⟩;have hw4:IntKind.i64.wrap (10*(a:Int))=10*(a:Int):=IntWalk.i64_in _ ⟨by omega,by omega⟩;have hw5:IntKind.i64.wrap (10*(a:Int)+((z:Int)-48))=10*(a:Int)+((z:Int)-48):=IntWalk.i64_in _ ⟨by omega,by omega⟩;clear ha hst hrec hsk;go_wp2
    go_roundw
    case rel=>exact⟨k+1,10*a+(z-48),by omega,by first|go_num|(congr 1;omega),by go_num,by first|rfl|trivial,HP,HST⟩
    case measure=>simp[intOf];omega
   ·as_aux_lemma=>
    obtain rfl:k=S.size:=by omega
    have hst:=hrec.out;rw[List.drop_eq_nil_of_le (by rw[bC];omega)]at hst;have hst:a=iC 0 S.toList:=hst;have HR3:Hid ((⟨4,[],a,m,0⟩,n+1+m)=R):=zH (by rw[hst];exact HR2.out);clear hrec hst ha HR2 HC HSD;go_upto_region 19 with fail
    go_wp2_with (first|(refine ae eF rfl _ _ rfl rfl [.int .i64 4,.string ⟨#[]⟩,.int .i64 a,.int .i64 m,.int .i64 0] rfl x0 rfl rfl rfl ?_;intro w9 p9))
    obtain⟨u0,u1,u2,u3,u4⟩:=zc5 p9.bk;have dO:=p9.below _ _ hb0 zL;refine bodyPost_ret (v:=.tuple #[.agg #[.int .i64 4,.string ⟨#[]⟩,.int .i64 a,.int .i64 m,.int .i64 0],.int .i64 ((n:Nat)+1+(m:Nat))]) (by simp[results,Try.results79,go_sem,u0,u1,u2,u3,u4]) rfl ?_;exact⟨by rw[<-HR3.out];rfl,dO⟩
end Go.Proofs.Ytbjnhllkdilpfaa
