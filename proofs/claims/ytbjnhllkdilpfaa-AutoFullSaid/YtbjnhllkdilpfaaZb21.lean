/- Part 21 of the proof. No conditions. -/
import Derived.Test.YtbjnhllkdilpfaaZb03
namespace Go.Proofs.Ytbjnhllkdilpfaa
open Go.RowKit
set_option maxRecDepth 10000
def eU (s:List UInt8):Nat->List (List UInt8)->Int
 |_,[]=> -1
 |k,x::l=>if x==s then k else eU s (k+1) l
theorem N7 (A : Option Addr) (c : Nat) (l : List ByteArray) (s : ByteArray) (B : Nat) (w : World) (h : Rd w B A (l.map .string)) (hm : l.length ≤ maxLen) :
  Calls Try.prog 85 #[.slice A l.length c,.string s] w fun e w'=>e=.returned (.int .i64 (eU s.toList 0 (l.map (·.toList))))/\w=w':=by
 unfold maxLen at hm
 go_enter Try.func85,Try.ntmps85
 go_wp2
 go_loop[4,5,6,9] (fun _ _ _ i=>∃k:Nat,k<=l.length/\i=.int .i64 k/\Hid (eU s.toList 0 (l.map (·.toList))=eU s.toList k ((l.drop k).map (·.toList)))) (fun _ _ _ i=>l.length-(intOf i).toNat)
 case atStart=>exact⟨0,Nat.zero_le _,rfl,rfl⟩
 case round=>
  obtain⟨k,hk,rfl,hrec⟩:=hrel
  by_cases hlt:k<l.length
  ·obtain⟨b,o,rfl,hb,hc⟩:=h.at_ (j:=k) (by simpa using hlt);have hc1:w.cell? ⟨b,o+k,none⟩=some (.string l[k]):=hc k _ (by simp[hlt]);have hd:l.drop k=l[k]::l.drop (k+1):=List.drop_eq_getElem_cons hlt;rw[hd]at hrec;clear hc hd;go_wp2
   ·go_ret
    refine⟨fC ?_,rfl⟩;have ht:(l[k].toList==s.toList)=true:=by assumption
    rw[hrec.out,List.map_cons,eU,if_pos ht]
   ·have ht:(l[k].toList==s.toList)=false:=by assumption
    go_round
    case rel=>exact⟨k+1,by omega,by go_num,by rw[hrec.out,List.map_cons,eU,ht];rfl⟩
    case measure=>simp[intOf];omega
  ·go_wp2
   go_ret
   refine⟨fC ?_,rfl⟩;rw[hrec.out,List.drop_eq_nil_of_le (by omega)];rfl
structure oC where
 name:ByteArray
 kind:Int
structure uq where
 name:ByteArray
 fa:Option Addr
 fc:Nat
 fields:List oC
structure ah where
 ta:Option Addr
 tc:Nat
 types:List uq
 sa:Option Addr
 sc:Nat
 syms:List ByteArray
def oC.cells (f:oC):List Value:=[.string f.name,.int .i64 f.kind]
def uq.cells (t:uq):List Value:=[.string t.name,.slice t.fa t.fields.length t.fc]
def ah.val (s:ah):Value:=.agg #[.slice s.ta s.types.length s.tc,.slice s.sa s.syms.length s.sc]
structure uq.ok (t:uq) (w:World) (B:Nat):Prop where
 rd:Rd w B t.fa (t.fields.flatMap oC.cells)
 len:t.fields.length<=5864062014634
 N8:t.name.size<=140737488351232
 N9:∀f∈t.fields,f.name.size<=140737488351232
structure ah.ok (s:ah) (w:World) (B:Nat):Prop where
 rd:Rd w B s.ta (s.types.flatMap uq.cells)
 len:s.types.length<=3518437208780
 each:∀t∈s.types,t.ok w B
 syms:Rd w B s.sa (s.syms.map .string)
 slen:s.syms.length<=8796093021952
 ssize:∀x∈s.syms,x.size<=140737488351232
def lq (s:List UInt8) (k:Nat) (l:List oC):Int:=eU s k (l.map (·.name.toList))
def bQ (s:ah) (t:Int) (nm:List UInt8):Int:=if 0<=t then(match s.types[t.toNat]? with|some x=>lq nm 0 x.fields|none=> -1)else -1
theorem pY (nm:List UInt8) (l:List oC) (k:Nat) (h:k<l.length):lq nm k (l.drop k)=if(l[k].name.toList==nm)=true then(k:Int)else lq nm (k+1) (l.drop (k+1)):=by
 rw[List.drop_eq_getElem_cons h];rfl
def typeAt (s:ah) (nm:List UInt8):Int:=eU nm 0 (s.types.map (·.name.toList))
theorem Ib (s : ah) (nm : ByteArray) (w : World) (h : s.ok w w.heap.size) :
  Calls Try.prog 65 #[s.val,.string nm] w fun e w'=>e=.returned (.int .i64 (typeAt s nm.toList))/\Below w.heap.size w w':=by
 obtain⟨rd,len,each,VJ,slen,_⟩:=h;have hrec:typeAt s nm.toList=eU nm.toList 0 (s.types.map (·.name.toList)):=rfl;rw[hrec];unfold ah.val;clear hrec each VJ slen
 go_enter Try.func65,Try.ntmps65
 go_wp2
 go_loopw[4,5,6,10] (fun _ _ _ i wr=>∃k:Nat,k<=s.types.length/\i=.int .i64 k/\Below w.heap.size w wr/\Hid (eU nm.toList 0 (s.types.map (·.name.toList))=eU nm.toList k ((s.types.drop k).map (·.name.toList)))) (fun _ _ _ i _=>s.types.length-(intOf i).toNat)
 case atStart=>exact⟨0,Nat.zero_le _,rfl,zR.alloc zL _,rfl⟩
 case round=>
  obtain⟨k,hk,rfl,hbel,hrec⟩:=hrel
  by_cases hlt:k<s.types.length
  ·obtain⟨b,o,hfa,hb,hc⟩:=(rd.below hbel).elem (n:=2) (fun _=>rfl) (by omega) hlt;have hc0:wr.cell? ⟨b,o+k*2,none⟩=some (.string s.types[k].name):=hc 0 _ rfl;have hc1:wr.cell? ⟨b,o+k*2+1,none⟩=some (.slice s.types[k].fa s.types[k].fields.length s.types[k].fc):=hc 1 _ rfl;rw[List.drop_eq_getElem_cons hlt]at hrec;rw[hfa];clear hc;go_wp2
   ·go_ret
    have ht:(s.types[k].name.toList==nm.toList)=true:=by assumption
    exact⟨fC (by rw[hrec.out,List.map_cons,eU,if_pos ht]),hbel.alloc hbel.size _⟩
   ·have ht:(s.types[k].name.toList==nm.toList)=false:=by assumption
    go_roundw
    case rel=>exact⟨k+1,by omega,by go_num,hbel.alloc hbel.size _,by rw[hrec.out,List.map_cons,eU,ht];rfl⟩
    case measure=>simp[intOf];omega
  ·go_wp2
   go_ret
   exact⟨fC (by rw[hrec.out,List.drop_eq_nil_of_le (by omega)];rfl),hbel⟩
theorem sO (s : ah) (t : Int) (nm : ByteArray) (w : World) (h : s.ok w w.heap.size) :
  Calls Try.prog 69 #[s.val,.int .i64 t,.string nm] w fun e w'=>e=.returned (.int .i64 (bQ s t nm.toList))/\Below w.heap.size w w':=by
 obtain⟨rd,len,each,VJ,slen,_⟩:=h
 by_cases h0:0<=t
 ·by_cases h1:t<s.types.length
  ·obtain⟨t,rfl⟩:=Int.eq_ofNat_of_zero_le h0;have h1:t<s.types.length:=by omega
   obtain⟨b,o,ht,hb,hc⟩:=rd.elem (n:=2) (fun _=>rfl) (by omega) h1;have hc1:w.cell? ⟨b,o+t*2+1,none⟩=some (.slice s.types[t].fa s.types[t].fields.length s.types[t].fc):=hc 1 _ rfl;obtain⟨XY,Zk,_,_⟩:=each s.types[t] (by simp);have hspec:bQ s (t:Int) nm.toList=lq nm.toList 0 s.types[t].fields:=by simp[bQ,h1]
   rw[hspec];clear hc each rd VJ hspec;unfold ah.val;rw[ht];generalize s.types[t]=T at *
   go_enter Try.func69,Try.ntmps69
   go_wp2
   go_loopw[6,7,8,25] (fun _ _ _ i wr=>∃k:Nat,k<=T.fields.length/\i=.int .i64 k/\Below w.heap.size w wr/\Hid (lq nm.toList 0 T.fields=lq nm.toList k (T.fields.drop k))) (fun _ _ _ i _=>T.fields.length-(intOf i).toNat)
   case atStart=>exact⟨0,Nat.zero_le _,rfl,zR.alloc zL _,rfl⟩
   case round=>
    obtain⟨k,hk,rfl,hbel,hrec⟩:=hrel
    by_cases hlt:k<T.fields.length
    ·obtain⟨b,o,hfa,hb,hc⟩:=(XY.below hbel).elem (n:=2) (fun _=>rfl) (by omega) hlt;have hc0:wr.cell? ⟨b,o+k*2,none⟩=some (.string T.fields[k].name):=hc 0 _ rfl;have hc1:wr.cell? ⟨b,o+k*2+1,none⟩=some (.int .i64 T.fields[k].kind):=hc 1 _ rfl;rw[hfa];go_wp2
     ·go_ret
      have ht:(T.fields[k].name.toList==nm.toList)=true:=by assumption
      exact⟨fC (by rw[hrec.out,pY _ _ _ hlt,if_pos ht]),hbel.alloc hbel.size _⟩
     ·have ht:(T.fields[k].name.toList==nm.toList)=false:=by assumption
      go_roundw
      case rel=>exact⟨k+1,by omega,by go_num,hbel.alloc hbel.size _,by rw[hrec.out,pY _ _ _ hlt,ht];rfl⟩
      case measure=>simp[intOf];omega
    ·go_wp2
     go_ret
     exact⟨fC (by rw[hrec.out,List.drop_eq_nil_of_le (by omega)];rfl),hbel⟩
  ·have hspec:bQ s t nm.toList= -1:=by
    rw[bQ,if_pos h0,List.getElem?_eq_none (by omega)]
   have H:=zH hspec;clear hspec;unfold ah.val
   go_enter Try.func69,Try.ntmps69
   go_wp2
   go_ret
   exact⟨fC H.out.symm,zR.alloc zL _⟩
 ·unfold ah.val
  go_enter Try.func69,Try.ntmps69
  go_wp2
  go_ret
  exact⟨fC (by rw[bQ,if_neg (by omega)]),zR.alloc zL _⟩
def fF (s:ah) (t a:Int):Int:=
 if 0<=t then(match s.types[t.toNat]? with
  |some x=>if a= -1 then 1 else if 0<=a then(match x.fields[a.toNat]? with|some f=>f.kind|none=>0)else 0
  |none=>0)else 0
theorem Fh (s:ah) (t a:Int) (h:¬(0<=t/\t<s.types.length)):fF s t a=0:=by
 unfold fF
 split
 ·rw[List.getElem?_eq_none (by omega)]
 ·rfl
theorem Fj (s:ah) (t:Nat) (a:Int) (h:t<s.types.length):fF s t a=if a= -1 then 1 else if 0<=a then(match s.types[t].fields[a.toNat]? with|some f=>f.kind|none=>0)else 0:=by
 simp[fF,h]
theorem Fp (s : ah) (t a : Int) (w : World) (h : s.ok w w.heap.size) :
  Calls Try.prog 68 #[s.val,.int .i64 t,.int .i64 a] w fun e w'=>e=.returned (.int .i64 (fF s t a))/\Below w.heap.size w w':=by
 obtain⟨rd,len,each,VJ,slen,_⟩:=h
 by_cases h0:0<=t/\t<s.types.length
 ·obtain⟨t,rfl⟩:=Int.eq_ofNat_of_zero_le h0.1;have h1:t<s.types.length:=by omega
  obtain⟨b,o,ht,hb,hc⟩:=rd.elem (n:=2) (fun _=>rfl) (by omega) h1;have hc1:w.cell? ⟨b,o+t*2+1,none⟩=some (.slice s.types[t].fa s.types[t].fields.length s.types[t].fc):=hc 1 _ rfl;obtain⟨XY,Zk,_,_⟩:=each s.types[t] (by simp);rw[Fj s t a h1];clear hc each rd VJ h0;unfold ah.val;rw[ht];generalize s.types[t]=T at *
  by_cases ha:a= -1
  ·rw[if_pos ha];subst ha
   go_enter Try.func68,Try.ntmps68
   go_wp2
   go_ret
   exact⟨rfl,zR.alloc zL _⟩
  ·rw[if_neg ha]
   by_cases ha0:0<=a
   ·obtain⟨a,rfl⟩:=Int.eq_ofNat_of_zero_le ha0;rw[if_pos ha0]
    by_cases ha1:a<T.fields.length
    ·obtain⟨b2,o2,ht2,hb2,hc2⟩:=XY.elem (n:=2) (fun _=>rfl) (by omega) ha1;have hc3:w.cell? ⟨b2,o2+a*2+1,none⟩=some (.int .i64 T.fields[a].kind):=hc2 1 _ rfl;rw[ht2]at hc1;clear hc2 XY;simp only[Int.toNat_natCast,List.getElem?_eq_getElem ha1]
     go_enter Try.func68,Try.ntmps68
     go_wp2
     go_ret
     exact⟨rfl,zR.alloc zL _⟩
    ·simp only[Int.toNat_natCast,List.getElem?_eq_none (Nat.le_of_not_lt ha1)]
     go_enter Try.func68,Try.ntmps68
     go_wp2
     go_ret
     exact⟨rfl,zR.alloc zL _⟩
   ·rw[if_neg ha0]
    go_enter Try.func68,Try.ntmps68
    go_wp2
    go_ret
    exact⟨rfl,zR.alloc zL _⟩
 ·rw[Fh s t a h0];unfold ah.val
  by_cases h1:t<0
  ·go_enter Try.func68,Try.ntmps68
   go_wp2
   go_ret
   exact⟨rfl,zR.alloc zL _⟩
  ·have h2:(s.types.length:Int)<=t:=by omega
   clear h0
   go_enter Try.func68,Try.ntmps68
   go_wp2
   go_ret
   exact⟨rfl,zR.alloc zL _⟩
theorem ah.ok.old {s:ah} {w w':World} (h:s.ok w w.heap.size) (hb:Below w.heap.size w w'):s.ok w' w'.heap.size:=
 ⟨(h.rd.below hb).more hb.size,h.len,fun t ht=>⟨((h.each t ht).rd.below hb).more hb.size,(h.each t ht).len,(h.each t ht).N8,(h.each t ht).N9⟩,(h.syms.below hb).more hb.size,h.slen,h.ssize⟩
theorem ah.ok.step {s:ah} {W w':World} {R:Prop} (h:s.ok W W.heap.size) (hb:Below W.heap.size W w'/\R):s.ok w' w'.heap.size:=h.old hb.1
def sig (t:uq):ByteArray×List oC:=(t.name,t.fields)
theorem Ju:(Try.prog.info? 9).map (fun i=>(i.zero,i.size,i.bytes))=some (some (.string ⟨#[]⟩),1,16):=by kernel_rfl
end Go.Proofs.Ytbjnhllkdilpfaa
namespace Go.Proofs.Ytbjnhllkdilpfaa
open Go.RowKit Go.WideMaps Go.Maps
set_option maxRecDepth 10000
def yz (pre:List (List UInt8)):List (List UInt8)->Bool
 |[]=>false
 |x::r=>if nameB x then(if pre.contains x then true else yz (pre++[x]) r)else true
def Be (l:List (List UInt8)):Bool:=yz [] l
theorem Du (A : Option Addr) (c : Nat) (l : List ByteArray) (B : Nat) (w : World) (h : Rd w B A (l.map .string)) (hB : B ≤ w.heap.size) (hm : l.length ≤ maxLen) :
  Calls Try.prog 60 #[.slice A l.length c] w fun e w'=>e=.returned (.bool (Be (l.map (·.toList))))/\Below w.heap.size w w':=by
 unfold maxLen at hm
 go_enter Try.func60,Try.ntmps60
 go_wp2
 go_loopw[8] (fun i wr=>∃k:Nat,k<=l.length/\i=.int .i64 k/\Below w.heap.size w wr/\Hid (Be (l.map (·.toList))=yz ((l.take k).map (·.toList)) ((l.drop k).map (·.toList)))) (fun i _=>l.length-(intOf i).toNat)
 case atStart=>exact⟨0,Nat.zero_le _,rfl,Below.refl _ _,rfl⟩
 case round=>
  obtain⟨k,hk,rfl,hbel,hrec⟩:=hrel;obtain⟨wo,rfl⟩:∃wo:World,wo=wr:=⟨_,rfl⟩
  by_cases hlt:k<l.length
  ·obtain⟨b,o,hA,hb,hc⟩:=(h.below (hbel.mono hB)).Je hlt;rw[List.drop_eq_getElem_cons hlt,List.map_cons,yz]at hrec;obtain⟨x,hx⟩:∃x,x=l[k]:=⟨_,rfl⟩
   rw[<-hx]at hrec hc;have HX:=zH hx;clear hx;have hA0:=hA;rw[hA];have HA:=zH hA;clear hA hA0;go_wp2_with fail
   refine(nz _ _).mono ?_;rintro e w2 ⟨rfl,hb2⟩;have uu:=hbel.trans (hb2.mono hbel.size);clear hb2 hc;cases hnm:nameB x.toList
   ·go_wp2
    go_ret
    exact⟨lC (by rw[hrec.out,hnm];rfl),uu⟩
   ·rw[hnm,if_pos rfl]at hrec;clear hnm;go_wp2
    go_loop[5] (fun i=>∃j:Nat,j<=k/\i=.int .i64 j/\Hid (((l.take k).map (·.toList)).contains x.toList=(((l.take k).drop j).map (·.toList)).contains x.toList)) (fun i=>k-(intOf i).toNat)
    case atStart=>exact⟨0,Nat.zero_le _,rfl,rfl⟩
    case round=>
     obtain⟨j,hj,rfl,hin⟩:=hrel
     by_cases hlj:j<k
     ·obtain⟨b2,o2,hA2,hb2,hc2⟩:=(h.below (uu.mono hB)).Je (k:=j) (by omega);rw[HA.out]at hA2;injection hA2 with hA2
      injection hA2 with e1 e2
      subst e1;subst e2;have hjl:j<(l.take k).length:=by rw[List.length_take];omega
      rw[List.drop_eq_getElem_cons hjl,List.map_cons,List.contains_cons,List.getElem_take]at hin;obtain⟨y,hy⟩:∃y,y=l[j]:=⟨_,rfl⟩
      rw[<-hy]at hin hc2;clear hy;have hlk:(j:Int)<(l.length:Int):=by omega
      go_wp2
      ·go_ret
       have ht:(y.toList==x.toList)=true:=by assumption
       have ht2:(x.toList==y.toList)=true:=by rw[beq_iff_eq]at ht⊢;exact ht.symm
       refine⟨lC ?_,uu⟩;rw[hrec.out,hin.out,ht2,Bool.true_or];rfl
      ·have ht:(y.toList==x.toList)=false:=by assumption
       have ht2:(x.toList==y.toList)=false:=by rw[beq_eq_false_iff_ne]at ht⊢;exact ht.symm
       go_round
       case rel=>exact⟨j+1,by omega,by go_num,by rw[hin.out,ht2,Bool.false_or];rfl⟩
       case measure=>simp[intOf];omega
     ·go_wp2
      have hno:((l.take k).map (·.toList)).contains x.toList=false:=by
       rw[hin.out,List.drop_eq_nil_of_le (by rw[List.length_take];omega)];rfl
      have HN:=zH hno;clear hno;go_roundw
      case rel=>
       refine⟨k+1,by omega,by go_num,uu,?_⟩;have e:(l.take (k+1)).map (·.toList)=(l.take k).map (·.toList)++[x.toList]:=by rw[List.take_succ_eq_append_getElem hlt,List.map_append,<-HX.out];rfl
       have h:=hrec.out;rw[HN.out]at h;rw[e];exact h
      case measure=>simp[intOf];omega
  ·go_wp2
   go_ret
   exact⟨lC (by rw[hrec.out,List.drop_eq_nil_of_le (by omega)];rfl),hbel⟩
end Go.Proofs.Ytbjnhllkdilpfaa
namespace Go.Proofs.Ytbjnhllkdilpfaa
open Go.RowKit
set_option maxRecDepth 10000
abbrev Oa:=ByteArray×List oC
def fieldsOf (t:Oa):List (List UInt8):=t.2.map (·.name.toList)
def gQ (f:oC):Bool:=decide (f.kind<1)||decide (4<f.kind)
def Ob (t:Oa):Bool:=decide (8<t.2.length)
def Oc (t:Oa):Bool:=t.2.any gQ
def Fq (t:Oa):Bool:=Be (fieldsOf t)
def eZ (b:Bool):Int:=if b=true then 11 else 0
def uw (T:List Oa) (Y:List ByteArray):Int:=
 if(decide (16<T.length)||decide (64<Y.length)||T.any Ob)=true then 2
 else if(T.any Fq||Be (T.map (·.1.toList))||Be (Y.map (·.toList)))=true then 10
 else eZ (T.any Oc)
end Go.Proofs.Ytbjnhllkdilpfaa
namespace Go.Proofs.Ytbjnhllkdilpfaa
open Go.RowKit
set_option maxHeartbeats 16000000
set_option maxRecDepth 100000
def L8 (s:ah) (k:Nat):Bool:=(decide (16<s.types.length)||decide (64<s.syms.length))||((s.types.map sig).take k).any Ob
def Ua (s:ah) (k:Nat):Bool:=((s.types.map sig).take k).any Fq
def Ub (s:ah) (k:Nat):Bool:=((s.types.map sig).take k).any Oc
def Q8 (b:Bool) (T:uq) (j:Nat):Bool:=b||(T.fields.take j).any gQ
theorem zB (s:ah) (k:Nat) (h:k<s.types.length):(s.types.map sig).take (k+1)=(s.types.map sig).take k++[sig s.types[k]]:=by rw[List.take_succ_eq_append_getElem (by simpa using h)];simp
theorem Q9 (s:ah):(s.types.map sig).take s.types.length=s.types.map sig:=List.take_of_length_le (by simp)
theorem Oe (s:ah) (k:Nat) (h:k<s.types.length):L8 s (k+1)=(L8 s k||Ob (sig s.types[k])):=by simp[L8,zB s k h,Bool.or_assoc]
theorem Og (s:ah) (k:Nat) (h:k<s.types.length):Ua s (k+1)=(Ua s k||Fq (sig s.types[k])):=by simp[Ua,zB s k h]
theorem Oh (s:ah) (k:Nat) (h:k<s.types.length):Ub s (k+1)=Q8 (Ub s k) s.types[k] s.types[k].fields.length:=by simp[Ub,Q8,zB s k h,Oc,sig]
theorem Oi (b:Bool) (T:uq) (j:Nat) (h:j<T.fields.length):Q8 b T (j+1)=(Q8 b T j||gQ T.fields[j]):=by
 rw[Q8,List.take_succ_eq_append_getElem h,List.any_append,<-Bool.or_assoc];simp[Q8]
theorem Fv (s:ah):L8 s 0=(decide (16<s.types.length)||decide (64<s.syms.length)):=by simp[L8]
theorem Kz (s:ah) (h:16<s.types.length):L8 s 0=true:=by rw[Fv,decide_eq_true h];rfl
theorem KC (s:ah):(decide ((16:Int)<s.types.length)||decide ((64:Int)<s.syms.length))=L8 s 0:=by
 rw[Fv];exact congr (congrArg or (decide_eq_decide.2 (by omega))) (decide_eq_decide.2 (by omega))
def VK (s:ah):Bool:=Be ((s.types.map (·.name)).map (·.toList))
def VL (s:ah):Bool:=Be (s.syms.map (·.toList))
theorem KD (s : ah) : uw (s.types.map sig) s.syms =
  if L8 s s.types.length=true then 2 else if(Ua s s.types.length||VK s||VL s)=true then 10 else if Ub s s.types.length=true then 11 else 0:=by
 have e:((s.types.map sig).map (·.1.toList))=(s.types.map (·.name)).map (·.toList):=by simp only[List.map_map];rfl
 unfold uw L8 Ua Ub;rw[Q9,e,List.length_map];rfl
theorem Ic (s : ah) (w : World) (h : s.ok w w.heap.size) :
  Calls Try.prog 44 #[s.val] w fun e w'=>e=.returned (.int .i64 (uw (s.types.map sig) s.syms))/\Below w.heap.size w w':=by
 obtain⟨rd,len,each,VJ,slen,ssize⟩:=h;obtain⟨iS,hS,hS0,hS1,hS2⟩:=info_parts Ju;have HR:=KD s;have HS:=zH HR;clear HR;unfold ah.val;rcases Nat.lt_or_ge 16 s.types.length with h16|h16
 all_goals
  go_enter Try.func44,Try.ntmps44
  go_wp2
  go_loopw [3, 6, 27] (fun lg v i wr => ∃ (k : Nat) (A : Option Addr) (c : Nat), k ≤ s.types.length ∧ lg = .bool (L8 s k) ∧ v = .slice A k c ∧ i = .int .i64 k ∧ Below w.heap.size w wr ∧
    Bk wr w.heap.size 61 #[.slice s.ta s.types.length s.tc,.slice s.sa s.syms.length s.sc]/\wr.ownsRow (w.heap.size+1) 9 1 (.slice A k c) k ((s.types.take k).map fun t=>.string t.name)) (fun _ _ i _=>s.types.length-(intOf i).toNat)
  case atStart=>exact⟨0,none,0,Nat.zero_le _,by first|rw[Kz s h16]|rw[KC],rfl,rfl,zR.alloc zL _,Bk.new _ _ _,World.ownsRow_nil _ _ _ _⟩
  case round=>
   obtain⟨k,A,c,hk,rfl,rfl,rfl,hbel,hb0,hown⟩:=hrel;obtain⟨wo,rfl⟩:∃wo:World,wo=wr:=⟨_,rfl⟩
   by_cases hlt:k<s.types.length
   ·obtain⟨b,o,hfa,hb,hc⟩:=(rd.below hbel).elem (n:=2) (fun _=>rfl) (by omega) hlt;have hc0:wo.cell? ⟨b,o+k*2,none⟩=some (.string s.types[k].name):=hc 0 _ rfl;have hc1:wo.cell? ⟨b,o+k*2+1,none⟩=some (.slice s.types[k].fa s.types[k].fields.length s.types[k].fc):=hc 1 _ rfl;have hls:=Oe s k hlt;have htk:(s.types.take (k+1)).map (fun t=>Value.string t.name)=(s.types.take k).map (fun t=>Value.string t.name)++[.string s.types[k].name]:=by rw[List.take_succ_eq_append_getElem hlt,List.map_append];rfl
    have HLS:=zH hls;have Qo:=zH htk;clear hc hls htk;rw[hfa];have HF:=zH hfa;clear hfa;generalize s.types[k]=T at *;have hz:=hbel.size;have hzz:=hb0.lt;generalize hlg:L8 s k=lg at *;cases lg
    all_goals
     go_wp2_with (at_builtin;refine az rfl _ _ 59 rfl (w.heap.size+1) 9 iS _ 1 16 Try.underlying59 hS hS0 hS1 hS2 rfl (by decide) (.slice A k c) k ((s.types.take k).map fun t=>.string t.name) rfl ((hown.alloc _).alloc _) (wo.heap.size+1+1) (some ⟨wo.heap.size+1,0,none⟩) 1 1 [.string T.name] rfl (Rd.lit (by simp) _ _) rfl ?c2 ?c3 ?c4 ?c5 ?_)
     case c2=>first|rfl|(intro u hu;simp at hu;subst hu;rfl)
     case c3=>unfold maxLen;omega
     case c4=>omega
     case c5=>first|omega|(simp;omega)
     intro A2 c2 w2 hown2 hg _;have hb2:=((hb0.alloc _).alloc _).grown hg (aF hown hb0 (by decide));have uu:Below w.heap.size w w2:=gU ((hbel.alloc hz _).alloc (by simp;omega) _) ((hown.alloc _).alloc _) (by omega) hg (by simp;omega);clear hg hown hb0;go_wp2
     go_roundw
     case rel=>
      rw[<-HF.out];refine⟨k+1,A2,c2,by omega,?_,rfl,by go_num,uu,hb2,by rw[Qo.out];simpa using hown2⟩;refine congrArg Value.bool ?_;rw[HLS.out]
      first
       |rfl
       |(rw[Bool.false_or];exact decide_eq_decide.2 (by simp only[sig];omega))
     case measure=>simp[intOf];omega
   ·have hfin:k=s.types.length:=by omega
    obtain rfl:=hfin;rw[List.take_length]at hown;generalize hlg:L8 s s.types.length=lg at *;cases lg
    ·have hspec:=HS.out;rw[if_neg (by simp)]at hspec;have HS2:=zH hspec;clear hspec HS;have hc0:wo.cell? ⟨w.heap.size,0,none⟩=some (.slice s.ta s.types.length s.tc):=hb0.cell 0;have hz:=hb0.lt;go_wp2
     clear hc0 hlt hk
     go_loopw[4,5,48] (fun nm kd i wr=>∃k:Nat,k<=s.types.length/\nm=.bool (Ua s k)/\kd=.bool (Ub s k)/\i=.int .i64 k/\Below wo.heap.size wo wr) (fun _ _ i _=>s.types.length-(intOf i).toNat)
     case atStart=>exact⟨0,Nat.zero_le _,rfl,rfl,rfl,Below.refl _ _⟩
     case round=>
      obtain⟨k,hk,rfl,rfl,rfl,kR⟩:=hrel;obtain⟨wp,rfl⟩:∃wp:World,wp=wr:=⟨_,rfl⟩
      have BU:=hbel.trans (kR.mono hbel.size)
      by_cases hlt:k<s.types.length
      ·obtain⟨b,o,hfa,hb,hc⟩:=(rd.below BU).elem (n:=2) (fun _=>rfl) (by omega) hlt;have hc0:wp.cell? ⟨b,o+k*2,none⟩=some (.string s.types[k].name):=hc 0 _ rfl;have hc1:wp.cell? ⟨b,o+k*2+1,none⟩=some (.slice s.types[k].fa s.types[k].fields.length s.types[k].fc):=hc 1 _ rfl;have HN:=zH (Og s k hlt);have HD:=zH (Oh s k hlt);obtain⟨XY,Zk,_,fsz⟩:=each s.types[k] (by simp);clear hc;rw[hfa];have HF:=zH hfa;clear hfa;generalize s.types[k]=T at *;generalize hkd:Ub s k=kd at *;have Jv:=zH hkd;clear hkd;have hzo:=kR.size;go_wp2
       go_loopw [5, 11, 55] (fun kk v i wr => ∃ (j : Nat) (A' : Option Addr) (c' : Nat), j ≤ T.fields.length ∧ kk = .bool (Q8 kd T j) ∧ v = .slice A' j c' ∧ i = .int .i64 j ∧ Below wp.heap.size wp wr ∧
         wr.ownsRow wp.heap.size 9 1 (.slice A' j c') j ((T.fields.take j).map fun f=>.string f.name)) (fun _ _ i _=>T.fields.length-(intOf i).toNat)
       case atStart=>exact⟨0,none,0,Nat.zero_le _,by simp[Q8],rfl,rfl,zR.alloc zL _,World.ownsRow_nil _ _ _ _⟩
       case round=>
        clear hc0 hc1;obtain⟨j,A',c',hj,rfl,rfl,rfl,hbi,xe⟩:=hrel
        by_cases hlj:j<T.fields.length
        ·obtain⟨b,o,hfa,hb,hc⟩:=((XY.below BU).below (hbi.mono BU.size)).elem (n:=2) (fun _=>rfl) (by omega) hlj;have hc0:wr.cell? ⟨b,o+j*2,none⟩=some (.string T.fields[j].name):=hc 0 _ rfl;have hc1:wr.cell? ⟨b,o+j*2+1,none⟩=some (.int .i64 T.fields[j].kind):=hc 1 _ rfl;have HJ:=zH (Oi kd T j hlj);have htk:(T.fields.take (j+1)).map (fun f=>Value.string f.name)=(T.fields.take j).map (fun f=>Value.string f.name)++[.string T.fields[j].name]:=by rw[List.take_succ_eq_append_getElem hlj,List.map_append];rfl
         have Qo:=zH htk;clear hc htk;rw[hfa];clear hfa;generalize T.fields[j]=f at *;generalize Zl:Q8 kd T j=kf at *;have hzi:=hbi.size;go_wp2_with (at_builtin;refine az rfl _ _ 59 rfl wp.heap.size 9 iS _ 1 16 Try.underlying59 hS hS0 hS1 hS2 rfl (by decide) (.slice A' j c') j ((T.fields.take j).map fun f=>.string f.name) rfl ((xe.alloc _).alloc _) (wr.heap.size+1+1) (some ⟨wr.heap.size+1,0,none⟩) 1 1 [.string f.name] rfl (Rd.lit (by simp) _ _) rfl ?c2 ?c3 ?c4 ?c5 ?_)
         case c2=>first|rfl|(intro u hu;simp at hu;subst hu;rfl)
         case c3=>unfold maxLen;omega
         case c4=>omega
         case c5=>first|omega|(simp;omega)
         intro A2 c2 w2 hown2 hg _;have kf0:=((Bk.new wr 86 #[.string f.name,.int .i64 f.kind]).alloc (.cells #[.string f.name] 9)).grown hg (aF ((xe.alloc (.cells #[.string f.name,.int .i64 f.kind] 86)).alloc (.cells #[.string f.name] 9)) ((Bk.new wr 86 #[.string f.name,.int .i64 f.kind]).alloc (.cells #[.string f.name] 9)) (by decide));have Rf:Below wp.heap.size wp w2:=gU ((hbi.alloc hzi _).alloc (by simp;omega) _) ((xe.alloc _).alloc _) (by omega) hg (by simp;omega);have hk1:w2.cell? ⟨wr.heap.size,1,none⟩=some (.int .i64 f.kind):=kf0.cell 1;have hkl:=kf0.lt;clear hg xe kf0 hc0 hc1;have HKF:=zH Zl;clear Zl;cases kf
         ·by_cases hf1:f.kind<1
          ·have HB:Hid (gQ f=true):=(by simp[gQ,hf1]:gQ f=true)
           go_wp2
           go_roundw
           case rel=>exact⟨j+1,A2,c2,by omega,congrArg Value.bool (by rw[HJ.out,HB.out];rfl),rfl,by go_num,Rf,by rw[Qo.out];simpa using hown2⟩
           case measure=>simp[intOf];omega
          ·by_cases hf2:4<f.kind
           ·have HB:Hid (gQ f=true):=(by simp[gQ,hf2]:gQ f=true)
            go_wp2
            go_roundw
            case rel=>exact⟨j+1,A2,c2,by omega,congrArg Value.bool (by rw[HJ.out,HB.out];first|rfl|simp[hf2]),rfl,by go_num,Rf,by rw[Qo.out];simpa using hown2⟩
            case measure=>simp[intOf];omega
           ·have HB:Hid (gQ f=false):=(by simp[gQ,hf1,hf2]:gQ f=false)
            go_wp2
            go_roundw
            case rel=>exact⟨j+1,A2,c2,by omega,congrArg Value.bool (by rw[HJ.out,HB.out];first|rfl|simp[hf2]),rfl,by go_num,Rf,by rw[Qo.out];simpa using hown2⟩
            case measure=>simp[intOf];omega
         ·go_wp2
          go_roundw
          case rel=>exact⟨j+1,A2,c2,by omega,congrArg Value.bool (by rw[HJ.out];rfl),rfl,by go_num,Rf,by rw[Qo.out];simpa using hown2⟩
          case measure=>simp[intOf];omega
        ·obtain rfl:j=T.fields.length:=by omega
         rw[List.take_length]at xe;have Rh:Below wo.heap.size wo wr:=kR.trans (hbi.mono hzo);have hnl:T.fields.map (fun f=>Value.string f.name)=(T.fields.map (·.name)).map .string:=by rw[List.map_map];rfl
         rw[hnl]at xe;have hrd:=bP xe;have hln:(T.fields.map (·.name)).length=T.fields.length:=by simp
         have hnt:Be ((T.fields.map (·.name)).map (·.toList))=Fq (sig T):=by unfold Fq fieldsOf;rw[List.map_map];rfl
         have HNT:=zH hnt;have hcall:=fun(A:Option Addr) (c:Nat)=>Du A c (T.fields.map (·.name)) wr.heap.size wr
         rw[hln,hnt]at hcall;have HC:=zH hcall;clear hcall hnl hln hnt xe;generalize hnm:Ua s k=nm at *;have rJ:=zH hnm;clear hnm;cases nm
         ·go_wp2_with fail
          refine(HC.out _ _ hrd zL (by unfold maxLen;omega)).mono ?_;rintro e w5 ⟨rfl,hb5⟩;have hbo5:=Rh.trans (hb5.mono Rh.size);clear hb5 Rh hrd;go_wp2
          go_roundw
          case rel=>exact⟨k+1,by omega,congrArg Value.bool (by rw[HN.out];simp),congrArg Value.bool (by rw[HD.out]),by go_num,hbo5⟩
          case measure=>simp[intOf];omega
         ·go_wp2
          go_roundw
          case rel=>exact⟨k+1,by omega,congrArg Value.bool (by rw[HN.out];simp),congrArg Value.bool (by rw[HD.out]),by go_num,Rh⟩
          case measure=>simp[intOf];omega
      ·obtain rfl:k=s.types.length:=by omega
       have hown5:=aP hown kR;have hb5:=hb0.old kR;have hrd:=bP hown5;have hnl:s.types.map (fun t=>Value.string t.name)=(s.types.map (·.name)).map .string:=by rw[List.map_map];rfl
       rw[hnl]at hrd;have hln:(s.types.map (·.name)).length=s.types.length:=by simp
       have hcall:=fun(A:Option Addr) (c:Nat)=>Du A c (s.types.map (·.name)) wp.heap.size wp
       have htb:Be ((s.types.map (·.name)).map (·.toList))=VK s:=rfl;rw[hln,htb]at hcall;have Ie:=fun(A:Option Addr) (c:Nat) (W:World)=>Du A c s.syms W.heap.size W
       have hsb:Be (s.syms.map (·.toList))=VL s:=rfl;rw[hsb]at Ie;have HC:=zH hcall;have HC2:=zH Ie;clear hcall Ie hnl hln hown5 hown htb hsb;generalize hT:VK s=bT at *;generalize hY:VL s=bY at *;generalize hnm:Ua s s.types.length=nm at *;generalize hkd:Ub s s.types.length=kd at *;cases nm
       ·go_wp2_with fail
        refine(HC.out _ _ hrd zL (by unfold maxLen;omega)).mono ?_;rintro e w5 ⟨rfl,VM⟩;have hb6:=hb5.old VM;have xg:=BU.trans (VM.mono BU.size);have hrs:=(VJ.below xg).more xg.size;clear VM hb5 hrd;have hc1:w5.cell? ⟨w.heap.size,1,none⟩=some (.slice s.sa s.syms.length s.sc):=hb6.cell 1;cases bT
        ·go_wp2_with fail
         refine(HC2.out _ _ _ hrs zL (by unfold maxLen;omega)).mono ?_;rintro e w6 ⟨rfl,hb7⟩;have oO:=xg.trans (hb7.mono xg.size);clear hb7 hc1;cases bY
         ·cases kd
          all_goals
           go_wp2
           go_ret
           exact⟨fC (by rw[HS2.out];simp),oO⟩
         ·go_wp2
          go_ret
          exact⟨fC (by rw[HS2.out];simp),oO⟩
        ·go_wp2
         go_ret
         exact⟨fC (by rw[HS2.out];simp),xg⟩
       ·go_wp2
        go_ret
        exact⟨fC (by rw[HS2.out];simp),BU⟩
    ·go_wp2
     go_ret
     exact⟨fC (by rw[HS.out];simp),hbel⟩
end Go.Proofs.Ytbjnhllkdilpfaa
