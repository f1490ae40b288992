/- Part 4 of the proof. No conditions. -/
import Derived.Test.YtbjnhllkdilpfaaZc03
import Derived.Test.YtbjnhllkdilpfaaChecked
import Derived.Test.YtbjnhllkdilpfaaZc02
namespace Go.Proofs.Ytbjnhllkdilpfaa
open Go.RowKit
set_option maxRecDepth 10000
def xA (a:Nat):Bool:=decide (9218868437227405312<a%9223372036854775808)
def bu (a:Nat):Nat:=if xA a=true then 9221120237041090560 else a
theorem CY (a:Nat) (h:a<18446744073709551616):bu a<18446744073709551616:=by unfold bu;split<;>omega
theorem CZ (a:Nat) (h:xA a=true):bu a=9221120237041090560:=if_pos h
theorem C9 (a:Nat) (h:xA a=false):bu a=a:=if_neg (by rw[h];simp)
theorem zQ (a:Nat) (h:a<18446744073709551616):bits .and .u64 (a:Int) 2047=((a%2048:Nat):Int):=by
 have:=u64_and_nat a 2047 h (by omega);rw[show((2047:Nat):Int)=2047 from rfl]at this;rw[this,nat_mask11]
theorem PE (a:Nat) (h:a<18446744073709551616):bits .and .u64 (a:Int) 4503599627370495=((a%4503599627370496:Nat):Int):=by
 have:=u64_and_nat a 4503599627370495 h (by omega);rw[show((4503599627370495:Nat):Int)=4503599627370495 from rfl]at this;rw[this,show 4503599627370495=2^52-1 from by decide,Nat.and_two_pow_sub_one_eq_mod]
theorem UZ (a:Nat):xA a=(decide (a/4503599627370496%2048=2047)&&decide (a%4503599627370496≠0)):=by
 unfold xA;rw[Bool.eq_iff_iff];simp only[decide_eq_true_eq,Bool.and_eq_true];omega
theorem Dc (a : Nat) (h : a < 18446744073709551616) (w : World) :
  Calls Try.prog 106 #[.int .u64 a] w fun e w'=>e=.returned (.bool (xA a))/\w=w':=by
 have e1:bits .and .u64 ((a:Int)/4503599627370496) 2047=((a/4503599627370496%2048:Nat):Int):=by
  rw[<-zQ _ (by omega)];rfl
 have e2:=PE a h;have e3:=UZ a
 by_cases h1:a/4503599627370496%2048=2047
 ·by_cases h2:a%4503599627370496=0
  ·have hn:xA a=false:=by rw[e3];simp[h2]
   have g1:(bits .and .u64 ((a:Int)/4503599627370496) 2047==2047)=true:=by rw[e1,h1];rfl
   have g2:(bits .and .u64 (a:Int) 4503599627370495 !=0)=false:=by rw[e2,h2];rfl
   rw[hn];clear e1 e2 e3 h1 h2 hn
   go_enter Try.func106,Try.ntmps106
   go_wp2
   all_goals go_ret
   all_goals exact⟨rfl,rfl⟩
  ·have hn:xA a=true:=by rw[e3];simp[h1,h2]
   have g1:(bits .and .u64 ((a:Int)/4503599627370496) 2047==2047)=true:=by rw[e1,h1];rfl
   have g2:(bits .and .u64 (a:Int) 4503599627370495 !=0)=true:=by rw[e2,bne_iff_ne];omega
   rw[hn];clear e1 e2 e3 h1 h2 hn
   go_enter Try.func106,Try.ntmps106
   go_wp2
   all_goals go_ret
   all_goals exact⟨rfl,rfl⟩
 ·have hn:xA a=false:=by rw[e3];simp[h1]
  have g1:(bits .and .u64 ((a:Int)/4503599627370496) 2047==2047)=false:=by rw[e1,beq_eq_false_iff_ne];omega
  rw[hn];clear e1 e2 e3 h1 hn
  go_enter Try.func106,Try.ntmps106
  go_wp2
  all_goals go_ret
  all_goals exact⟨rfl,rfl⟩
theorem uy (a : Nat) (h : a < 18446744073709551616) (w : World) :
  Calls Try.prog 102 #[.int .u64 a] w fun e w'=>e=.returned (.int .u64 (bu a:Nat))/\w=w':=by
 cases hn:xA a
 ·rw[C9 a hn]
  go_enter Try.func102,Try.ntmps102
  go_wp2_with (go_at_call 106;refine(Dc a h _).mono ?_;rintro e w' ⟨rfl,rfl⟩)
  go_ret
  exact⟨rfl,rfl⟩
 ·rw[CZ a hn]
  go_enter Try.func102,Try.ntmps102
  go_wp2_with (go_at_call 106;refine(Dc a h _).mono ?_;rintro e w' ⟨rfl,rfl⟩)
  go_ret
  exact⟨rfl,rfl⟩
structure V where
 k:Int
 b:Nat
def V.v (x:V):Value:=.agg #[.int .i64 x.k,.int .u64 x.b]
def V.cells (x:V):List Value:=[.int .i64 x.k,.int .u64 x.b]
end Go.Proofs.Ytbjnhllkdilpfaa
namespace Go.Proofs.Ytbjnhllkdilpfaa
open Go.RowKit
set_option maxRecDepth 100000
set_option maxHeartbeats 16000000
set_option linter.unusedVariables false
set_option linter.unusedSimpArgs false
theorem U4 (a b:Nat):((a:Int) !=(b:Int))=(a !=b):=by
 by_cases h:a=b
 ·subst h;simp
 ·have h2:(a:Int)≠b:=by omega
  rw[bne_iff_ne.2 h,bne_iff_ne.2 h2]
theorem Ef (a b:Nat):((a:Int)==(b:Int))=(a==b):=by
 by_cases h:a=b
 ·subst h;simp
 ·have h2:(a:Int)≠b:=by omega
  rw[beq_eq_false_iff_ne.2 h,beq_eq_false_iff_ne.2 h2]
section
variable {w:World} {b o:Nat} {v:Value} (h:w.cell? ⟨b,o,none⟩=some v)
include h
theorem lJ:(Instr.loadAt 3 (.pointer (some ⟨b,o,none⟩))).run Try.prog w=.ok v w:=by go_simp
theorem ld2:(Instr.loadAt 2 (.pointer (some ⟨b,o,none⟩))).run Try.prog w=.ok v w:=by go_simp
theorem Gf:(Instr.loadAt 9 (.pointer (some ⟨b,o,none⟩))).run Try.prog w=.ok v w:=by go_simp
theorem Eg:(Instr.loadAt 22 (.pointer (some ⟨b,o,none⟩))).run Try.prog w=.ok v w:=by go_simp
theorem mM:(Instr.loadAt 29 (.pointer (some ⟨b,o,none⟩))).run Try.prog w=.ok v w:=by go_simp
theorem XU:(Instr.loadAt 32 (.pointer (some ⟨b,o,none⟩))).run Try.prog w=.ok v w:=by go_simp
theorem Ju:(Instr.loadAt 41 (.pointer (some ⟨b,o,none⟩))).run Try.prog w=.ok v w:=by go_simp
theorem Jv:(Instr.loadAt 42 (.pointer (some ⟨b,o,none⟩))).run Try.prog w=.ok v w:=by go_simp
theorem Cc:(Instr.loadAt 26 (.pointer (some ⟨b,o,none⟩))).run Try.prog w=.ok v w:=by go_simp
theorem XV:(Instr.loadAt 23 (.pointer (some ⟨b,o,none⟩))).run Try.prog w=.ok v w:=by go_simp
theorem XW:(Instr.loadAt 78 (.pointer (some ⟨b,o,none⟩))).run Try.prog w=.ok v w:=by go_simp
theorem LV:(Instr.loadAt 109 (.pointer (some ⟨b,o,none⟩))).run Try.prog w=.ok v w:=by go_simp
theorem U5:(Instr.loadAt 91 (.pointer (some ⟨b,o,none⟩))).run Try.prog w=.ok v w:=by go_simp
theorem ld59:(Instr.loadAt 59 (.pointer (some ⟨b,o,none⟩))).run Try.prog w=.ok v w:=by go_simp
end
end Go.Proofs.Ytbjnhllkdilpfaa
namespace Go.Proofs.Ytbjnhllkdilpfaa
open Go.RowKit
set_option maxRecDepth 10000
def fC (s:List UInt8):Nat->List (List UInt8)->Int
 |_,[]=> -1
 |k,x::l=>if x==s then k else fC s (k+1) l
theorem Rf (A : Option Addr) (c : Nat) (l : List ByteArray) (s : ByteArray) (B : Nat) (w : World) (h : Rd w B A (l.map .string)) (hm : l.length ≤ maxLen) :
  Calls Try.prog 85 #[.slice A l.length c,.string s] w fun e w'=>e=.returned (.int .i64 (fC s.toList 0 (l.map (·.toList))))/\w=w':=by
 unfold maxLen at hm
 go_enter Try.func85,Try.ntmps85
 go_wp2
 go_loop[4,5,6,9] (fun _ _ _ i=>∃k:Nat,k<=l.length/\i=.int .i64 k/\Hid (fC s.toList 0 (l.map (·.toList))=fC s.toList k ((l.drop k).map (·.toList)))) (fun _ _ _ i=>l.length-(intOf i).toNat)
 case atStart=>exact⟨0,Nat.zero_le _,rfl,rfl⟩
 case round=>
  obtain⟨k,hk,rfl,hrec⟩:=hrel
  by_cases hlt:k<l.length
  ·obtain⟨b,o,rfl,hb,hc⟩:=h.at_ (j:=k) (by simpa using hlt);have hc1:w.cell? ⟨b,o+k,none⟩=some (.string l[k]):=hc k _ (by simp[hlt]);have hd:l.drop k=l[k]::l.drop (k+1):=List.drop_eq_getElem_cons hlt;rw[hd]at hrec;clear hc hd;go_wp2
   ·go_ret
    refine⟨fF ?_,rfl⟩;have ht:(l[k].toList==s.toList)=true:=by assumption
    rw[hrec.out,List.map_cons,fC,if_pos ht]
   ·have ht:(l[k].toList==s.toList)=false:=by assumption
    go_round
    case rel=>exact⟨k+1,by omega,by go_num,by rw[hrec.out,List.map_cons,fC,ht];rfl⟩
    case measure=>simp[intOf];omega
  ·go_wp2
   go_ret
   refine⟨fF ?_,rfl⟩;rw[hrec.out,List.drop_eq_nil_of_le (by omega)];rfl
structure oZ where
 name:ByteArray
 kind:Int
structure vX where
 name:ByteArray
 fa:Option Addr
 fc:Nat
 fields:List oZ
structure ai where
 ta:Option Addr
 tc:Nat
 types:List vX
 sa:Option Addr
 sc:Nat
 syms:List ByteArray
def oZ.cells (f:oZ):List Value:=[.string f.name,.int .i64 f.kind]
def vX.cells (t:vX):List Value:=[.string t.name,.slice t.fa t.fields.length t.fc]
def ai.val (s:ai):Value:=.agg #[.slice s.ta s.types.length s.tc,.slice s.sa s.syms.length s.sc]
structure vX.ok (t:vX) (w:World) (B:Nat):Prop where
 rd:Rd w B t.fa (t.fields.flatMap oZ.cells)
 len:t.fields.length<=5864062014634
 Rh:t.name.size<=140737488351232
 Ri:∀f∈t.fields,f.name.size<=140737488351232
structure ai.ok (s:ai) (w:World) (B:Nat):Prop where
 rd:Rd w B s.ta (s.types.flatMap vX.cells)
 len:s.types.length<=3518437208780
 each:∀t∈s.types,t.ok w B
 syms:Rd w B s.sa (s.syms.map .string)
 slen:s.syms.length<=8796093021952
 ssize:∀x∈s.syms,x.size<=140737488351232
def lQ (s:List UInt8) (k:Nat) (l:List oZ):Int:=fC s k (l.map (·.name.toList))
def bM (s:ai) (t:Int) (nm:List UInt8):Int:=if 0<=t then(match s.types[t.toNat]? with|some x=>lQ nm 0 x.fields|none=> -1)else -1
theorem qV (nm:List UInt8) (l:List oZ) (k:Nat) (h:k<l.length):lQ nm k (l.drop k)=if(l[k].name.toList==nm)=true then(k:Int)else lQ nm (k+1) (l.drop (k+1)):=by
 rw[List.drop_eq_getElem_cons h];rfl
def typeAt (s:ai) (nm:List UInt8):Int:=fC nm 0 (s.types.map (·.name.toList))
theorem J9 (s : ai) (nm : ByteArray) (w : World) (h : s.ok w w.heap.size) :
  Calls Try.prog 65 #[s.val,.string nm] w fun e w'=>e=.returned (.int .i64 (typeAt s nm.toList))/\Below w.heap.size w w':=by
 obtain⟨rd,len,each,YH,slen,_⟩:=h;have hrec:typeAt s nm.toList=fC nm.toList 0 (s.types.map (·.name.toList)):=rfl;rw[hrec];unfold ai.val;clear hrec each YH slen
 go_enter Try.func65,Try.ntmps65
 go_wp2
 go_loopw[4,5,6,10] (fun _ _ _ i wr=>∃k:Nat,k<=s.types.length/\i=.int .i64 k/\Below w.heap.size w wr/\Hid (fC nm.toList 0 (s.types.map (·.name.toList))=fC nm.toList k ((s.types.drop k).map (·.name.toList)))) (fun _ _ _ i _=>s.types.length-(intOf i).toNat)
 case atStart=>exact⟨0,Nat.zero_le _,rfl,zR.alloc zL _,rfl⟩
 case round=>
  obtain⟨k,hk,rfl,hbel,hrec⟩:=hrel
  by_cases hlt:k<s.types.length
  ·obtain⟨b,o,hfa,hb,hc⟩:=(rd.below hbel).elem (n:=2) (fun _=>rfl) (by omega) hlt;have hc0:wr.cell? ⟨b,o+k*2,none⟩=some (.string s.types[k].name):=hc 0 _ rfl;have hc1:wr.cell? ⟨b,o+k*2+1,none⟩=some (.slice s.types[k].fa s.types[k].fields.length s.types[k].fc):=hc 1 _ rfl;rw[List.drop_eq_getElem_cons hlt]at hrec;rw[hfa];clear hc;go_wp2
   ·go_ret
    have ht:(s.types[k].name.toList==nm.toList)=true:=by assumption
    exact⟨fF (by rw[hrec.out,List.map_cons,fC,if_pos ht]),hbel.alloc hbel.size _⟩
   ·have ht:(s.types[k].name.toList==nm.toList)=false:=by assumption
    go_roundw
    case rel=>exact⟨k+1,by omega,by go_num,hbel.alloc hbel.size _,by rw[hrec.out,List.map_cons,fC,ht];rfl⟩
    case measure=>simp[intOf];omega
  ·go_wp2
   go_ret
   exact⟨fF (by rw[hrec.out,List.drop_eq_nil_of_le (by omega)];rfl),hbel⟩
theorem uN (s : ai) (t : Int) (nm : ByteArray) (w : World) (h : s.ok w w.heap.size) :
  Calls Try.prog 69 #[s.val,.int .i64 t,.string nm] w fun e w'=>e=.returned (.int .i64 (bM s t nm.toList))/\Below w.heap.size w w':=by
 obtain⟨rd,len,each,YH,slen,_⟩:=h
 by_cases h0:0<=t
 ·by_cases h1:t<s.types.length
  ·obtain⟨t,rfl⟩:=Int.eq_ofNat_of_zero_le h0;have h1:t<s.types.length:=by omega
   obtain⟨b,o,ht,hb,hc⟩:=rd.elem (n:=2) (fun _=>rfl) (by omega) h1;have hc1:w.cell? ⟨b,o+t*2+1,none⟩=some (.slice s.types[t].fa s.types[t].fields.length s.types[t].fc):=hc 1 _ rfl;obtain⟨frd,flen,_,_⟩:=each s.types[t] (by simp);have hspec:bM s (t:Int) nm.toList=lQ nm.toList 0 s.types[t].fields:=by simp[bM,h1]
   rw[hspec];clear hc each rd YH hspec;unfold ai.val;rw[ht];generalize s.types[t]=T at *
   go_enter Try.func69,Try.ntmps69
   go_wp2
   go_loopw[6,7,8,25] (fun _ _ _ i wr=>∃k:Nat,k<=T.fields.length/\i=.int .i64 k/\Below w.heap.size w wr/\Hid (lQ nm.toList 0 T.fields=lQ nm.toList k (T.fields.drop k))) (fun _ _ _ i _=>T.fields.length-(intOf i).toNat)
   case atStart=>exact⟨0,Nat.zero_le _,rfl,zR.alloc zL _,rfl⟩
   case round=>
    obtain⟨k,hk,rfl,hbel,hrec⟩:=hrel
    by_cases hlt:k<T.fields.length
    ·obtain⟨b,o,hfa,hb,hc⟩:=(frd.below hbel).elem (n:=2) (fun _=>rfl) (by omega) hlt;have hc0:wr.cell? ⟨b,o+k*2,none⟩=some (.string T.fields[k].name):=hc 0 _ rfl;have hc1:wr.cell? ⟨b,o+k*2+1,none⟩=some (.int .i64 T.fields[k].kind):=hc 1 _ rfl;rw[hfa];go_wp2
     ·go_ret
      have ht:(T.fields[k].name.toList==nm.toList)=true:=by assumption
      exact⟨fF (by rw[hrec.out,qV _ _ _ hlt,if_pos ht]),hbel.alloc hbel.size _⟩
     ·have ht:(T.fields[k].name.toList==nm.toList)=false:=by assumption
      go_roundw
      case rel=>exact⟨k+1,by omega,by go_num,hbel.alloc hbel.size _,by rw[hrec.out,qV _ _ _ hlt,ht];rfl⟩
      case measure=>simp[intOf];omega
    ·go_wp2
     go_ret
     exact⟨fF (by rw[hrec.out,List.drop_eq_nil_of_le (by omega)];rfl),hbel⟩
  ·have hspec:bM s t nm.toList= -1:=by
    rw[bM,if_pos h0,List.getElem?_eq_none (by omega)]
   have H:=zH hspec;clear hspec;unfold ai.val
   go_enter Try.func69,Try.ntmps69
   go_wp2
   go_ret
   exact⟨fF H.out.symm,zR.alloc zL _⟩
 ·unfold ai.val
  go_enter Try.func69,Try.ntmps69
  go_wp2
  go_ret
  exact⟨fF (by rw[bM,if_neg (by omega)]),zR.alloc zL _⟩
def fZ (s:ai) (t a:Int):Int:=
 if 0<=t then(match s.types[t.toNat]? with
  |some x=>if a= -1 then 1 else if 0<=a then(match x.fields[a.toNat]? with|some f=>f.kind|none=>0)else 0
  |none=>0)else 0
theorem Hu (s:ai) (t a:Int) (h:¬(0<=t/\t<s.types.length)):fZ s t a=0:=by
 unfold fZ
 split
 ·rw[List.getElem?_eq_none (by omega)]
 ·rfl
theorem Hw (s:ai) (t:Nat) (a:Int) (h:t<s.types.length):fZ s t a=if a= -1 then 1 else if 0<=a then(match s.types[t].fields[a.toNat]? with|some f=>f.kind|none=>0)else 0:=by
 simp[fZ,h]
theorem Hy (s : ai) (t a : Int) (w : World) (h : s.ok w w.heap.size) :
  Calls Try.prog 68 #[s.val,.int .i64 t,.int .i64 a] w fun e w'=>e=.returned (.int .i64 (fZ s t a))/\Below w.heap.size w w':=by
 obtain⟨rd,len,each,YH,slen,_⟩:=h
 by_cases h0:0<=t/\t<s.types.length
 ·obtain⟨t,rfl⟩:=Int.eq_ofNat_of_zero_le h0.1;have h1:t<s.types.length:=by omega
  obtain⟨b,o,ht,hb,hc⟩:=rd.elem (n:=2) (fun _=>rfl) (by omega) h1;have hc1:w.cell? ⟨b,o+t*2+1,none⟩=some (.slice s.types[t].fa s.types[t].fields.length s.types[t].fc):=hc 1 _ rfl;obtain⟨frd,flen,_,_⟩:=each s.types[t] (by simp);rw[Hw s t a h1];clear hc each rd YH h0;unfold ai.val;rw[ht];generalize s.types[t]=T at *
  by_cases ha:a= -1
  ·rw[if_pos ha];subst ha
   go_enter Try.func68,Try.ntmps68
   go_wp2
   go_ret
   exact⟨rfl,zR.alloc zL _⟩
  ·rw[if_neg ha]
   by_cases ha0:0<=a
   ·obtain⟨a,rfl⟩:=Int.eq_ofNat_of_zero_le ha0;rw[if_pos ha0]
    by_cases ha1:a<T.fields.length
    ·obtain⟨b2,o2,ht2,hb2,hc2⟩:=frd.elem (n:=2) (fun _=>rfl) (by omega) ha1;have hc3:w.cell? ⟨b2,o2+a*2+1,none⟩=some (.int .i64 T.fields[a].kind):=hc2 1 _ rfl;rw[ht2]at hc1;clear hc2 frd;simp only[Int.toNat_natCast,List.getElem?_eq_getElem ha1]
     go_enter Try.func68,Try.ntmps68
     go_wp2
     go_ret
     exact⟨rfl,zR.alloc zL _⟩
    ·simp only[Int.toNat_natCast,List.getElem?_eq_none (Nat.le_of_not_lt ha1)]
     go_enter Try.func68,Try.ntmps68
     go_wp2
     go_ret
     exact⟨rfl,zR.alloc zL _⟩
   ·rw[if_neg ha0]
    go_enter Try.func68,Try.ntmps68
    go_wp2
    go_ret
    exact⟨rfl,zR.alloc zL _⟩
 ·rw[Hu s t a h0];unfold ai.val
  by_cases h1:t<0
  ·go_enter Try.func68,Try.ntmps68
   go_wp2
   go_ret
   exact⟨rfl,zR.alloc zL _⟩
  ·have h2:(s.types.length:Int)<=t:=by omega
   clear h0
   go_enter Try.func68,Try.ntmps68
   go_wp2
   go_ret
   exact⟨rfl,zR.alloc zL _⟩
end Go.Proofs.Ytbjnhllkdilpfaa
