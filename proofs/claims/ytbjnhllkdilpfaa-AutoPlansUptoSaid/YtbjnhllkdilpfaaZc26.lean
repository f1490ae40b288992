/- Part 26 of the proof. No conditions. -/
import Derived.Test.YtbjnhllkdilpfaaZc24
import Derived.Test.YtbjnhllkdilpfaaZc23
import Derived.Test.YtbjnhllkdilpfaaZc25
namespace Go.Proofs.Ytbjnhllkdilpfaa
open Go.RowKit
set_option maxRecDepth 10000
abbrev Rj:=ByteArray×List oZ
def fieldsOf (t:Rj):List (List UInt8):=t.2.map (·.name.toList)
def gZ (f:oZ):Bool:=decide (f.kind<1)||decide (4<f.kind)
def Rk (t:Rj):Bool:=decide (8<t.2.length)
def Rn (t:Rj):Bool:=t.2.any gZ
def Hz (t:Rj):Bool:=CE (fieldsOf t)
def eZ (b:Bool):Int:=if b=true then 11 else 0
def vY (T:List Rj) (Y:List ByteArray):Int:=
 if(decide (16<T.length)||decide (64<Y.length)||T.any Rk)=true then 2
 else if(T.any Hz||CE (T.map (·.1.toList))||CE (Y.map (·.toList)))=true then 10
 else eZ (T.any Rn)
end Go.Proofs.Ytbjnhllkdilpfaa
namespace Go.Proofs.Ytbjnhllkdilpfaa
open Go.RowKit
set_option maxRecDepth 100000
set_option maxHeartbeats 16000000
set_option linter.unusedVariables false
set_option linter.unusedSimpArgs false
def Pv (s:ai) (k:Nat):Bool:=(decide (16<s.types.length)||decide (64<s.syms.length))||((s.types.map sig).take k).any Rk
def Xr (s:ai) (k:Nat):Bool:=((s.types.map sig).take k).any Hz
def Xt (s:ai) (k:Nat):Bool:=((s.types.map sig).take k).any Rn
def Vs (b:Bool) (T:vX) (j:Nat):Bool:=b||(T.fields.take j).any gZ
theorem Bg (s:ai) (k:Nat) (h:k<s.types.length):(s.types.map sig).take (k+1)=(s.types.map sig).take k++[sig s.types[k]]:=by rw[List.take_succ_eq_append_getElem (by simpa using h)];simp
theorem Vt (s:ai):(s.types.map sig).take s.types.length=s.types.map sig:=List.take_of_length_le (by simp)
theorem Rq (s:ai) (k:Nat) (h:k<s.types.length):Pv s (k+1)=(Pv s k||Rk (sig s.types[k])):=by simp[Pv,Bg s k h,Bool.or_assoc]
theorem Ru (s:ai) (k:Nat) (h:k<s.types.length):Xr s (k+1)=(Xr s k||Hz (sig s.types[k])):=by simp[Xr,Bg s k h]
theorem Rx (s:ai) (k:Nat) (h:k<s.types.length):Xt s (k+1)=Vs (Xt s k) s.types[k] s.types[k].fields.length:=by simp[Xt,Vs,Bg s k h,Rn,sig]
theorem Ry (b:Bool) (T:vX) (j:Nat) (h:j<T.fields.length):Vs b T (j+1)=(Vs b T j||gZ T.fields[j]):=by
 rw[Vs,List.take_succ_eq_append_getElem h,List.any_append,<-Bool.or_assoc];simp[Vs]
theorem H8 (s:ai):Pv s 0=(decide (16<s.types.length)||decide (64<s.syms.length)):=by simp[Pv]
theorem Oi (s:ai) (h:16<s.types.length):Pv s 0=true:=by rw[H8,decide_eq_true h];rfl
theorem Oj (s:ai):(decide ((16:Int)<s.types.length)||decide ((64:Int)<s.syms.length))=Pv s 0:=by
 rw[H8];exact congr (congrArg or (decide_eq_decide.2 (by omega))) (decide_eq_decide.2 (by omega))
def YI (s:ai):Bool:=CE ((s.types.map (·.name)).map (·.toList))
def YJ (s:ai):Bool:=CE (s.syms.map (·.toList))
theorem Ol (s : ai) : vY (s.types.map sig) s.syms =
  if Pv s s.types.length=true then 2 else if(Xr s s.types.length||YI s||YJ s)=true then 10 else if Xt s s.types.length=true then 11 else 0:=by
 have e:((s.types.map sig).map (·.1.toList))=(s.types.map (·.name)).map (·.toList):=by simp only[List.map_map];rfl
 unfold vY Pv Xr Xt;rw[Vt,e,List.length_map];rfl
theorem Ko (s : ai) (w : World) (h : s.ok w w.heap.size) :
  Calls Try.prog 44 #[s.val] w fun e w'=>e=.returned (.int .i64 (vY (s.types.map sig) s.syms))/\Below w.heap.size w w':=by
 obtain⟨rd,len,each,YH,slen,ssize⟩:=h;obtain⟨iS,hS,hS0,hS1,hS2⟩:=info_parts MM;have HR:=Ol s;have HS:=zH HR;clear HR;unfold ai.val;rcases Nat.lt_or_ge 16 s.types.length with h16|h16
 all_goals
  go_enter Try.func44,Try.ntmps44
  go_wp2
  go_loopw [3, 6, 27] (fun lg v i wr => ∃ (k : Nat) (A : Option Addr) (c : Nat), k ≤ s.types.length ∧ lg = .bool (Pv s k) ∧ v = .slice A k c ∧ i = .int .i64 k ∧ Below w.heap.size w wr ∧
    Bk wr w.heap.size 61 #[.slice s.ta s.types.length s.tc,.slice s.sa s.syms.length s.sc]/\wr.ownsRow (w.heap.size+1) 9 1 (.slice A k c) k ((s.types.take k).map fun t=>.string t.name)) (fun _ _ i _=>s.types.length-(intOf i).toNat)
  case atStart=>exact⟨0,none,0,Nat.zero_le _,by first|rw[Oi s h16]|rw[Oj],rfl,rfl,zR.alloc zL _,Bk.new _ _ _,World.ownsRow_nil _ _ _ _⟩
  case round=>
   obtain⟨k,A,c,hk,rfl,rfl,rfl,hbel,hb0,hown⟩:=hrel;obtain⟨wo,rfl⟩:∃wo:World,wo=wr:=⟨_,rfl⟩
   by_cases hlt:k<s.types.length
   ·obtain⟨b,o,hfa,hb,hc⟩:=(rd.below hbel).elem (n:=2) (fun _=>rfl) (by omega) hlt;have hc0:wo.cell? ⟨b,o+k*2,none⟩=some (.string s.types[k].name):=hc 0 _ rfl;have hc1:wo.cell? ⟨b,o+k*2+1,none⟩=some (.slice s.types[k].fa s.types[k].fields.length s.types[k].fc):=hc 1 _ rfl;have hls:=Rq s k hlt;have htk:(s.types.take (k+1)).map (fun t=>Value.string t.name)=(s.types.take k).map (fun t=>Value.string t.name)++[.string s.types[k].name]:=by rw[List.take_succ_eq_append_getElem hlt,List.map_append];rfl
    have HLS:=zH hls;have UB:=zH htk;clear hc hls htk;rw[hfa];have HF:=zH hfa;clear hfa;generalize s.types[k]=T at *;have hz:=hbel.size;have hzz:=hb0.lt;generalize hlg:Pv s k=lg at *;cases lg
    all_goals
     go_wp2_with (at_builtin;refine aH rfl _ _ 59 rfl (w.heap.size+1) 9 iS _ 1 16 Try.underlying59 hS hS0 hS1 hS2 rfl (by decide) (.slice A k c) k ((s.types.take k).map fun t=>.string t.name) rfl ((hown.alloc _).alloc _) (wo.heap.size+1+1) (some ⟨wo.heap.size+1,0,none⟩) 1 1 [.string T.name] rfl (Rd.lit (by simp) _ _) rfl ?c2 ?c3 ?c4 ?c5 ?_)
     case c2=>first|rfl|(intro u hu;simp at hu;subst hu;rfl)
     case c3=>unfold maxLen;omega
     case c4=>omega
     case c5=>first|omega|(simp;omega)
     intro A2 c2 w2 hown2 hg _;have hb2:=((hb0.alloc _).alloc _).grown hg (aO hown hb0 (by decide));have pK:Below w.heap.size w w2:=dY ((hbel.alloc hz _).alloc (by simp;omega) _) ((hown.alloc _).alloc _) (by omega) hg (by simp;omega);clear hg hown hb0;go_wp2
     go_roundw
     case rel=>
      rw[<-HF.out];refine⟨k+1,A2,c2,by omega,?_,rfl,by go_num,pK,hb2,by rw[UB.out];simpa using hown2⟩;refine congrArg Value.bool ?_;rw[HLS.out]
      first
       |rfl
       |(rw[Bool.false_or];exact decide_eq_decide.2 (by simp only[sig];omega))
     case measure=>simp[intOf];omega
   ·have hfin:k=s.types.length:=by omega
    obtain rfl:=hfin;rw[List.take_length]at hown;generalize hlg:Pv s s.types.length=lg at *;cases lg
    ·have hspec:=HS.out;rw[if_neg (by simp)]at hspec;have HS2:=zH hspec;clear hspec HS;have hc0:wo.cell? ⟨w.heap.size,0,none⟩=some (.slice s.ta s.types.length s.tc):=hb0.cell 0;have hz:=hb0.lt;go_wp2
     clear hc0 hlt hk
     go_loopw[4,5,48] (fun nm kd i wr=>∃k:Nat,k<=s.types.length/\nm=.bool (Xr s k)/\kd=.bool (Xt s k)/\i=.int .i64 k/\Below wo.heap.size wo wr) (fun _ _ i _=>s.types.length-(intOf i).toNat)
     case atStart=>exact⟨0,Nat.zero_le _,rfl,rfl,rfl,Below.refl _ _⟩
     case round=>
      obtain⟨k,hk,rfl,rfl,rfl,lF⟩:=hrel;obtain⟨wp,rfl⟩:∃wp:World,wp=wr:=⟨_,rfl⟩
      have DK:=hbel.trans (lF.mono hbel.size)
      by_cases hlt:k<s.types.length
      ·obtain⟨b,o,hfa,hb,hc⟩:=(rd.below DK).elem (n:=2) (fun _=>rfl) (by omega) hlt;have hc0:wp.cell? ⟨b,o+k*2,none⟩=some (.string s.types[k].name):=hc 0 _ rfl;have hc1:wp.cell? ⟨b,o+k*2+1,none⟩=some (.slice s.types[k].fa s.types[k].fields.length s.types[k].fc):=hc 1 _ rfl;have HN:=zH (Ru s k hlt);have HD:=zH (Rx s k hlt);obtain⟨frd,flen,_,fsz⟩:=each s.types[k] (by simp);clear hc;rw[hfa];have HF:=zH hfa;clear hfa;generalize s.types[k]=T at *;generalize hkd:Xt s k=kd at *;have MN:=zH hkd;clear hkd;have hzo:=lF.size;go_wp2
       go_loopw [5, 11, 55] (fun kk v i wr => ∃ (j : Nat) (A' : Option Addr) (c' : Nat), j ≤ T.fields.length ∧ kk = .bool (Vs kd T j) ∧ v = .slice A' j c' ∧ i = .int .i64 j ∧ Below wp.heap.size wp wr ∧
         wr.ownsRow wp.heap.size 9 1 (.slice A' j c') j ((T.fields.take j).map fun f=>.string f.name)) (fun _ _ i _=>T.fields.length-(intOf i).toNat)
       case atStart=>exact⟨0,none,0,Nat.zero_le _,by simp[Vs],rfl,rfl,zR.alloc zL _,World.ownsRow_nil _ _ _ _⟩
       case round=>
        clear hc0 hc1;obtain⟨j,A',c',hj,rfl,rfl,rfl,hbi,yJ⟩:=hrel
        by_cases hlj:j<T.fields.length
        ·obtain⟨b,o,hfa,hb,hc⟩:=((frd.below DK).below (hbi.mono DK.size)).elem (n:=2) (fun _=>rfl) (by omega) hlj;have hc0:wr.cell? ⟨b,o+j*2,none⟩=some (.string T.fields[j].name):=hc 0 _ rfl;have hc1:wr.cell? ⟨b,o+j*2+1,none⟩=some (.int .i64 T.fields[j].kind):=hc 1 _ rfl;have HJ:=zH (Ry kd T j hlj);have htk:(T.fields.take (j+1)).map (fun f=>Value.string f.name)=(T.fields.take j).map (fun f=>Value.string f.name)++[.string T.fields[j].name]:=by rw[List.take_succ_eq_append_getElem hlj,List.map_append];rfl
         have UB:=zH htk;clear hc htk;rw[hfa];clear hfa;generalize T.fields[j]=f at *;generalize hkf:Vs kd T j=kf at *;have hzi:=hbi.size;go_wp2_with (at_builtin;refine aH rfl _ _ 59 rfl wp.heap.size 9 iS _ 1 16 Try.underlying59 hS hS0 hS1 hS2 rfl (by decide) (.slice A' j c') j ((T.fields.take j).map fun f=>.string f.name) rfl ((yJ.alloc _).alloc _) (wr.heap.size+1+1) (some ⟨wr.heap.size+1,0,none⟩) 1 1 [.string f.name] rfl (Rd.lit (by simp) _ _) rfl ?c2 ?c3 ?c4 ?c5 ?_)
         case c2=>first|rfl|(intro u hu;simp at hu;subst hu;rfl)
         case c3=>unfold maxLen;omega
         case c4=>omega
         case c5=>first|omega|(simp;omega)
         intro A2 c2 w2 hown2 hg _;have kf0:=((Bk.new wr 86 #[.string f.name,.int .i64 f.kind]).alloc (.cells #[.string f.name] 9)).grown hg (aO ((yJ.alloc (.cells #[.string f.name,.int .i64 f.kind] 86)).alloc (.cells #[.string f.name] 9)) ((Bk.new wr 86 #[.string f.name,.int .i64 f.kind]).alloc (.cells #[.string f.name] 9)) (by decide));have Vu:Below wp.heap.size wp w2:=dY ((hbi.alloc hzi _).alloc (by simp;omega) _) ((yJ.alloc _).alloc _) (by omega) hg (by simp;omega);have hk1:w2.cell? ⟨wr.heap.size,1,none⟩=some (.int .i64 f.kind):=kf0.cell 1;have hkl:=kf0.lt;clear hg yJ kf0 hc0 hc1;have HKF:=zH hkf;clear hkf;cases kf
         ·by_cases hf1:f.kind<1
          ·have HB:Hid (gZ f=true):=(by simp[gZ,hf1]:gZ f=true)
           go_wp2
           go_roundw
           case rel=>exact⟨j+1,A2,c2,by omega,congrArg Value.bool (by rw[HJ.out,HB.out];rfl),rfl,by go_num,Vu,by rw[UB.out];simpa using hown2⟩
           case measure=>simp[intOf];omega
          ·by_cases hf2:4<f.kind
           ·have HB:Hid (gZ f=true):=(by simp[gZ,hf2]:gZ f=true)
            go_wp2
            go_roundw
            case rel=>exact⟨j+1,A2,c2,by omega,congrArg Value.bool (by rw[HJ.out,HB.out];first|rfl|simp[hf2]),rfl,by go_num,Vu,by rw[UB.out];simpa using hown2⟩
            case measure=>simp[intOf];omega
           ·have HB:Hid (gZ f=false):=(by simp[gZ,hf1,hf2]:gZ f=false)
            go_wp2
            go_roundw
            case rel=>exact⟨j+1,A2,c2,by omega,congrArg Value.bool (by rw[HJ.out,HB.out];first|rfl|simp[hf2]),rfl,by go_num,Vu,by rw[UB.out];simpa using hown2⟩
            case measure=>simp[intOf];omega
         ·go_wp2
          go_roundw
          case rel=>exact⟨j+1,A2,c2,by omega,congrArg Value.bool (by rw[HJ.out];rfl),rfl,by go_num,Vu,by rw[UB.out];simpa using hown2⟩
          case measure=>simp[intOf];omega
        ·obtain rfl:j=T.fields.length:=by omega
         rw[List.take_length]at yJ;have Vw:Below wo.heap.size wo wr:=lF.trans (hbi.mono hzo);have hnl:T.fields.map (fun f=>Value.string f.name)=(T.fields.map (·.name)).map .string:=by rw[List.map_map];rfl
         rw[hnl]at yJ;have hrd:=dG yJ;have hln:(T.fields.map (·.name)).length=T.fields.length:=by simp
         have hnt:CE ((T.fields.map (·.name)).map (·.toList))=Hz (sig T):=by unfold Hz fieldsOf;rw[List.map_map];rfl
         have HNT:=zH hnt;have hcall:=fun(A:Option Addr) (c:Nat)=>EF A c (T.fields.map (·.name)) wr.heap.size wr
         rw[hln,hnt]at hcall;have HC:=zH hcall;clear hcall hnl hln hnt yJ;generalize hnm:Xr s k=nm at *;have tJ:=zH hnm;clear hnm;cases nm
         ·go_wp2_with fail
          refine(HC.out _ _ hrd zL (by unfold maxLen;omega)).mono ?_;rintro e w5 ⟨rfl,hb5⟩;have hbo5:=Vw.trans (hb5.mono Vw.size);clear hb5 Vw hrd;go_wp2
          go_roundw
          case rel=>exact⟨k+1,by omega,congrArg Value.bool (by rw[HN.out];simp),congrArg Value.bool (by rw[HD.out]),by go_num,hbo5⟩
          case measure=>simp[intOf];omega
         ·go_wp2
          go_roundw
          case rel=>exact⟨k+1,by omega,congrArg Value.bool (by rw[HN.out];simp),congrArg Value.bool (by rw[HD.out]),by go_num,Vw⟩
          case measure=>simp[intOf];omega
      ·obtain rfl:k=s.types.length:=by omega
       have hown5:=aQ hown lF;have hb5:=hb0.old lF;have hrd:=dG hown5;have hnl:s.types.map (fun t=>Value.string t.name)=(s.types.map (·.name)).map .string:=by rw[List.map_map];rfl
       rw[hnl]at hrd;have hln:(s.types.map (·.name)).length=s.types.length:=by simp
       have hcall:=fun(A:Option Addr) (c:Nat)=>EF A c (s.types.map (·.name)) wp.heap.size wp
       have htb:CE ((s.types.map (·.name)).map (·.toList))=YI s:=rfl;rw[hln,htb]at hcall;have Kq:=fun(A:Option Addr) (c:Nat) (W:World)=>EF A c s.syms W.heap.size W
       have hsb:CE (s.syms.map (·.toList))=YJ s:=rfl;rw[hsb]at Kq;have HC:=zH hcall;have HC2:=zH Kq;clear hcall Kq hnl hln hown5 hown htb hsb;generalize hT:YI s=bT at *;generalize hY:YJ s=bY at *;generalize hnm:Xr s s.types.length=nm at *;generalize hkd:Xt s s.types.length=kd at *;cases nm
       ·go_wp2_with fail
        refine(HC.out _ _ hrd zL (by unfold maxLen;omega)).mono ?_;rintro e w5 ⟨rfl,YK⟩;have hb6:=hb5.old YK;have yK:=DK.trans (YK.mono DK.size);have hrs:=(YH.below yK).more yK.size;clear YK hb5 hrd;have hc1:w5.cell? ⟨w.heap.size,1,none⟩=some (.slice s.sa s.syms.length s.sc):=hb6.cell 1;cases bT
        ·go_wp2_with fail
         refine(HC2.out _ _ _ hrs zL (by unfold maxLen;omega)).mono ?_;rintro e w6 ⟨rfl,hb7⟩;have pO:=yK.trans (hb7.mono yK.size);clear hb7 hc1;cases bY
         ·cases kd
          all_goals
           go_wp2
           go_ret
           exact⟨fF (by rw[HS2.out];simp),pO⟩
         ·go_wp2
          go_ret
          exact⟨fF (by rw[HS2.out];simp),pO⟩
        ·go_wp2
         go_ret
         exact⟨fF (by rw[HS2.out];simp),yK⟩
       ·go_wp2
        go_ret
        exact⟨fF (by rw[HS2.out];simp),DK⟩
    ·go_wp2
     go_ret
     exact⟨fF (by rw[HS.out];simp),hbel⟩
end Go.Proofs.Ytbjnhllkdilpfaa
namespace Go.Proofs.Ytbjnhllkdilpfaa
open Go.RowKit
set_option linter.unusedSimpArgs false
set_option linter.unusedVariables false
set_option maxRecDepth 10000
end Go.Proofs.Ytbjnhllkdilpfaa
namespace Go.Proofs.Ytbjnhllkdilpfaa
open Go.RowKit
set_option linter.unusedVariables false
set_option maxRecDepth 10000
def sg (neg:Bool) (n:Nat):Int:=if neg=true then -(n:Int)else n
end Go.Proofs.Ytbjnhllkdilpfaa
namespace Go.Proofs.Ytbjnhllkdilpfaa
open Go.RowKit
set_option maxRecDepth 100000
set_option maxHeartbeats 16000000
set_option linter.unusedVariables false
set_option linter.unusedSimpArgs false
theorem sF (a : Nat) (h : a < 18446744073709551616) (w : World) :
  Calls Try.prog 101 #[.int .u64 a] w fun e w'=>e=.returned (.float .f64 (bu a))/\w=w':=by
 have hb:=ofBits (bu a)
 go_enter Try.func101,Try.ntmps101
 go_wp2_with (go_at_call 102;refine(uy a h _).mono ?_;rintro e w' ⟨rfl,rfl⟩)
 go_ret
 exact⟨rfl,rfl⟩
theorem VB (a b : Nat) (ha : a < 18446744073709551616) (hb : b < 18446744073709551616) (w : World) :
  Calls Try.prog 96 #[.int .i64 3,.int .u64 a,.int .u64 b] w fun e w'=>e=.returned (.int .u64 (FI .mul (bu a) (bu b):Nat))/\Below w.heap.size w w':=by
 obtain⟨r,wr,e1,hb1,hc,hr⟩:=rJ .add (by simp) 177 (bu a) (bu b) w;obtain⟨r2,wr2,e2,hb2,hc2,hr2⟩:=rJ .mul (by simp) 177 (bu a) (bu b) wr;rw[<-hc2];clear hc hc2;have hbt:=bitsOf r2
 go_enter Try.func96,Try.ntmps96
 go_wp2_with fail
 refine(sF a ha _).mono ?_;rintro e w' ⟨rfl,rfl⟩;go_wp2_with fail
 refine(sF b hb _).mono ?_;rintro e w' ⟨rfl,rfl⟩;go_wp2_with fail
 refine(uy r2 hr2 _).mono ?_;rintro e w' ⟨rfl,rfl⟩;go_wp2_with fail
 go_ret
 exact⟨rfl,hb1.trans (hb2.mono hb1.size)⟩
theorem VC (a b : Nat) (ha : a < 18446744073709551616) (hb : b < 18446744073709551616) (w : World) :
  Calls Try.prog 96 #[.int .i64 4,.int .u64 a,.int .u64 b] w fun e w'=>e=.returned (.int .u64 (FI .quo (bu a) (bu b):Nat))/\Below w.heap.size w w':=by
 obtain⟨r,wr,e1,hb1,hc,hr⟩:=rJ .add (by simp) 177 (bu a) (bu b) w;obtain⟨r2,wr2,e2,hb2,hc2,hr2⟩:=rJ .quo (by simp) 177 (bu a) (bu b) wr;rw[<-hc2];clear hc hc2;have hbt:=bitsOf r2
 go_enter Try.func96,Try.ntmps96
 go_wp2_with fail
 refine(sF a ha _).mono ?_;rintro e w' ⟨rfl,rfl⟩;go_wp2_with fail
 refine(sF b hb _).mono ?_;rintro e w' ⟨rfl,rfl⟩;go_wp2_with fail
 refine(uy r2 hr2 _).mono ?_;rintro e w' ⟨rfl,rfl⟩;go_wp2_with fail
 go_ret
 exact⟨rfl,hb1.trans (hb2.mono hb1.size)⟩
end Go.Proofs.Ytbjnhllkdilpfaa
namespace Go.Proofs.Ytbjnhllkdilpfaa
open Go.RowKit
set_option linter.unusedSimpArgs false
set_option linter.unusedVariables false
set_option maxRecDepth 10000
def ku (M:Nat):Nat:=M/2048+if 1024<M%2048\/(M%2048=1024/\M/2048%2=1)then 1 else 0
theorem EK {m:Nat} (h0:m≠0) (h:m<=9223372036854775808):m.log2<=63/\2^m.log2<=m/\m<2^(m.log2+1):=by
 refine⟨?_,Nat.log2_self_le h0,Nat.lt_log2_self⟩;have:m.log2<64:=(Nat.log2_lt h0).2 (by omega);omega
theorem shifted {m:Nat} (h0:m≠0) (h:m<=9223372036854775808):9223372036854775808<=m*2^(63-m.log2)/\m*2^(63-m.log2)<18446744073709551616:=by
 obtain⟨h1,h2,h3⟩:=EK h0 h
 constructor
 ·have:=Nat.mul_le_mul_right (2^(63-m.log2)) h2;rw[<-Nat.pow_add,show m.log2+(63-m.log2)=63 by omega]at this;exact this
 ·have:=Nat.mul_lt_mul_of_pos_right h3 (Nat.two_pow_pos (63-m.log2));rw[<-Nat.pow_add,show m.log2+1+(63-m.log2)=64 by omega]at this;exact this
theorem VD (neg:Bool) (n:Nat):Ieee.Toward.even.cut neg n 0=n:=by
 unfold Ieee.Toward.cut;simp[Nat.mod_one]
theorem RN (neg:Bool) (m d:Nat) (hd:d<=m.log2+2):Ieee.Toward.even.cut neg m d=m/2^d+if 2^d<2*(m%2^d)\/(2^d=2*(m%2^d)/\m/2^d%2=1)then 1 else 0:=by
 unfold Ieee.Toward.cut;rw[Nat.min_eq_left hd,Nat.one_shiftLeft];simp only
 congr 1
 by_cases h1:2^d<2*(m%2^d)
 ·rw[if_pos (.inl h1)];simp[h1]
 ·by_cases h2:2^d=2*(m%2^d)/\m/2^d%2=1
  ·rw[if_pos (.inr h2)];simp[h1,h2.2,<-h2.1]
  ·rw[if_neg (fun h=>h.elim h1 h2)]
   by_cases h3:2^d=2*(m%2^d)
   ·have:¬m/2^d%2=1:=fun h=>h2 ⟨h3,h⟩
    simp[h1,this]
   ·simp[h1,h3]
theorem kept {m : Nat} (neg : Bool) (h0 : m ≠ 0) (h : m ≤ 9223372036854775808) :
  Ieee.Toward.even.cut neg (m <<< (0-((m.log2:Int)-52)).toNat) ((m.log2:Int)-52-0).toNat=ku (m*2^(63-m.log2)):=by
 obtain⟨h1,h2,h3⟩:=EK h0 h;unfold ku
 by_cases hl:m.log2<=52
 ·rw[show((m.log2:Int)-52-0).toNat=0 by omega,show(0-((m.log2:Int)-52)).toNat=52-m.log2 by omega,VD,Nat.shiftLeft_eq]
  have e:m*2^(63-m.log2)=m*2^(52-m.log2)*2048:=by
   rw[show 63-m.log2=(52-m.log2)+11 by omega,Nat.pow_add,<-Nat.mul_assoc]
  rw[e,Nat.mul_mod_left,Nat.mul_div_cancel _ (by decide)];simp
 ·have hs:(0-((m.log2:Int)-52)).toNat=0:=by omega
  rw[hs,Nat.shiftLeft_zero,show((m.log2:Int)-52-0).toNat=m.log2-52 by omega,RN _ _ _ (by omega)]
  have e:2048=2^(m.log2-52)*2^(63-m.log2):=by
   rw[<-Nat.pow_add,show m.log2-52+(63-m.log2)=11 by omega]
  have hp:=Nat.two_pow_pos (63-m.log2);have e1:m*2^(63-m.log2)/2048=m/2^(m.log2-52):=by rw[e];exact Nat.mul_div_mul_right _ _ hp
  have e2:m*2^(63-m.log2)%2048=m%2^(m.log2-52)*2^(63-m.log2):=by rw[e];exact Nat.mul_mod_mul_right _ _ _
  rw[e1,e2];generalize 2^(m.log2-52)=D at *;generalize 2^(63-m.log2)=K at *;generalize m%D=r at *
  have c1:1024<r*K<->D<2*r:=by
   constructor
   ·intro h;have:D*K<2*r*K:=by rw[<-e,Nat.mul_assoc];omega
    exact Nat.lt_of_mul_lt_mul_right this
   ·intro h;have:=Nat.mul_lt_mul_of_pos_right h hp;rw[<-e,Nat.mul_assoc]at this;omega
  have c2:r*K=1024<->D=2*r:=by
   constructor
   ·intro h;have:D*K=2*r*K:=by rw[<-e,Nat.mul_assoc];omega
    exact Nat.eq_of_mul_eq_mul_right hp this
   ·intro h;have:D*K=2*r*K:=by rw[h]
    rw[<-e,Nat.mul_assoc]at this;omega
  simp only[c1,c2]
theorem RP {M:Nat} (h1:9223372036854775808<=M) (h2:M<18446744073709551616):4503599627370496<=ku M/\ku M<=9007199254740992:=by
 unfold ku
 split<;>omega
def Ib (n:Int):Nat:=if n<0 then 9223372036854775808 else 0
theorem Kw:ofInt 0=0:=by decide
theorem RQ {n:Int} (hn:I64 n) (h0:n≠0):ofInt n=Ib n+((1022+n.natAbs.log2)*4503599627370496+ku (n.natAbs*2^(63-n.natAbs.log2))):=by
 unfold I64 at hn;have hm:n.natAbs≠0:=by omega
 have hm2:n.natAbs<=9223372036854775808:=by omega
 obtain⟨l1,l2,l3⟩:=EK hm hm2;obtain⟨s1,s2⟩:=shifted hm hm2;have hb:=RP s1 s2;have hk:=kept (decide (n<0)) hm hm2
 have e:floatOfInt .f64 n=Ib n+((1022+n.natAbs.log2)*4503599627370496+ku (n.natAbs*2^(63-n.natAbs.log2))):=by
  show Ieee.double.nearest (decide (n<0)) n.natAbs 0=_
  unfold Ieee.Format.nearest;have e4:Ieee.double.leastPlace= -1074:=by decide
  have e3:Ieee.double.infRung=9218868437227405312:=by decide
  have e2:Ieee.double.binade=4503599627370496:=by decide
  have e5:Ieee.double.fractionBits=52:=by decide
  have e1:Ieee.double.signWeight=9223372036854775808:=by decide
  rw[if_neg hm,e4,e3,e2,e5];have el:max (0+(n.natAbs.log2:Int)-((52:Nat):Int)) (-1074)=(n.natAbs.log2:Int)-52:=by omega
  simp only[el];rw[hk];generalize ku (n.natAbs*2^(63-n.natAbs.log2))=K at *;have ex:((n.natAbs.log2:Int)-52- -1074).toNat=1022+n.natAbs.log2:=by omega
  rw[ex,Nat.min_eq_left (by omega)];unfold Ieee.Format.word Ib;rw[e1]
  by_cases hs:n<0
  ·rw[if_pos (decide_eq_true hs),if_pos hs]
  ·rw[if_neg (by simpa using hs),if_neg hs];omega
 unfold ofInt;rw[e]
 apply C9
 generalize ku (n.natAbs*2^(63-n.natAbs.log2))=K at *;unfold xA Ib
 apply decide_eq_false
 split<;>omega
end Go.Proofs.Ytbjnhllkdilpfaa
namespace Go.Proofs.Ytbjnhllkdilpfaa
open Go.RowKit
set_option maxRecDepth 100000
set_option maxHeartbeats 16000000
set_option linter.unusedVariables false
set_option linter.unusedSimpArgs false
theorem and_one (a:Nat) (h:a<18446744073709551616):bits .and .u64 (a:Int) 1=((a%2:Nat):Int):=by
 have:=u64_and_nat a 1 h (by omega);rw[show((1:Nat):Int)=1 from rfl]at this;rw[this,show 1=2^1-1 from by decide,Nat.and_two_pow_sub_one_eq_mod]
theorem Ky (n : Int) (m l : Nat) (hz : (n == 0) = false) (hs : n < 0) (hu : IntKind.u64.wrap (-(IntKind.u64.wrap n)) = (m : Int)) (hl : l ≤ 63)
  (hlo:Hid (∀j,j<63-l->m*2^j<9223372036854775808)) (hhi:Hid (9223372036854775808<=m*2^(63-l)/\m*2^(63-l)<18446744073709551616))
  (w:World):Calls Try.prog 97 #[.int .i64 n] w fun e w'=>e=.returned (.int .u64 (9223372036854775808+((1022+l)*4503599627370496+ku (m*2^(63-l)):Nat)))/\w=w':=by
 go_enter Try.func97,Try.ntmps97
 go_wp2_with fail
 clear hu hz hs
 go_loop[3,5] (fun a e=>∃j:Nat,j<=63-l/\a=.int .u64 (m*2^j:Nat)/\e=.int .i64 (63-j)) (fun _ e=>(intOf e).toNat)
 case atStart=>exact⟨0,Nat.zero_le _,by simp,rfl⟩
 case round=>
  obtain⟨j,hj,rfl,rfl⟩:=hrel
  by_cases hlt:j<63-l
  ·have hb:=hlo.out j hlt;have hs:m*2^(j+1)=m*2^j*2:=by rw[Nat.pow_succ,Nat.mul_assoc]
   have HS:=zH hs;clear hs;generalize m*2^j=M at *;have g1:((M:Int)/9223372036854775808==0)=true:=by rw[beq_iff_eq];omega
   have HB:=zH hb;clear hb;go_wp2_with fail
   have hb:=HB.out
   go_round
   case rel=>
    refine⟨j+1,by omega,?_,zl (by omega)⟩;rw[HS.out];exact zl (by first|(push_cast;omega)|(rw[IntKind.wrap_u64];push_cast;omega))
   case measure=>simp[intOf];omega
  ·have hj':j=63-l:=by omega
   subst hj';have hb:=hhi.out;generalize hM:m*2^(63-l)=M at *;have HM:=zH hM;clear hM;have g1:((M:Int)/9223372036854775808==0)=false:=zB (by omega)
   have g2:=zQ M hb.2;have g3:=and_one (M/2048) (by omega);rw[show((M/2048:Nat):Int)=(M:Int)/2048 from by omega]at g3;clear hb;go_wp2_with fail
   all_goals go_ret
   all_goals(refine⟨fF ?_,rfl⟩)
   all_goals have hb:=hhi.out
   all_goals rw[HM.out]
   all_goals(try simp only[beq_iff_eq,beq_eq_false_iff_ne,ne_eq]at *)
   all_goals unfold ku
   all_goals(try rw[if_pos (by omega)])
   all_goals(try rw[if_neg (by omega)])
   all_goals(simp only[IntKind.wrap_u64];push_cast;omega)
theorem Kz (n : Int) (m l : Nat) (hz : (n == 0) = false) (hs : 0 < n) (hu : IntKind.u64.wrap n = (m : Int)) (hl : l ≤ 63)
  (hlo:Hid (∀j,j<63-l->m*2^j<9223372036854775808)) (hhi:Hid (9223372036854775808<=m*2^(63-l)/\m*2^(63-l)<18446744073709551616))
  (w:World):Calls Try.prog 97 #[.int .i64 n] w fun e w'=>e=.returned (.int .u64 (0+((1022+l)*4503599627370496+ku (m*2^(63-l)):Nat)))/\w=w':=by
 go_enter Try.func97,Try.ntmps97
 go_wp2_with fail
 clear hu hz hs
 go_loop[3,5] (fun a e=>∃j:Nat,j<=63-l/\a=.int .u64 (m*2^j:Nat)/\e=.int .i64 (63-j)) (fun _ e=>(intOf e).toNat)
 case atStart=>exact⟨0,Nat.zero_le _,by simp,rfl⟩
 case round=>
  obtain⟨j,hj,rfl,rfl⟩:=hrel
  by_cases hlt:j<63-l
  ·have hb:=hlo.out j hlt;have hs:m*2^(j+1)=m*2^j*2:=by rw[Nat.pow_succ,Nat.mul_assoc]
   have HS:=zH hs;clear hs;generalize m*2^j=M at *;have g1:((M:Int)/9223372036854775808==0)=true:=by rw[beq_iff_eq];omega
   have HB:=zH hb;clear hb;go_wp2_with fail
   have hb:=HB.out
   go_round
   case rel=>
    refine⟨j+1,by omega,?_,zl (by omega)⟩;rw[HS.out];exact zl (by first|(push_cast;omega)|(rw[IntKind.wrap_u64];push_cast;omega))
   case measure=>simp[intOf];omega
  ·have hj':j=63-l:=by omega
   subst hj';have hb:=hhi.out;generalize hM:m*2^(63-l)=M at *;have HM:=zH hM;clear hM;have g1:((M:Int)/9223372036854775808==0)=false:=zB (by omega)
   have g2:=zQ M hb.2;have g3:=and_one (M/2048) (by omega);rw[show((M/2048:Nat):Int)=(M:Int)/2048 from by omega]at g3;clear hb;go_wp2_with fail
   all_goals go_ret
   all_goals(refine⟨fF ?_,rfl⟩)
   all_goals have hb:=hhi.out
   all_goals rw[HM.out]
   all_goals(try simp only[beq_iff_eq,beq_eq_false_iff_ne,ne_eq]at *)
   all_goals unfold ku
   all_goals(try rw[if_pos (by omega)])
   all_goals(try rw[if_neg (by omega)])
   all_goals(simp only[IntKind.wrap_u64];push_cast;omega)
theorem Bh (n:Int) (hn:I64 n) (w:World):Calls Try.prog 97 #[.int .i64 n] w fun e w'=>e=.returned (.int .u64 (ofInt n:Nat))/\w=w':=by
 by_cases h0:n=0
 ·subst h0;rw[Kw]
  go_enter Try.func97,Try.ntmps97
  go_wp2_with fail
  go_ret
  exact⟨rfl,rfl⟩
 have hm:n.natAbs≠0:=by omega
 have hn':=hn;unfold I64 at hn';have hm2:n.natAbs<=9223372036854775808:=by omega
 obtain⟨l1,l2,l3⟩:=EK hm hm2;have hs:=shifted hm hm2
 have lo:∀j,j<63-n.natAbs.log2->n.natAbs*2^j<9223372036854775808:=by
  intro j hj;have h1:n.natAbs*2^(j+1)<=n.natAbs*2^(63-n.natAbs.log2):=Nat.mul_le_mul_left _ (Nat.pow_le_pow_right (by decide) (by omega));rw[Nat.pow_succ,<-Nat.mul_assoc]at h1;omega
 have e:=RQ hn h0;rw[e];unfold Ib
 by_cases hneg:n<0
 ·rw[if_pos hneg];exact Ky n n.natAbs n.natAbs.log2 (beq_eq_false_iff_ne.2 h0) hneg (by rw[IntKind.wrap_u64,IntKind.wrap_u64];omega) l1 (zH lo) (zH hs) w
 ·rw[if_neg hneg];exact Kz n n.natAbs n.natAbs.log2 (beq_eq_false_iff_ne.2 h0) (by omega) (by rw[IntKind.wrap_u64];omega) l1 (zH lo) (zH hs) w
def CP:Nat->Nat
 |0=>4607182418800017408
 |k+1=>FI .mul (bu (CP k)) (bu (ofInt 10))
theorem VE:∀k,CP k<18446744073709551616
 |0=>by decide
 |k+1=>PG _ _ _
def y9 (n sc:Nat):Nat×Bool:=if 1000000000000000<=n\/15<sc then(0,false)else(FI .quo (bu (ofInt n)) (bu (CP sc)),true)
theorem VF (n sc:Nat):(y9 n sc).1<18446744073709551616:=by
 unfold y9
 split
 ·decide
 ·exact PG _ _ _
theorem RS (n sc:Nat) (hn:n<=9223372036854775807) (hs:sc<=1000) (w:World):Calls Try.prog 88 #[.int .i64 n,.int .i64 sc] w fun e w'=>e=.returned (.tuple #[.int .u64 ((y9 n sc).1:Nat),.bool (y9 n sc).2])/\Below w.heap.size w w':=by
 have hn0:((n:Int)<0)=False:=by simp
 by_cases hbig:1000000000000000<=n
 ·have hg:decide ((1000000000000000:Int)<=(n:Int))=true:=decide_eq_true (by omega);have hd:y9 n sc=(0,false):=by unfold y9;rw[if_pos (.inl hbig)]
  rw[hd];have hl:decide ((n:Int)<0)=false:=decide_eq_false (by omega);clear hn hbig hd hn0;generalize(n:Int)=N at *
  go_enter Try.func88,Try.ntmps88
  go_wp2
  go_ret2
  exact⟨rfl,Below.refl _ _⟩
 ·have hg:decide ((1000000000000000:Int)<=(n:Int))=false:=decide_eq_false (by omega);have hl:decide ((n:Int)<0)=false:=decide_eq_false (by omega);have hOI:∀W:World,Calls Try.prog 97 #[.int .i64 n] W fun e w'=>e=.returned (.int .u64 (ofInt n:Nat))/\W=w':=fun W=>Bh (n:Int) (by unfold I64;omega) W
  have YS:∀W:World,Calls Try.prog 97 #[.int .i64 10] W fun e w'=>e=.returned (.int .u64 (ofInt 10:Nat))/\W=w':=fun W=>Bh 10 (by unfold I64;omega) W
  by_cases h15:15<sc
  ·have hd:y9 n sc=(0,false):=by unfold y9;rw[if_pos (.inr h15)]
   rw[hd];have hI:(15:Int)<(sc:Int):=by omega
   clear hn hbig hd hn0 hOI YS h15;generalize(n:Int)=N at *
   go_enter Try.func88,Try.ntmps88
   go_wp2
   go_ret2
   exact⟨rfl,Below.refl _ _⟩
  ·have hd:y9 n sc=(FI .quo (bu (ofInt n)) (bu (CP sc)),true):=by unfold y9;rw[if_neg (by omega)]
   rw[hd];have hI:¬(15:Int)<(sc:Int):=by omega
   have HOI:=zH hOI;have HO10:=zH YS;have o10:ofInt 10<18446744073709551616:=by decide
   have oN:ofInt n<18446744073709551616:=RJ n;generalize hon:ofInt (n:Int)=on at *;obtain⟨ot,hot⟩:∃z,ofInt 10=z:=⟨_,rfl⟩
   rw[hot]at HO10 o10;have HOTT:=zH hot;obtain⟨RES,YT⟩:∃z,FI .quo (bu on) (bu (CP sc))=z:=⟨_,rfl⟩
   rw[YT];have aG:=zH YT;have HMU:=zH (fun(a:Nat) (ha:a<18446744073709551616) W=>VB a ot ha o10 W);have HQU:=zH (fun(a:Nat) (ha:a<18446744073709551616) W=>VC on a oN ha W);have HN:∀k:Nat,FI .mul (bu (CP k)) (bu ot)=CP (k+1):=fun k=>by show _=FI .mul (bu (CP k)) (bu (ofInt 10));rw[HOTT.out]
   have Gs:=zH HN;clear hn hbig hd hn0 hOI YS h15 hon hot YT HN;generalize(n:Int)=N at *
   go_enter Try.func88,Try.ntmps88
   go_wp2_with fail
   go_loopw[6,7] (fun d i wr=>∃k dn:Nat,k<=sc/\d=.int .u64 dn/\i=.int .i64 k/\Hid (CP k=dn)/\Hid (Below w.heap.size w wr)) (fun _ i _=>sc-(intOf i).toNat)
   case atStart=>exact⟨0,_,Nat.zero_le _,rfl,rfl,zH rfl,zH zR⟩
   case round=>
    obtain⟨k,dn,hk,rfl,rfl,HD,HB⟩:=hrel;have hdn:dn<18446744073709551616:=by rw[<-HD.out];exact VE k
    obtain⟨wo,rfl⟩:∃wo:World,wo=wr:=⟨_,rfl⟩
    by_cases hlt:k<sc
    ·as_aux_lemma=>
     have HM:=zH (HMU.out dn hdn);have HT:=zH (show FI .mul (bu dn) (bu ot)=CP (k+1) by rw[<-HD.out];exact Gs.out k);generalize FI .mul (bu dn) (bu ot)=dm at *;clear HMU HQU Gs HD;go_wp2_with fail
     refine(HO10.out wo).mono ?_;rintro r w2 ⟨rfl,hw2⟩;subst hw2;go_wp2_with fail
     refine(HM.out wo).mono ?_;rintro r w2 ⟨rfl,hb2⟩;have HB2:=zH (Below.trans HB.out (hb2.mono (Below.size HB.out)));clear HM hb2 HB;go_wp2_with fail
     go_roundw
     case rel=>exact⟨k+1,dm,by omega,rfl,by go_num,zH HT.out.symm,HB2⟩
     case measure=>simp[intOf];omega
    ·as_aux_lemma=>
     obtain rfl:k=sc:=by omega
     have HQ:=zH (HQU.out dn hdn);have HT:=zH (show FI .quo (bu on) (bu dn)=RES by rw[<-HD.out];exact aG.out);generalize FI .quo (bu on) (bu dn)=dm at *;clear HMU HQU Gs HD;go_wp2_with fail
     refine(HOI.out wo).mono ?_;rintro r w2 ⟨rfl,hw2⟩;subst hw2;go_wp2_with fail
     refine(HQ.out wo).mono ?_;rintro r w2 ⟨rfl,hb2⟩;have HB2:=zH (Below.trans HB.out (hb2.mono (Below.size HB.out)));clear HQ hb2 HB;go_wp2_with fail
     go_ret2
     obtain rfl:=HT.out;exact⟨rfl,HB2.out⟩
end Go.Proofs.Ytbjnhllkdilpfaa
namespace Go.Proofs.Ytbjnhllkdilpfaa
open Go.ChangeShapes Go.WideShapes Go.ChangeAt Go.RowKit
set_option linter.unusedSimpArgs false
set_option linter.unusedVariables false
theorem ln2 {cs:List Value} (h:cs.length=2):∃c0 c1,cs=[c0,c1]:=by
 match cs,h with
 |[a,b],_=>exact⟨a,b,rfl⟩
section
variable {H:Type} {enc:TypeId×Value->H} {w:World}
variable {D:Nat}
def SmE (e:PZ):Prop:=e.branch<=9223372036854775807/\e.bars.length<=1048576
def SmS (s:lh):Prop:=s.ends.length<=1048576/\s.bars.length<=1048576/\∀e∈s.ends,SmE e
variable {r:Reach} {b0:Nat} {v:Value} {d:DataW H} {p:List MemPlace}
end
theorem Ui {bs:List lh} (h:∀s∈bs,SmS s):SmT bs:=fun s hs=>⟨(h s hs).1,(h s hs).2.1,fun e he=>((h s hs).2.2 e he).2⟩
theorem zAk {bs:List lh} (h:∀s∈bs,SmS s) (n:Nat):∀b∈zu bs n,b.id<=9223372036854775807:=by
 intro b hb;obtain⟨i,_,hb⟩:=List.mem_flatMap.1 hb;obtain⟨e,he,rfl⟩:=List.mem_map.1 hb
 have:SmE e:=by
  unfold iw at he;cases hx:bs[i]? with
  |none=>rw[hx]at he;exact absurd he (by simp[stZ])
  |some s=>rw[hx]at he;exact(h s (List.mem_of_getElem? hx)).2.2 e he
 have h1:=this.1
 show e.branch.toNat<=_
 omega
end Go.Proofs.Ytbjnhllkdilpfaa
