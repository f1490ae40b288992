/- Part 22 of the proof. No conditions. -/
import Derived.Test.YtbjnhllkdilpfaaGreatZf10
set_option linter.unusedVariables false
set_option linter.unusedSimpArgs false
set_option maxRecDepth 100000
set_option maxHeartbeats 16000000
namespace Go.Proofs.YtbjnhllkdilpfaaGreat
open Go.RowKit _root_.Go.Proofs.Tryz
def Tc (s:ai) (k:Nat):Bool:=(decide (16<s.types.length)||decide (64<s.syms.length))||((s.types.map sig).take k).any Ux
def Zx (s:ai) (k:Nat):Bool:=((s.types.map sig).take k).any Jv
def Zy (s:ai) (k:Nat):Bool:=((s.types.map sig).take k).any Uy
def X4 (b:Bool) (T:rV) (j:Nat):Bool:=b||(T.fields.take j).any iO
theorem CP (s:ai) (k:Nat) (h:k<s.types.length):(s.types.map sig).take (k+1)=(s.types.map sig).take k++[sig s.types[k]]:=by rw[zGc (by simpa using h)];simp
theorem X5 (s:ai):(s.types.map sig).take s.types.length=s.types.map sig:=zHv (by simp)
theorem Uz (s:ai) (k:Nat) (h:k<s.types.length):Tc s (k+1)=(Tc s k||Ux (sig s.types[k])):=by simp[Tc,CP s k h,Bool.or_assoc]
theorem UA (s:ai) (k:Nat) (h:k<s.types.length):Zx s (k+1)=(Zx s k||Jv (sig s.types[k])):=by simp[Zx,CP s k h]
theorem UB (s:ai) (k:Nat) (h:k<s.types.length):Zy s (k+1)=X4 (Zy s k) s.types[k] s.types[k].fields.length:=by simp[Zy,X4,CP s k h,Uy,sig]
theorem UC (b:Bool) (T:rV) (j:Nat) (h:j<T.fields.length):X4 b T (j+1)=(X4 b T j||iO T.fields[j]):=by
 rw[X4,zGc h,List.any_append,<-Bool.or_assoc];simp[X4]
theorem Jw (s:ai):Tc s 0=(decide (16<s.types.length)||decide (64<s.syms.length)):=by simp[Tc]
theorem QR (s:ai) (h:16<s.types.length):Tc s 0=true:=by rw[Jw,zGm h];rfl
theorem QS (s:ai):(decide ((16:Int)<s.types.length)||decide ((64:Int)<s.syms.length))=Tc s 0:=by
 rw[Jw];exact congr (zGv or (zJ7.2 (by omega))) (zJ7.2 (by omega))
def zA8 (s:ai):Bool:=Eg ((s.types.map (·.name)).map (·.toList))
def zA9 (s:ai):Bool:=Eg (s.syms.map (·.toList))
theorem QT (s:ai):xO (s.types.map sig) s.syms=
  if Tc s s.types.length=true then 2 else if(Zx s s.types.length||zA8 s||zA9 s)=true then 10 else if Zy s s.types.length=true then 11 else 0:=by
 have e:((s.types.map sig).map (·.1.toList))=(s.types.map (·.name)).map (·.toList):=by simp only[zHh];rfl
 unfold xO Tc Zx Zy;rw[X5,e,zF5];rfl
theorem Na (s:ai) (w:World) (h:s.ok w w.heap.size):
  Calls prog 42 #[s.val] w λe w'=>e=.returned (.int .i64 (xO (s.types.map sig) s.syms))/\Below w w w':=by
 obtain⟨rd,ag,Z,a7,aa,a3⟩:=h;obtain⟨iS,hS,Y,a0,a2⟩:=zG4 Pn;have a:=QT s;have HS:=zH a;clear a;unfold ai.val;rcases zHu 16 s.types.length with a1|a1
 all_goals
  go_enter func42,ntmps42
  go_wp2
  go_loopw [3, 6, 27] (λX v i wr => ∃ (k : Nat) (A : Option Addr) (c : Nat), k ≤ s.types.length ∧ X = .bool (Tc s k) ∧ v = .slice A k c ∧ i = .int .i64 k ∧ Below w w wr ∧
    Bk wr w.heap.size 25 #[.slice s.ta s.types.length s.tc,.slice s.sa s.syms.length s.sc]/\wr.ownsRow (w.heap.size+1) 9 1 (.slice A k c) k ((s.types.take k).map λt=>.string t.name)) (λ_ _ i _=>s.types.length-(intOf i).toNat)
  case atStart=>exact⟨0,none,0,zFj _,by first|rw[QR s a1]|rw[QS],rfl,rfl,zR.alloc zL _,Bk.new _ _ _,zGs _ _ _ _⟩
  case round=>
   obtain⟨k,A,c,hk,rfl,rfl,rfl,m,q,g⟩:=hrel;obtain⟨D,rfl⟩:∃D:World,D=wr:=⟨_,rfl⟩
   by_cases p:k<s.types.length
   ·obtain⟨b,o,l,hb,B⟩:=(rd.below m).elem (n:=2) (λ_=>rfl) (by omega) p;have r:D.cell? ⟨b,o+k*2,none⟩=some (.string s.types[k].name):=B 0 _ rfl;have x:D.cell? ⟨b,o+k*2+1,none⟩=some (.slice s.types[k].fa s.types[k].fields.length s.types[k].fc):=B 1 _ rfl;have a:=Uz s k p;have C:(s.types.take (k+1)).map (λt=>Value.string t.name)=(s.types.take k).map (λt=>Value.string t.name)++[.string s.types[k].name]:=by rw[zGc p,zGr];rfl
    have a5:=zH a;have Q:=zH C;clear B a C;rw[l];have HF:=zH l;clear l;generalize s.types[k]=T at *;have hz:=m.size;have am:=q.lt;generalize a4:Tc s k=X at *;cases X
    all_goals
     go_wp2_with (at_builtin;refine aU rfl _ _ 23 rfl (w.heap.size+1) 9 iS _ 1 16 underlying23 hS Y a0 a2 rfl (by decide) (.slice A k c) k ((s.types.take k).map λt=>.string t.name) rfl ((g.alloc _).alloc _) (D.heap.size+1+1) (some ⟨D.heap.size+1,0,none⟩) 1 1 [.string T.name] rfl (Rd.lit (by simp) _ _) rfl ?c2 ?c3 ?c4 ?c5 ?_)
     case c2=>first|rfl|(intro u hu;simp at hu;subst hu;rfl)
     case c3=>unfold maxLen;omega
     case c4=>omega
     case c5=>first|omega|(simp;omega)
     intro R c2 w2 d O _;have a:=((q.alloc _).alloc _).grown O (aN g q (by decide));have y:Below w w w2:=eU ((m.alloc hz _).alloc (by simp;omega) _) ((g.alloc _).alloc _) (by omega) O (by simp;omega);clear O g q;go_wp2
     go_roundw
     case rel=>
      rw[<-HF.out];refine⟨k+1,R,c2,by omega,?_,rfl,by go_num,y,a,by rw[Q.out];simpa using d⟩;refine zGv Value.bool ?_;rw[a5.out]
      first
       |rfl
       |(rw[zLb];exact zJ7.2 (by simp only[sig];omega))
     case measure=>simp[intOf];omega
   have a:k=s.types.length:=by omega
   obtain rfl:=a;rw[zH3]at g;generalize a4:Tc s s.types.length=X at *;cases X
   ·have a:=HS.out;rw[zF2 (by simp)]at a;have H:=zH a;clear a HS;have r:D.cell? ⟨w.heap.size,0,none⟩=some (.slice s.ta s.types.length s.tc):=q.cell 0;have hz:=q.lt;go_wp2
    clear r p hk
    go_loopw[4,5,48] (λU M i wr=>∃k:Nat,k<=s.types.length/\U=.bool (Zx s k)/\M=.bool (Zy s k)/\i=.int .i64 k/\Below D D wr) (λ_ _ i _=>s.types.length-(intOf i).toNat)
    case atStart=>exact⟨0,zFj _,rfl,rfl,rfl,zGp _ _⟩
    case round=>
     obtain⟨k,hk,rfl,rfl,rfl,mD⟩:=hrel;obtain⟨z,rfl⟩:∃z:World,z=wr:=⟨_,rfl⟩
     have P:=m.trans (mD.mono m.size)
     by_cases p:k<s.types.length
     ·obtain⟨b,o,l,hb,B⟩:=(rd.below P).elem (n:=2) (λ_=>rfl) (by omega) p;have r:z.cell? ⟨b,o+k*2,none⟩=some (.string s.types[k].name):=B 0 _ rfl;have x:z.cell? ⟨b,o+k*2+1,none⟩=some (.slice s.types[k].fa s.types[k].fields.length s.types[k].fc):=B 1 _ rfl;have HN:=zH (UA s k p);have HD:=zH (UB s k p);obtain⟨a8,a9,_,ad⟩:=Z s.types[k] (by simp);clear B;rw[l];have HF:=zH l;clear l;generalize s.types[k]=T at *;generalize L:Zy s k=M at *;have Po:=zH L;clear L;have Nb:=mD.size;go_wp2
      go_loopw [5, 11, 55] (λa v i wr => ∃ (j : Nat) (A' : Option Addr) (c' : Nat), j ≤ T.fields.length ∧ a = .bool (X4 M T j) ∧ v = .slice A' j c' ∧ i = .int .i64 j ∧ Below z z wr ∧
        wr.ownsRow z.heap.size 9 1 (.slice A' j c') j ((T.fields.take j).map λf=>.string f.name)) (λ_ _ i _=>T.fields.length-(intOf i).toNat)
      case atStart=>exact⟨0,none,0,zFj _,by simp[X4],rfl,rfl,zR.alloc zL _,zGs _ _ _ _⟩
      case round=>
       clear r x;obtain⟨j,A',c',hj,rfl,rfl,rfl,I,J⟩:=hrel
       by_cases K:j<T.fields.length
       ·obtain⟨b,o,l,hb,B⟩:=((a8.below P).below (I.mono P.size)).elem (n:=2) (λ_=>rfl) (by omega) K;have r:wr.cell? ⟨b,o+j*2,none⟩=some (.string T.fields[j].name):=B 0 _ rfl;have x:wr.cell? ⟨b,o+j*2+1,none⟩=some (.int .i64 T.fields[j].kind):=B 1 _ rfl;have HJ:=zH (UC M T j K);have C:(T.fields.take (j+1)).map (λf=>Value.string f.name)=(T.fields.take j).map (λf=>Value.string f.name)++[.string T.fields[j].name]:=by rw[zGc K,zGr];rfl
        have Q:=zH C;clear B C;rw[l];clear l;generalize T.fields[j]=f at *;generalize y:X4 M T j=kf at *;have a6:=I.size;go_wp2_with (at_builtin;refine aU rfl _ _ 23 rfl z.heap.size 9 iS _ 1 16 underlying23 hS Y a0 a2 rfl (by decide) (.slice A' j c') j ((T.fields.take j).map λf=>.string f.name) rfl ((J.alloc _).alloc _) (wr.heap.size+1+1) (some ⟨wr.heap.size+1,0,none⟩) 1 1 [.string f.name] rfl (Rd.lit (by simp) _ _) rfl ?c2 ?c3 ?c4 ?c5 ?_)
        case c2=>first|rfl|(intro u hu;simp at hu;subst hu;rfl)
        case c3=>unfold maxLen;omega
        case c4=>omega
        case c5=>first|omega|(simp;omega)
        intro R c2 w2 d O _;have a:=((Bk.new wr 112 #[f.name,f.kind]).alloc (.cells #[f.name] 9)).grown O (aN ((J.alloc (.cells #[f.name,f.kind] 112)).alloc (.cells #[f.name] 9)) ((Bk.new wr 112 #[f.name,f.kind]).alloc (.cells #[f.name] 9)) (by decide));have X6:Below z z w2:=eU ((I.alloc a6 _).alloc (by simp;omega) _) ((J.alloc _).alloc _) (by omega) O (by simp;omega);have al:w2.cell? ⟨wr.heap.size,1,none⟩=some (.int .i64 f.kind):=a.cell 1;have af:=a.lt;clear O J a r x;have ab:=zH y;clear y;cases kf
        ·by_cases y:f.kind<1
         ·have E:Hid (iO f=true):=(by simp[iO,y]:iO f=true)
          go_wp2
          go_roundw
          case rel=>exact⟨j+1,R,c2,by omega,zGv Value.bool (by rw[HJ.out,E.out];rfl),rfl,by go_num,X6,by rw[Q.out];simpa using d⟩
          case measure=>simp[intOf];omega
         by_cases a:4<f.kind
         ·have E:Hid (iO f=true):=(by simp[iO,a]:iO f=true)
          go_wp2
          go_roundw
          case rel=>exact⟨j+1,R,c2,by omega,zGv Value.bool (by rw[HJ.out,E.out];first|rfl|simp[a]),rfl,by go_num,X6,by rw[Q.out];simpa using d⟩
          case measure=>simp[intOf];omega
         have E:Hid (iO f=false):=(by simp[iO,y,a]:iO f=false)
         go_wp2
         go_roundw
         case rel=>exact⟨j+1,R,c2,by omega,zGv Value.bool (by rw[HJ.out,E.out];first|rfl|simp[a]),rfl,by go_num,X6,by rw[Q.out];simpa using d⟩
         case measure=>simp[intOf];omega
        go_wp2
        go_roundw
        case rel=>exact⟨j+1,R,c2,by omega,zGv Value.bool (by rw[HJ.out];rfl),rfl,by go_num,X6,by rw[Q.out];simpa using d⟩
        case measure=>simp[intOf];omega
       obtain rfl:j=T.fields.length:=by omega
       rw[zH3]at J;have X7:Below D D wr:=mD.trans (I.mono Nb);have E:T.fields.map (λf=>Value.string f.name)=(T.fields.map (·.name)).map .string:=by rw[zHh];rfl
       rw[E]at J;have y:=fM J;have F:(T.fields.map (·.name)).length=T.fields.length:=by simp
       have G:Eg ((T.fields.map (·.name)).map (·.toList))=Jv (sig T):=by unfold Jv fieldsOf;rw[zHh];rfl
       have ak:=zH G;have a:=fun(A:Option Addr) (c:Nat)=>Gz A c (T.fields.map (·.name)) wr.heap.size wr
       rw[F,G]at a;have HC:=zH a;clear a E F G J;generalize N:Zx s k=U at *;have uS:=zH N;clear N;cases U
       ·go_wp2_with fail
        refine(HC.out _ _ y zL (by unfold maxLen;omega)).mono ?_;rintro e w5 ⟨rfl,G⟩;have S:=X7.trans (G.mono X7.size);clear G X7 y;go_wp2
        go_roundw
        case rel=>exact⟨k+1,by omega,zGv Value.bool (by rw[HN.out];simp),zGv Value.bool (by rw[HD.out]),by go_num,S⟩
        case measure=>simp[intOf];omega
       go_wp2
       go_roundw
       case rel=>exact⟨k+1,by omega,zGv Value.bool (by rw[HN.out];simp),zGv Value.bool (by rw[HD.out]),by go_num,X7⟩
       case measure=>simp[intOf];omega
     obtain rfl:k=s.types.length:=by omega
     have d:=aT g mD;have G:=q.old mD;have y:=fM d;have E:s.types.map (λt=>Value.string t.name)=(s.types.map (·.name)).map .string:=by rw[zHh];rfl
     rw[E]at y;have F:(s.types.map (·.name)).length=s.types.length:=by simp
     have a:=fun(A:Option Addr) (c:Nat)=>Gz A c (s.types.map (·.name)) z.heap.size z
     have J:Eg ((s.types.map (·.name)).map (·.toList))=zA8 s:=rfl;rw[F,J]at a;have O:=fun(A:Option Addr) (c:Nat) (W:World)=>Gz A c s.syms W.heap.size W
     have I:Eg (s.syms.map (·.toList))=zA9 s:=rfl;rw[I]at O;have HC:=zH a;have K:=zH O;clear a O E F d g J I;generalize hT:zA8 s=bT at *;generalize hY:zA9 s=S at *;generalize N:Zx s s.types.length=U at *;generalize L:Zy s s.types.length=M at *;cases U
     ·go_wp2_with fail
      refine(HC.out _ _ y zL (by unfold maxLen;omega)).mono ?_;rintro e w5 ⟨rfl,d⟩;have O:=G.old d;have I:=P.trans (d.mono P.size);have J:=(a7.below I).more I.size;clear d G y;have x:w5.cell? ⟨w.heap.size,1,none⟩=some (.slice s.sa s.syms.length s.sc):=O.cell 1;cases bT
      ·go_wp2_with fail
       refine(K.out _ _ _ J zL (by unfold maxLen;omega)).mono ?_;rintro e w6 ⟨rfl,d⟩;have R:=I.trans (d.mono I.size);clear d x;cases S
       ·cases M
        all_goals
         go_wp2
         go_ret
         exact⟨gJ (by rw[H.out];simp),R⟩
       go_wp2
       go_ret
       exact⟨gJ (by rw[H.out];simp),R⟩
      go_wp2
      go_ret
      exact⟨gJ (by rw[H.out];simp),I⟩
     go_wp2
     go_ret
     exact⟨gJ (by rw[H.out];simp),P⟩
   go_wp2
   go_ret
   exact⟨gJ (by rw[HS.out];simp),m⟩
end Go.Proofs.YtbjnhllkdilpfaaGreat
