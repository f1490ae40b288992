/- Part 2 of the proof. No conditions. -/
import Derived.Test.YtbjnhllkdilpfaaZc01
namespace Go.Proofs.Ytbjnhllkdilpfaa
open Go.RowKit
set_option maxRecDepth 10000
def iM (c:Int):Bool:=decide (97<=c/\c<=122\/65<=c/\c<=90)
def jH (c:Int):Bool:=decide (48<=c/\c<=57)
def JK:List (List UInt8):=[[80,65,84,84,69,82,78],[83,69,81],[87,72,69,82,69],[83,84,82,65,84,69,71,89],[87,73,84,72,73,78],[80,65,82,84,73,84,73,79,78],[66,89],[83,84,82,73,67,84],[78,69,88,84],[65,78,89],[65,78,68],[79,82],[78,79,84],[84,82,85,69],[70,65,76,83,69],[84,73,77,69],[82,69,65,76],[73,83,78,65,78],[67,79,85,78,84],[70,73,82,83,84],[76,65,83,84],[83,85,77],[77,73,78],[77,65,88],[77,69,65,78]]
def ug (l:List UInt8):Bool:=JK.any (l==·)
theorem jW (c : Int) (w : World) :
  Calls Try.prog 74 #[.int .u8 c] w fun e w'=>e=.returned (.bool (iM c))/\w=w':=by
 by_cases a1:97<=c<;>by_cases a2:c<=122<;>by_cases a3:65<=c<;>by_cases a4:c<=90<;>
 (go_enter Try.func74,Try.ntmps74
  go_wp2
  all_goals go_ret
  all_goals(refine⟨?_,rfl⟩)
  all_goals(congr 2;simp[iM]<;>omega))
theorem rV (c : Int) (w : World) :
  Calls Try.prog 78 #[.int .u8 c] w fun e w'=>e=.returned (.bool (jH c))/\w=w':=by
 by_cases a1:48<=c<;>by_cases a2:c<=57<;>
 (go_enter Try.func78,Try.ntmps78
  go_wp2
  all_goals go_ret
  all_goals(refine⟨?_,rfl⟩)
  all_goals(congr 2;simp[jH]<;>omega))
def nD:List ByteArray:=[⟨#[80,65,84,84,69,82,78]⟩,⟨#[83,69,81]⟩,⟨#[87,72,69,82,69]⟩,⟨#[83,84,82,65,84,69,71,89]⟩,⟨#[87,73,84,72,73,78]⟩,⟨#[80,65,82,84,73,84,73,79,78]⟩,⟨#[66,89]⟩,⟨#[83,84,82,73,67,84]⟩,⟨#[78,69,88,84]⟩,⟨#[65,78,89]⟩,⟨#[65,78,68]⟩,⟨#[79,82]⟩,⟨#[78,79,84]⟩,⟨#[84,82,85,69]⟩,⟨#[70,65,76,83,69]⟩,⟨#[84,73,77,69]⟩,⟨#[82,69,65,76]⟩,⟨#[73,83,78,65,78]⟩,⟨#[67,79,85,78,84]⟩,⟨#[70,73,82,83,84]⟩,⟨#[76,65,83,84]⟩,⟨#[83,85,77]⟩,⟨#[77,73,78]⟩,⟨#[77,65,88]⟩,⟨#[77,69,65,78]⟩]
def Qr:Array Value:=(nD.map Value.string).toArray
theorem Gv:nD.map (·.toList)=JK:=by
 simp only[nD,JK,List.map_cons,List.map_nil,ByteArray.toList_eq]
theorem NU (w:World):Calls Try.prog 90 #[] w fun e w'=>e=.returned (.slice (some ⟨w.heap.size,0,none⟩) 25 25)/\Rd w' (w.heap.size+1) (some ⟨w.heap.size,0,none⟩) (nD.map Value.string)/\Below w.heap.size w w':=by
 go_enter Try.func90,Try.ntmps90
 go_wp2
 go_ret
 exact⟨rfl,Rd.lit rfl Qr _,zR.alloc zL _⟩
def qG (s:List UInt8):List (List UInt8)->Bool
 |[]=>false
 |x::l=>if x==s then true else qG s l
theorem JL (s:List UInt8) (l:List (List UInt8)):qG s l=l.any (s==·):=by
 induction l with
 |nil=>rfl
 |cons x l ih=>
  rw[qG,List.any_cons,<-ih,show(s==x)=(x==s)from by rw[Bool.eq_iff_iff,beq_iff_eq,beq_iff_eq];exact eq_comm];cases(x==s)<;>rfl
theorem xJ (s : ByteArray) (w : World) :
  Calls Try.prog 76 #[.string s] w fun e w'=>e=.returned (.bool (ug s.toList))/\Below w.heap.size w w':=by
 have hfin:ug s.toList=qG s.toList (nD.map (·.toList)):=by rw[Gv,JL];rfl
 rw[hfin];have HF:=zH hfin;clear hfin
 go_enter Try.func76,Try.ntmps76
 go_wp2_with (go_at_call 90;refine(NU _).mono ?_;rintro e w1 ⟨rfl,hr,hbel⟩)
 have hl:nD.length=25:=rfl;have HL:=zH hl;clear hl
 go_loop[7] (fun i=>∃k:Nat,k<=25/\i=.int .i64 k/\Hid (qG s.toList (nD.map (·.toList))=qG s.toList ((nD.drop k).map (·.toList)))) (fun i=>25-(intOf i).toNat)
 case atStart=>exact⟨0,Nat.zero_le _,rfl,rfl⟩
 case round=>
  obtain⟨k,hk,rfl,hrec⟩:=hrel
  by_cases hlt:k<25
  ·have hlt':k<nD.length:=by rw[HL.out];exact hlt
   obtain⟨b,o,hA,hb,hc⟩:=hr.Ls hlt';injection hA with hA
   injection hA with hA1 hA2
   subst hA1;subst hA2;rw[Nat.zero_add]at hc;rw[List.drop_eq_getElem_cons hlt']at hrec;generalize hW:nD[k]=W at *;have HW:=zH hW;clear hW;go_wp2
   ·go_ret
    have ht:(W.toList==s.toList)=true:=by assumption
    refine⟨lS ?_,hbel⟩;rw[hrec.out,List.map_cons,qG,if_pos ht]
   ·have ht:(W.toList==s.toList)=false:=by assumption
    go_round
    case rel=>exact⟨k+1,by omega,by go_num,by rw[hrec.out,List.map_cons,qG,ht];rfl⟩
    case measure=>simp[intOf];omega
  ·go_wp2
   go_ret
   refine⟨lS ?_,hbel⟩;rw[hrec.out,List.drop_eq_nil_of_le (by rw[HL.out];omega)];rfl
def okB (c:UInt8):Bool:=iM c.toNat||jH c.toNat||decide ((c.toNat:Int)=95)
def Aj (l:List UInt8):Bool:=match l with|c::_=>iM c.toNat|[]=>false
def nameB (l:List UInt8):Bool:=decide (1<=l.length/\l.length<=24)&&(Aj l&&(!ug l&&l.all okB))
theorem bC (s:ByteArray):s.toList.length=s.size:=by rw[ByteArray.toList_eq,Array.length_toList];rfl
theorem Qs (s:ByteArray) (k:Nat) (h:k<s.size):s.toList[k]'(by rw[bC];exact h)=s[k]:=by
 simp only[ByteArray.toList_eq];rfl
theorem dL (s:ByteArray) (k:Nat) (h:k<s.size):s.toList.drop k=s[k]::s.toList.drop (k+1):=by
 rw[List.drop_eq_getElem_cons (by rw[bC];exact h),Qs s k h]
theorem Am (s:ByteArray) (h:0<s.size):Aj s.toList=iM s[0].toNat:=by
 have:=dL s 0 h;rw[List.drop_zero]at this;rw[this];rfl
theorem Dt (l:List UInt8) (h:¬(1<=l.length/\l.length<=24)):nameB l=false:=by simp only[nameB,decide_eq_false h,Bool.false_and]
theorem JM (l:List UInt8) (h:Aj l=false):nameB l=false:=by simp[nameB,h]
theorem NV (l:List UInt8) (h:ug l=true):nameB l=false:=by simp[nameB,h]
theorem Qu (l:List UInt8) (h:1<=l.length/\l.length<=24) (h1:Aj l=true) (h2:ug l=false):nameB l=l.all okB:=by simp[nameB,h,h1,h2]
theorem nX (s : ByteArray) (w : World) :
  Calls Try.prog 77 #[.string s] w fun e w'=>e=.returned (.bool (nameB s.toList))/\Below w.heap.size w w':=by
 by_cases h0:1<=s.size/\s.size<=24
 ·have hpos:0<s.size:=by omega
  cases hf:iM s[0].toNat
  ·rw[JM _ ((Am s hpos).trans hf)]
   go_enter Try.func77,Try.ntmps77
   go_wp2_with (go_at_call 74;refine(jW _ _).mono ?_;rintro e w' ⟨rfl,rfl⟩)
   go_ret
   exact⟨rfl,Below.refl _ _⟩
  ·have hf':Aj s.toList=true:=(Am s hpos).trans hf;cases hw:ug s.toList
   ·have hall:=Qu s.toList (by rw[bC];exact h0) hf' hw;have HA:=zH hall;clear hall;rw[HA.out];clear hf'
    go_enter Try.func77,Try.ntmps77
    go_wp2_with (first|(go_at_call 74;refine(jW _ _).mono ?_;rintro e w' ⟨rfl,rfl⟩)|(go_at_call 76;refine(xJ _ _).mono ?_;rintro e w1 ⟨rfl,hbel⟩))
    clear hf hw
    go_loop[3] (fun i=>∃k:Nat,k<=s.size/\i=.int .i64 k/\Hid (s.toList.all okB=(s.toList.drop k).all okB)) (fun i=>s.size-(intOf i).toNat)
    case atStart=>exact⟨0,Nat.zero_le _,rfl,rfl⟩
    case round=>
     obtain⟨k,hk,rfl,hrec⟩:=hrel
     by_cases hlt:k<s.size
     ·rw[dL s k hlt,List.all_cons]at hrec;generalize hr:(s.toList.drop (k+1)).all okB=r at *;have HR:=zH hr;clear hr;cases hL:iM s[k].toNat<;>cases hD:jH s[k].toNat<;>by_cases h95:(s[k].toNat:Int)=95
      all_goals cases hok:okB s[k]
      all_goals first|(exfalso;simp[okB,hL,hD,h95]at hok;done)|skip
      all_goals have HO:=zH hok
      all_goals clear hok
      all_goals try(have h95':((s[k].toNat:Int) !=95)=false:=by simp[h95])
      all_goals try(have h95':((s[k].toNat:Int) !=95)=true:=by simp[h95])
      all_goals clear h95
      all_goals go_wp2_with (first|(go_at_call 74;refine(jW _ _).mono ?_;rintro e w' ⟨rfl,rfl⟩)|(go_at_call 78;refine(rV _ _).mono ?_;rintro e w' ⟨rfl,rfl⟩))
      all_goals first
       |(go_ret;refine⟨lS ?_,hbel⟩;rw[hrec.out,HO.out];rfl;done)
       | (go_round
          (case rel=>exact⟨k+1,by omega,by go_num,by rw[hrec.out,HO.out,Bool.true_and];exact HR.out.symm⟩)
          (case measure=>simp[intOf];omega))
     ·go_wp2
      go_ret
      refine⟨lS ?_,hbel⟩;rw[hrec.out,List.drop_eq_nil_of_le (by rw[bC];omega)];rfl
   ·rw[NV _ hw]
    go_enter Try.func77,Try.ntmps77
    go_wp2_with (first|(go_at_call 74;refine(jW _ _).mono ?_;rintro e w' ⟨rfl,rfl⟩)|(go_at_call 76;refine(xJ _ _).mono ?_;rintro e w1 ⟨rfl,hbel⟩))
    go_ret
    exact⟨rfl,hbel⟩
 ·rw[Dt _ (by rw[bC];exact h0)];rcases(by omega:s.size<1\/24<s.size)with h|h
  ·have e:s.size=0:=by omega
   clear h0
   go_enter Try.func77,Try.ntmps77
   go_wp2
   go_ret
   exact⟨rfl,Below.refl _ _⟩
  ·clear h0
   go_enter Try.func77,Try.ntmps77
   go_wp2
   go_ret
   exact⟨rfl,Below.refl _ _⟩
end Go.Proofs.Ytbjnhllkdilpfaa
namespace Go.Proofs.Ytbjnhllkdilpfaa
open Go.RowKit
set_option maxRecDepth 100000
set_option maxHeartbeats 16000000
set_option linter.unusedVariables false
set_option linter.unusedSimpArgs false
abbrev Str:=List UInt8
structure az where
 kind:Nat
 text:Str
 n:Nat
 scale:Nat
 pos:Nat
 deriving DecidableEq
def oM:az:=⟨0,[],0,0,0⟩
def xK (c:UInt8):Bool:=c==32||c==9||c==10||c==13
def fD:Str->Nat
 |[]=>0
 |c::r=>if xK c then fD r+1 else 0
def Gw (names:Bool) (c:UInt8):Bool:=jH c.toNat||(names&&(iM c.toNat||c==95))
def fK (names:Bool):Str->Nat
 |[]=>0
 |c::r=>if Gw names c then fK names r+1 else 0
def iC:Nat->Str->Nat
 |n,[]=>n
 |n,c::r=>iC (10*n+(c.toNat-48)) r
def yD (l:Str) (n:Nat):Nat:=if l[n]? =some 46 then fK false (l.drop (n+1))else 0
def numberT (l:Str):az×Nat:=
 let n:=fK false l
 let m:=yD l n
 if(1<n/\l[0]? =some 48)\/(m=0/\19<n)\/(0<m/\15<n+m)then(oM,0)
 else if m=0 then(if iC 0 (l.take n)<=9223372036854775807 then(⟨3,[],iC 0 (l.take n),0,0⟩,n)else(oM,0))
 else(⟨4,[],iC 0 (l.take n++(l.drop (n+1)).take m),m,0⟩,n+1+m)
def jb:List Str:=[[33,61],[60,61],[62,61],[40],[41],[44],[46],[43],[45],[42],[47],[37],[61],[60],[62],[33],[124]]
def yE (l:Str):List Str->Option Str
 |[]=>none
 |w::r=>if l.take w.length=w then some w else yE l r
def Qv (l:Str):az×Nat:=
 let n:=fK true (l.drop 1)
 if nameB ((l.drop 1).take n)=true/\l[1+n]? =some 39 then(⟨5,(l.drop 1).take n,0,0,0⟩,n+2)else(oM,0)
def Gx (l:Str):az×Nat:=
 let n:=fK true l
 if ug (l.take n)then(⟨1,l.take n,0,0,0⟩,n)else if nameB (l.take n)then(⟨2,l.take n,0,0,0⟩,n)else(oM,0)
def tH (l:Str):az×Nat:=
 match l with
 |[]=>(oM,0)
 |c::_=>
  if iM c.toNat then Gx l
  else if jH c.toNat then numberT l
  else if c=39 then Qv l
  else match yE l jb with
   |some w=>(⟨6,w,0,0,0⟩,w.length)
   |none=>(oM,0)
def setPos (t:az) (p:Nat):az:=⟨t.kind,t.text,t.n,t.scale,p⟩
def qH (s:Str):Nat->Nat->List az->List az×Nat×Nat
 |0,_,_=>([],0,0)
 |f+1,p,acc=>
  let p:=p+fD (s.drop p)
  if p=s.length then(acc++[setPos oM p],0,0)
  else if(tH (s.drop p)).2=0 then([],p,12)
  else qH s f (p+(tH (s.drop p)).2) (acc++[setPos (tH (s.drop p)).1 p])
def kN (s:Str):List az×Nat×Nat:=if 4000<s.length then([],0,2)else qH s (s.length+1) 0 []
inductive ax
 |leaf (op n scale:Nat) (name attr:Str) (pos:Nat)
 |un (op:Nat) (x:ax) (pos:Nat)
 |bin (op:Nat) (x y:ax) (pos:Nat)
def Ar:ax:=.leaf 0 0 0 [] [] 0
structure PS where
 i:Nat
 opn:Nat
 err:Nat
 pos:Nat
section
variable (L:List az)
def aY (s:PS):az:=L.getD s.i oM
def eX (s:PS) (w:Str):Bool:=((aY L s).kind==1||(aY L s).kind==6)&&(aY L s).text==w
def aS (e:Nat) (s:PS):PS:=if s.err=0 then⟨s.i,s.opn,e,(aY L s).pos⟩else s
def aI (s:PS):PS:=⟨s.i+1,s.opn,s.err,s.pos⟩
def aJ (w:Str) (s:PS):PS:=if s.err≠0 then s else if eX L s w then aI s else aS L 13 s
def gJ (s:PS):Str×PS:=if s.err≠0 then([],s)else if(aY L s).kind=2 then((aY L s).text,aI s)else([],aS L 13 s)
def iH:Str:=[84,73,77,69]
def ig (s:PS):Str×Str×PS:=
 let(n,s):=gJ L s
 let s:=aJ L [46] s
 if s.err=0/\eX L s iH=true then(n,iH,aI s)else(n,gJ L s)
def cZ (s:PS):PS:=
 let s1:=if s.opn=30 then aS L 14 s else s
 ⟨s1.i+1,s1.opn+1,s1.err,s1.pos⟩
def Aw (s:PS):PS:=⟨s.i,s.opn-1,s.err,s.pos⟩
def dB:Nat->List Str×Nat
 |1=>([[79,82]],14)
 |2=>([[65,78,68]],13)
 |4=>([[61],[33,61],[60],[60,61],[62],[62,61]],7)
 |5=>([[43],[45]],1)
 |6=>([[42],[47],[37]],3)
 |_=>([],0)
def nG (s:PS) (first:Nat):Nat->List Str->Nat->Nat
 |_,[],op=>op
 |i,w::r,op=>nG s first (i+1) r (if eX L s w then first+i else op)
def Uz (level:Nat) (s:PS):Nat:=nG L s (dB level).2 0 (dB level).1 0
def qI (lv:PS->ax×PS) (level:Nat):Nat->ax->PS->ax×PS
 |0,x,s=>(x,s)
 |k+1,x,s=>
  if s.err≠0 then(x,s)
  else if Uz L level s=0 then(x,s)
  else
   let at_:=(aY L s).pos
   let op:=Uz L level s
   let(y,s):=lv (aI s)
   if level=4 then(.bin op x y at_,s)else qI lv level k (.bin op x y at_) s
def wNot:Str:=[78,79,84]
def Mc (level:Nat):Str:=if level=7 then[45]else wNot
def Gy (level:Nat):Nat:=if level=7 then 6 else 15
def jl:List Str:=[[67,79,85,78,84],[70,73,82,83,84],[76,65,83,84],[83,85,77],[77,73,78],[77,65,88],[77,69,65,78]]
def Qw (s:PS) (i:Nat):Str×Str×PS:=
 let s:=aJ L [40] (aI s)
 let(n,a,s):=if i=0 then(let(n,s):=gJ L s;(n,[],s))else ig L s
 (n,a,aJ L [41] s)
def iZ (pos:Nat):Nat->List Str->Nat×Str×Str×PS->Nat×Str×Str×PS
 |_,[],r=>r
 |i,w::l,(op,n,a,s)=>iZ pos (i+1) l (if op=0/\eX L s w=true then(25+i,Qw L s i)else(op,n,a,s))
def fA (pos:Nat) (s:PS):ax×PS:=
 let(op,n,a,s):=iZ L pos 0 jl (0,[],[],s)
 (.leaf op 0 0 n a pos,if op=0 then aS L 13 s else s)
def Gz:Str:=[84,82,85,69]
def Ep:Str:=[70,65,76,83,69]
def Md:Str:=[82,69,65,76]
def Qx:Str:=[73,83,78,65,78]
def qJ (lv:PS->ax×PS) (s:PS):ax×PS:=
 let t:=aY L s
 if t.kind=3 then(.leaf 20 t.n 0 [] [] t.pos,aI s)
 else if t.kind=4 then(.leaf 21 t.n t.scale [] [] t.pos,aI s)
 else if t.kind=5 then(.leaf 23 0 0 t.text [] t.pos,aI s)
 else if t.kind=2 then(let(n,a,s):=ig L s;(.leaf 24 0 0 n a t.pos,s))
 else if eX L s [40]then(let(x,s):=lv (cZ L s);(x,Aw (aJ L [41] s)))
 else if eX L s Gz||eX L s Ep then(.leaf 22 (if eX L s Gz then 1 else 0) 0 [] [] t.pos,aI s)
 else if eX L s Md||eX L s Qx then(let(x,s1):=lv (aJ L [40] (cZ L s));(.un (if eX L s Qx then 17 else 16) x t.pos,Aw (aJ L [41] s1)))
 else fA L t.pos s
def aN:Nat->Nat->PS->ax×PS
 |0,_,s=>(Ar,s)
 |f+1,level,s=>
  if s.err≠0 then(Ar,s)
  else if level=3\/level=7 then
   (if eX L s (Mc level)then
    (let at_:=(aY L s).pos
     let(x,s):=aN f level (cZ L s)
     (.un (Gy level) x at_,Aw s))
   else aN f (level+1) s)
  else if level=8 then qJ L (aN f 1) s
  else(let(x,s):=aN f (level+1) s;qI L (aN f (level+1)) level (L.length+1) x s)
def kR:Nat:=10*L.length+10
def lY (i:Nat):ax×Nat×Nat×Nat:=
 let(x,s):=aN L (kR L) 1 ⟨i,0,0,0⟩
 if s.err≠0 then(Ar,0,s.pos,s.err)else(x,s.i,0,0)
end
def aB:ax->Nat
 |.leaf ..=>1
 |.un _ x _=>1+aB x
 |.bin _ x y _=>1+aB x+aB y
structure aZ where
 form:Nat
 type:Str
 name:Str
 pos:Nat
structure bK where
 branches:List (List aZ)
 cond:List ax
 aP:Nat
 window:Nat
 key:Str
 keyAt:Nat
def xM:bK:=⟨[],[],0,0,[],0⟩
def jI:ax->List ax
 |.bin op x y p=>if op=13 then jI x++jI y else[.bin op x y p]
 |e=>[e]
section
variable (L:List az)
def nY:Str:=[80,65,84,84,69,82,78]
def nH:Str:=[83,69,81]
def uG:Str:=[87,72,69,82,69]
def jm:Str:=[83,84,82,65,84,69,71,89]
def rW:Str:=[87,73,84,72,73,78]
def oO:Str:=[80,65,82,84,73,84,73,79,78]
def Xh:Str:=[66,89]
def oP:List Str:=[[83,84,82,73,67,84],[78,69,88,84],[65,78,89]]
def dw (s:PS):Str×PS:=if s.err≠0\/(aY L s).kind≠2 then([],aS L 13 s)else((aY L s).text,aI s)
def jo (n:Nat) (s:PS):aZ×PS:=
 let t:=aY L s
 if n=8/\(t.kind=2\/eX L s [33]=true)then(⟨0,[],[],0⟩,aS L 2 s)
 else
  let neg:=eX L s [33]
  let s:=if neg then aI s else s
  let(ty,s):=dw L s
  let plus:=decide (s.err=0)&&(!neg&&eX L s [43])
  let s:=if plus then aI s else s
  let(nm,s):=dw L s
  (⟨if neg then 3 else if plus then 2 else 1,ty,nm,t.pos⟩,s)
def oQ:Nat->List aZ->PS->List aZ×PS
 |0,l,s=>(l,s)
 |k+1,l,s=>
  if s.err≠0 then(l,s)
  else
   let(x,s):=jo L l.length s
   if s.err≠0\/eX L s [44]=false then(l++[x],s)else oQ k (l++[x]) (aI s)
def eP (nb:Nat) (s:PS):List aZ×PS:=
 let s:=if s.err=0/\eX L s nH=true/\nb=4 then aS L 2 s else s
 let s:=aJ L [40] (aJ L nH s)
 let(l,s):=oQ L (L.length+1) [] s
 (l,aJ L [41] s)
def jX:Nat->List (List aZ)->PS->List (List aZ)×PS
 |0,b,s=>(b,s)
 |k+1,b,s=>
  if s.err≠0\/eX L s [124]=false then(b,s)
  else
   let(l,s):=eP L b.length (aI s)
   jX k (b++[l]) s
def jJ (s:PS):List ax×PS:=
 if s.err≠0\/eX L s uG=false then([],s)
 else
  let r:=lY L (s.i+1)
  if r.2.2.2≠0 then([],⟨s.i+1,s.opn,r.2.2.2,r.2.2.1⟩)else(jI r.1,⟨r.2.1,s.opn,s.err,s.pos⟩)
def fU:Nat->List Str->Nat×PS->Nat×PS
 |_,[],r=>r
 |i,w::l,(st,s)=>fU (i+1) l (if s.err=0/\st=0/\eX L s w=true then(i+1,aI s)else(st,s))
def nZ (s:PS):(Nat×Nat×Str×Nat)×PS:=
 let s:=aJ L jm s
 let(st,s):=fU L 0 oP (0,s)
 let s:=if st=0 then aS L 13 s else s
 let s:=aJ L rW s
 let s:=if s.err=0/\(aY L s).kind≠3 then aS L 13 s else s
 let s:=if s.err=0/\1152921504606846976<(aY L s).n then aS L 1 s else s
 if s.err≠0 then((st,0,[],0),s)
 else
  let win:=(aY L s).n
  let s:=aI s
  if eX L s oO then
   (let s:=aJ L Xh (aI s)
    let at_:=(aY L s).pos
    let(k,s):=dw L s
    ((st,win,k,at_),s))
  else((st,win,[],0),s)
end
def aV:Nat->List ax->Nat
 |_,[]=>0
 |i,x::l=>aB x+(if 0<i then 1 else 0)+aV (i+1) l
def iJ (q:bK):Nat:=aV 0 q.cond
def JO (L:List az):bK×Nat×Nat:=
 let s:=aJ L nY ⟨0,0,0,0⟩
 let(l,s):=eP L 0 s
 let(bs,s):=jX L (L.length+1) [l] s
 let(wh,s):=jJ L s
 let((st,win,key,keyAt),s):=nZ L s
 let s:=if s.err=0/\(aY L s).kind≠0 then aS L 13 s else s
 if s.err≠0 then(xM,s.pos,s.err)
 else if 200<iJ ⟨bs,wh,st,win,key,keyAt⟩then(xM,0,2)
 else(⟨bs,wh,st,win,key,keyAt⟩,0,0)
def lq (text:Str):bK×Nat×Nat:=
 let r:=kN text
 if r.2.2≠0 then(xM,r.2.1,r.2.2)else JO r.1
end Go.Proofs.Ytbjnhllkdilpfaa
