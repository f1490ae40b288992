/- Part 4 of the proof. No conditions. -/
import Derived.Test.YtbjnhllkdilpfaaZb03
import Derived.Test.YtbjnhllkdilpfaaZb02
namespace Go.Proofs.Ytbjnhllkdilpfaa
open Go.RowKit
set_option linter.unusedSimpArgs false
set_option linter.unusedVariables false
abbrev Str:=List UInt8
structure aA where
 kind:Nat
 text:Str
 n:Nat
 scale:Nat
 pos:Nat
 deriving DecidableEq
def nS:aA:=⟨0,[],0,0,0⟩
def vG (c:UInt8):Bool:=c==32||c==9||c==10||c==13
def eY:Str->Nat
 |[]=>0
 |c::r=>if vG c then eY r+1 else 0
def Ej (names:Bool) (c:UInt8):Bool:=jy c.toNat||(names&&(iG c.toNat||c==95))
def fH (names:Bool):Str->Nat
 |[]=>0
 |c::r=>if Ej names c then fH names r+1 else 0
def ik:Nat->Str->Nat
 |n,[]=>n
 |n,c::r=>ik (10*n+(c.toNat-48)) r
def wP (l:Str) (n:Nat):Nat:=if l[n]? =some 46 then fH false (l.drop (n+1))else 0
def numberT (l:Str):aA×Nat:=
 let n:=fH false l
 let m:=wP l n
 if(1<n/\l[0]? =some 48)\/(m=0/\19<n)\/(0<m/\15<n+m)then(nS,0)
 else if m=0 then(if ik 0 (l.take n)<=9223372036854775807 then(⟨3,[],ik 0 (l.take n),0,0⟩,n)else(nS,0))
 else(⟨4,[],ik 0 (l.take n++(l.drop (n+1)).take m),m,0⟩,n+1+m)
def iW:List Str:=[[33,61],[60,61],[62,61],[40],[41],[44],[46],[43],[45],[42],[47],[37],[61],[60],[62],[33],[124]]
def wR (l:Str):List Str->Option Str
 |[]=>none
 |w::r=>if l.take w.length=w then some w else wR l r
def MJ (l:Str):aA×Nat:=
 let n:=fH true (l.drop 1)
 if nameB ((l.drop 1).take n)=true/\l[1+n]? =some 39 then(⟨5,(l.drop 1).take n,0,0,0⟩,n+2)else(nS,0)
def Em (l:Str):aA×Nat:=
 let n:=fH true l
 if rQ (l.take n)then(⟨1,l.take n,0,0,0⟩,n)else if nameB (l.take n)then(⟨2,l.take n,0,0,0⟩,n)else(nS,0)
def rH (l:Str):aA×Nat:=
 match l with
 |[]=>(nS,0)
 |c::_=>
  if iG c.toNat then Em l
  else if jy c.toNat then numberT l
  else if c=39 then MJ l
  else match wR l iW with
   |some w=>(⟨6,w,0,0,0⟩,w.length)
   |none=>(nS,0)
def setPos (t:aA) (p:Nat):aA:=⟨t.kind,t.text,t.n,t.scale,p⟩
def pG (s:Str):Nat->Nat->List aA->List aA×Nat×Nat
 |0,_,_=>([],0,0)
 |f+1,p,acc=>
  let p:=p+eY (s.drop p)
  if p=s.length then(acc++[setPos nS p],0,0)
  else if(rH (s.drop p)).2=0 then([],p,12)
  else pG s f (p+(rH (s.drop p)).2) (acc++[setPos (rH (s.drop p)).1 p])
def jY (s:Str):List aA×Nat×Nat:=if 4000<s.length then([],0,2)else pG s (s.length+1) 0 []
inductive au
 |leaf (op n scale:Nat) (name attr:Str) (pos:Nat)
 |un (op:Nat) (x:au) (pos:Nat)
 |bin (op:Nat) (x y:au) (pos:Nat)
def yN:au:=.leaf 0 0 0 [] [] 0
structure PS where
 i:Nat
 opn:Nat
 err:Nat
 pos:Nat
section
variable (L:List aA)
def bf (s:PS):aA:=L.getD s.i nS
def eQ (s:PS) (w:Str):Bool:=((bf L s).kind==1||(bf L s).kind==6)&&(bf L s).text==w
def aW (e:Nat) (s:PS):PS:=if s.err=0 then⟨s.i,s.opn,e,(bf L s).pos⟩else s
def aO (s:PS):PS:=⟨s.i+1,s.opn,s.err,s.pos⟩
def ay (w:Str) (s:PS):PS:=if s.err≠0 then s else if eQ L s w then aO s else aW L 13 s
def fZ (s:PS):Str×PS:=if s.err≠0 then([],s)else if(bf L s).kind=2 then((bf L s).text,aO s)else([],aW L 13 s)
def iq:Str:=[84,73,77,69]
def fE (s:PS):Str×Str×PS:=
 let(n,s):=fZ L s
 let s:=ay L [46] s
 if s.err=0/\eQ L s iq=true then(n,iq,aO s)else(n,fZ L s)
def aQ (s:PS):PS:=
 let s1:=if s.opn=30 then aW L 14 s else s
 ⟨s1.i+1,s1.opn+1,s1.err,s1.pos⟩
def pI (s:PS):PS:=⟨s.i,s.opn-1,s.err,s.pos⟩
def dG:Nat->List Str×Nat
 |1=>([[79,82]],14)
 |2=>([[65,78,68]],13)
 |4=>([[61],[33,61],[60],[60,61],[62],[62,61]],7)
 |5=>([[43],[45]],1)
 |6=>([[42],[47],[37]],3)
 |_=>([],0)
def mQ (s:PS) (first:Nat):Nat->List Str->Nat->Nat
 |_,[],op=>op
 |i,w::r,op=>mQ s first (i+1) r (if eQ L s w then first+i else op)
def Qj (level:Nat) (s:PS):Nat:=mQ L s (dG level).2 0 (dG level).1 0
def pJ (lv:PS->au×PS) (level:Nat):Nat->au->PS->au×PS
 |0,x,s=>(x,s)
 |k+1,x,s=>
  if s.err≠0 then(x,s)
  else if Qj L level s=0 then(x,s)
  else
   let at_:=(bf L s).pos
   let op:=Qj L level s
   let(y,s):=lv (aO s)
   if level=4 then(.bin op x y at_,s)else pJ lv level k (.bin op x y at_) s
def wNot:Str:=[78,79,84]
def Jf (level:Nat):Str:=if level=7 then[45]else wNot
def En (level:Nat):Nat:=if level=7 then 6 else 15
def je:List Str:=[[67,79,85,78,84],[70,73,82,83,84],[76,65,83,84],[83,85,77],[77,73,78],[77,65,88],[77,69,65,78]]
def MK (s:PS) (i:Nat):Str×Str×PS:=
 let s:=ay L [40] (aO s)
 let(n,a,s):=if i=0 then(let(n,s):=fZ L s;(n,[],s))else fE L s
 (n,a,ay L [41] s)
def iU (pos:Nat):Nat->List Str->Nat×Str×Str×PS->Nat×Str×Str×PS
 |_,[],r=>r
 |i,w::l,(op,n,a,s)=>iU pos (i+1) l (if op=0/\eQ L s w=true then(25+i,MK L s i)else(op,n,a,s))
def dP (pos:Nat) (s:PS):au×PS:=
 let(op,n,a,s):=iU L pos 0 je (0,[],[],s)
 (.leaf op 0 0 n a pos,if op=0 then aW L 13 s else s)
def Eo:Str:=[84,82,85,69]
def Dc:Str:=[70,65,76,83,69]
def Jg:Str:=[82,69,65,76]
def ML:Str:=[73,83,78,65,78]
def pK (lv:PS->au×PS) (s:PS):au×PS:=
 let t:=bf L s
 if t.kind=3 then(.leaf 20 t.n 0 [] [] t.pos,aO s)
 else if t.kind=4 then(.leaf 21 t.n t.scale [] [] t.pos,aO s)
 else if t.kind=5 then(.leaf 23 0 0 t.text [] t.pos,aO s)
 else if t.kind=2 then(let(n,a,s):=fE L s;(.leaf 24 0 0 n a t.pos,s))
 else if eQ L s [40]then(let(x,s):=lv (aQ L s);(x,pI (ay L [41] s)))
 else if eQ L s Eo||eQ L s Dc then(.leaf 22 (if eQ L s Eo then 1 else 0) 0 [] [] t.pos,aO s)
 else if eQ L s Jg||eQ L s ML then(let(x,s1):=lv (ay L [40] (aQ L s));(.un (if eQ L s ML then 17 else 16) x t.pos,pI (ay L [41] s1)))
 else dP L t.pos s
def aB:Nat->Nat->PS->au×PS
 |0,_,s=>(yN,s)
 |f+1,level,s=>
  if s.err≠0 then(yN,s)
  else if level=3\/level=7 then
   (if eQ L s (Jf level)then
    (let at_:=(bf L s).pos
     let(x,s):=aB f level (aQ L s)
     (.un (En level) x at_,pI s))
   else aB f (level+1) s)
  else if level=8 then pK L (aB f 1) s
  else(let(x,s):=aB f (level+1) s;pJ L (aB f (level+1)) level (L.length+1) x s)
def jZ:Nat:=10*L.length+10
def lD (i:Nat):au×Nat×Nat×Nat:=
 let(x,s):=aB L (jZ L) 1 ⟨i,0,0,0⟩
 if s.err≠0 then(yN,0,s.pos,s.err)else(x,s.i,0,0)
end
def aG:au->Nat
 |.leaf ..=>1
 |.un _ x _=>1+aG x
 |.bin _ x y _=>1+aG x+aG y
structure bu where
 form:Nat
 type:Str
 name:Str
 pos:Nat
structure bU where
 branches:List (List bu)
 cond:List au
 aS:Nat
 window:Nat
 key:Str
 keyAt:Nat
def vH:bU:=⟨[],[],0,0,[],0⟩
def jA:au->List au
 |.bin op x y p=>if op=13 then jA x++jA y else[.bin op x y p]
 |e=>[e]
section
variable (L:List aA)
def nC:Str:=[80,65,84,84,69,82,78]
def mV:Str:=[83,69,81]
def sF:Str:=[87,72,69,82,69]
def jf:Str:=[83,84,82,65,84,69,71,89]
def qB:Str:=[87,73,84,72,73,78]
def nT:Str:=[80,65,82,84,73,84,73,79,78]
def TJ:Str:=[66,89]
def nV:List Str:=[[83,84,82,73,67,84],[78,69,88,84],[65,78,89]]
def dD (s:PS):Str×PS:=if s.err≠0\/(bf L s).kind≠2 then([],aW L 13 s)else((bf L s).text,aO s)
def jg (n:Nat) (s:PS):bu×PS:=
 let t:=bf L s
 if n=8/\(t.kind=2\/eQ L s [33]=true)then(⟨0,[],[],0⟩,aW L 2 s)
 else
  let neg:=eQ L s [33]
  let s:=if neg then aO s else s
  let(ty,s):=dD L s
  let plus:=decide (s.err=0)&&(!neg&&eQ L s [43])
  let s:=if plus then aO s else s
  let(nm,s):=dD L s
  (⟨if neg then 3 else if plus then 2 else 1,ty,nm,t.pos⟩,s)
def nX:Nat->List bu->PS->List bu×PS
 |0,l,s=>(l,s)
 |k+1,l,s=>
  if s.err≠0 then(l,s)
  else
   let(x,s):=jg L l.length s
   if s.err≠0\/eQ L s [44]=false then(l++[x],s)else nX k (l++[x]) (aO s)
def eG (nb:Nat) (s:PS):List bu×PS:=
 let s:=if s.err=0/\eQ L s mV=true/\nb=4 then aW L 2 s else s
 let s:=ay L [40] (ay L mV s)
 let(l,s):=nX L (L.length+1) [] s
 (l,ay L [41] s)
def jJ:Nat->List (List bu)->PS->List (List bu)×PS
 |0,b,s=>(b,s)
 |k+1,b,s=>
  if s.err≠0\/eQ L s [124]=false then(b,s)
  else
   let(l,s):=eG L b.length (aO s)
   jJ k (b++[l]) s
def jB (s:PS):List au×PS:=
 if s.err≠0\/eQ L s sF=false then([],s)
 else
  let r:=lD L (s.i+1)
  if r.2.2.2≠0 then([],⟨s.i+1,s.opn,r.2.2.2,r.2.2.1⟩)else(jA r.1,⟨r.2.1,s.opn,s.err,s.pos⟩)
def fJ:Nat->List Str->Nat×PS->Nat×PS
 |_,[],r=>r
 |i,w::l,(st,s)=>fJ (i+1) l (if s.err=0/\st=0/\eQ L s w=true then(i+1,aO s)else(st,s))
def nD (s:PS):(Nat×Nat×Str×Nat)×PS:=
 let s:=ay L jf s
 let(st,s):=fJ L 0 nV (0,s)
 let s:=if st=0 then aW L 13 s else s
 let s:=ay L qB s
 let s:=if s.err=0/\(bf L s).kind≠3 then aW L 13 s else s
 let s:=if s.err=0/\1152921504606846976<(bf L s).n then aW L 1 s else s
 if s.err≠0 then((st,0,[],0),s)
 else
  let win:=(bf L s).n
  let s:=aO s
  if eQ L s nT then
   (let s:=ay L TJ (aO s)
    let at_:=(bf L s).pos
    let(k,s):=dD L s
    ((st,win,k,at_),s))
  else((st,win,[],0),s)
end
def aX:Nat->List au->Nat
 |_,[]=>0
 |i,x::l=>aG x+(if 0<i then 1 else 0)+aX (i+1) l
def iw (q:bU):Nat:=aX 0 q.cond
def Ha (L:List aA):bU×Nat×Nat:=
 let s:=ay L nC ⟨0,0,0,0⟩
 let(l,s):=eG L 0 s
 let(bs,s):=jJ L (L.length+1) [l] s
 let(wh,s):=jB L s
 let((st,win,key,keyAt),s):=nD L s
 let s:=if s.err=0/\(bf L s).kind≠0 then aW L 13 s else s
 if s.err≠0 then(vH,s.pos,s.err)
 else if 200<iw ⟨bs,wh,st,win,key,keyAt⟩then(vH,0,2)
 else(⟨bs,wh,st,win,key,keyAt⟩,0,0)
def kJ (text:Str):bU×Nat×Nat:=
 let r:=jY text
 if r.2.2≠0 then(vH,r.2.1,r.2.2)else Ha r.1
end Go.Proofs.Ytbjnhllkdilpfaa
namespace Go.Proofs.Ytbjnhllkdilpfaa
open Go.RowKit
set_option linter.unusedSimpArgs false
set_option linter.unusedVariables false
set_option maxHeartbeats 16000000
set_option maxRecDepth 100000
theorem tY (c:UInt8) (n:Nat) (h:n<256):((c.toNat:Int)==(n:Int))=(c==UInt8.ofNat n):=by
 by_cases e:c=UInt8.ofNat n
 ·subst e;simp;omega
 ·have h1:(c==UInt8.ofNat n)=false:=by simpa using e
  rw[h1,beq_eq_false_iff_ne];intro h2
  apply e
  apply UInt8.toNat_inj.1
  rw[UInt8.toNat_ofNat'];omega
theorem JX (c : UInt8) (w : World) :
  Calls Try.prog 51 #[.int .u8 (c.toNat:Int)] w fun e w'=>e=.returned (.bool (vG c))/\w'=w:=by
 obtain⟨b1,h1⟩:∃b,(c==32)=b:=⟨_,rfl⟩
 obtain⟨b2,h2⟩:∃b,(c==9)=b:=⟨_,rfl⟩
 obtain⟨b3,h3⟩:∃b,(c==10)=b:=⟨_,rfl⟩
 obtain⟨b4,h4⟩:∃b,(c==13)=b:=⟨_,rfl⟩
 have k1:((c.toNat:Int)==32)=b1:=(tY c 32 (by omega)).trans h1;have k2:((c.toNat:Int)==9)=b2:=(tY c 9 (by omega)).trans h2;have k3:((c.toNat:Int)==10)=b3:=(tY c 10 (by omega)).trans h3;have k4:((c.toNat:Int)==13)=b4:=(tY c 13 (by omega)).trans h4;unfold vG;rw[h1,h2,h3,h4];clear h1 h2 h3 h4;generalize(c.toNat:Int)=z at *;cases b1<;>cases b2<;>cases b3<;>cases b4<;>
 (go_enter Try.func51,Try.ntmps51
  go_wp2
  go_ret
  exact⟨rfl,rfl⟩)
theorem kU (names:Bool):∀l:Str,fH names l<=l.length
 |[]=>Nat.le_refl _
 |c::l=>by
  have:=kU names l;unfold fH
  split
  ·simp;omega
  ·simp
theorem BC (names:Bool) (s:ByteArray) (p:Nat) (h:p<s.size):fH names (s.toList.drop p)=if Ej names s[p]then fH names (s.toList.drop (p+1))+1 else 0:=by
 rw[dM s p h];rfl
theorem MN (names:Bool) (s:ByteArray) (p:Nat) (h:s.size<=p):fH names (s.toList.drop p)=0:=by
 rw[List.drop_eq_nil_of_le (by rw[bI];exact h)];rfl
theorem tZ (s : ByteArray) (p0 : Nat) (names : Bool) (w : World) (hp : p0 ≤ s.size) (hs : s.size ≤ 1048576) :
  Calls Try.prog 75 #[.string s,.int .i64 p0,.bool names] w fun e w'=>e=.returned (.int .i64 (fH names (s.toList.drop p0):Nat))/\w'=w:=by
 obtain⟨RES,hres⟩:∃RES,fH names (s.toList.drop p0)=RES:=⟨_,rfl⟩
 have HR:Hid (0+fH names (s.toList.drop (p0+0))=RES):=zH (by rw[Nat.zero_add];exact hres);rw[hres];clear hres
 go_enter Try.func75,Try.ntmps75
 go_wp2
 go_loopw[7] (fun n wr=>∃k:Nat,p0+k<=s.size/\n=.int .i64 k/\wr=w/\Hid (k+fH names (s.toList.drop (p0+k))=RES)) (fun n _=>s.size-(intOf n).toNat)
 case atStart=>exact⟨0,hp,rfl,rfl,HR⟩
 case round=>
  clear HR;obtain⟨k,hk,rfl,rfl,hrec⟩:=hrel;obtain⟨p,hpe⟩:∃p,p0+k=p:=⟨_,rfl⟩
  have hpI:(p0:Int)+(k:Int)=(p:Int):=by omega
  rw[hpe]at hrec hk
  by_cases hlt:p<s.size
  ·have MO:(p:Int)<(s.size:Int):=by omega
   have hst:=hrec.out;rw[BC names s p hlt]at hst;have hdg:=qA (s[p].toNat:Int);have hlr:=jI (s[p].toNat:Int);have h95:=tY s[p] 95 (by omega);have hcl:Ej names s[p]=(jy s[p].toNat||(names&&(iG s[p].toNat||s[p]==95))):=rfl;rw[hcl]at hst;obtain⟨b1,h1⟩:∃b,jy s[p].toNat=b:=⟨_,rfl⟩
   obtain⟨b2,h2⟩:∃b,iG s[p].toNat=b:=⟨_,rfl⟩
   obtain⟨b3,h3⟩:∃b,(s[p]==(95:UInt8))=b:=⟨_,rfl⟩
   rw[h1]at hdg hst;rw[h2]at hlr hst;have Ym:((s[p].toNat:Int)==95)=b3:=h95.trans h3;rw[h3]at hst;have MP:=zH hdg;have He:=zH hlr;have HST:=zH hst;clear hdg hlr hst hrec h95 h1 h2 h3 hcl;cases b1
   ·cases names
    ·as_aux_lemma=>
     have hz:k=RES:=by simpa using HST.out
     subst hz;go_wp2_with fail
     refine(MP.out _).mono ?_;rintro r w2 ⟨rfl,rfl⟩;go_wp2
     go_ret
     exact⟨rfl,rfl⟩
    ·cases b2
     ·cases b3
      ·as_aux_lemma=>
       have hz:k=RES:=by simpa using HST.out
       subst hz;go_wp2_with fail
       refine(MP.out _).mono ?_;rintro r w2 ⟨rfl,rfl⟩;go_wp2_with fail
       refine(He.out _).mono ?_;rintro r w2 ⟨rfl,rfl⟩;go_wp2
       go_ret
       exact⟨rfl,rfl⟩
      ·as_aux_lemma=>
       have HN:Hid (k+1+fH true (s.toList.drop (p0+(k+1)))=RES):=zH (by have:=HST.out;simp at this;rw[<-this,<-hpe];rw[show p0+(k+1)=p0+k+1 by omega];omega);go_wp2_with fail
       refine(MP.out _).mono ?_;rintro r w2 ⟨rfl,rfl⟩;go_wp2_with fail
       refine(He.out _).mono ?_;rintro r w2 ⟨rfl,rfl⟩;go_wp2
       go_roundw
       case rel=>exact⟨k+1,by omega,by go_num,by first|rfl|trivial,HN⟩
       case measure=>simp[intOf];omega
     ·as_aux_lemma=>
      have HN:Hid (k+1+fH true (s.toList.drop (p0+(k+1)))=RES):=zH (by have:=HST.out;simp at this;rw[<-this,<-hpe];rw[show p0+(k+1)=p0+k+1 by omega];omega);go_wp2_with fail
      refine(MP.out _).mono ?_;rintro r w2 ⟨rfl,rfl⟩;go_wp2_with fail
      refine(He.out _).mono ?_;rintro r w2 ⟨rfl,rfl⟩;go_wp2
      go_roundw
      case rel=>exact⟨k+1,by omega,by go_num,by first|rfl|trivial,HN⟩
      case measure=>simp[intOf];omega
   ·as_aux_lemma=>
    have HN:Hid (k+1+fH names (s.toList.drop (p0+(k+1)))=RES):=zH (by have:=HST.out;simp at this;rw[<-this,<-hpe];rw[show p0+(k+1)=p0+k+1 by omega];omega);go_wp2_with fail
    refine(MP.out _).mono ?_;rintro r w2 ⟨rfl,rfl⟩;go_wp2
    go_roundw
    case rel=>exact⟨k+1,by omega,by go_num,by first|rfl|trivial,HN⟩
    case measure=>simp[intOf];omega
  ·rw[MN names s p (by omega)]at hrec;have hz:k=RES:=by simpa using hrec.out
   subst hz;go_wp2
   go_ret
   exact⟨rfl,rfl⟩
def o5 (c:UInt8):Prop:=48<=c.toNat/\c.toNat<=57
theorem BD (d:UInt8):∀(l:Str) (n:Nat),ik n (l++[d])=10*ik n l+(d.toNat-48)
 |[],n=>rfl
 |c::l,n=>BD d l _
theorem Jh:∀(l:Str) (n:Nat),n<=ik n l
 |[],n=>Nat.le_refl _
 |c::l,n=>by have:=Jh l (10*n+(c.toNat-48));show n<=ik (10*n+(c.toNat-48)) l;omega
theorem MQ (q n P d:Nat) (h1:q<(10*n+d+1)*P) (h2:d<=9):q<(n+1)*(10*P):=by
 have h3:(10*n+d+1)*P<=((n+1)*10)*P:=Nat.mul_le_mul_right P (by omega);rw[Nat.mul_assoc]at h3;exact Nat.lt_of_lt_of_le h1 h3
theorem QL (l:Str):∀(n:Nat),(∀c∈l,o5 c)->ik n l<(n+1)*10^l.length:=by
 induction l with
 |nil=>intro n _;show n<(n+1)*1;omega
 |cons c l ih=>
  intro n h;have h1:ik n (c::l)<(10*n+(c.toNat-48)+1)*10^l.length:=ih (10*n+(c.toNat-48)) fun x hx=>h x (by simp[hx])
  have h3:=h c (by simp);unfold o5 at h3;rw[List.length_cons,Nat.pow_succ,Nat.mul_comm (10^l.length) 10];exact MQ (ik n (c::l)) n (10^l.length) (c.toNat-48) h1 (by omega)
theorem MR {d:UInt8} (h:o5 d):rU (d.toNat-48)=d:=by
 unfold rU
 apply UInt8.toNat_inj.1
 rw[UInt8.toNat_ofNat'];unfold o5 at h;omega
theorem Ep:∀(n:Nat) (l:Str),l.length=n+1->(∀c∈l,o5 c)->(n=0\/l[0]?≠some 48)->Lib.decDigits (ik 0 l)=l
 |0,[d],_,hd,_=>by
  have h:=hd d (by simp);have e:ik 0 [d]=d.toNat-48:=by show 10*0+(d.toNat-48)=_;omega
  have h9:d.toNat-48<10:=by have:=h.2;omega
  rw[e,nG (d.toNat-48) h9,MR h]
 |n+1,l,hl,hd,h0=>by
  have hne:l≠[]:=by intro e;rw[e]at hl;simp at hl
  obtain⟨l',d,rfl⟩:∃l' d,l=l'++[d]:=⟨l.dropLast,l.getLast hne,(List.dropLast_concat_getLast hne).symm⟩
  have hl':l'.length=n+1:=by simpa using hl
  have h:=hd d (by simp)
  have h48:(l')[0]?≠some 48:=by
   rcases h0 with h0|h0
   ·omega
   ·rwa [List.getElem?_append_left (by omega)]at h0
  have ih:=Ep n l' hl' (fun c hc=>hd c (by simp[hc])) (.inr h48)
  have hpos:1<=ik 0 l':=by
   match l',hl',h48 with
   |c::r,_,h48=>
    have hc:=hd c (by simp)
    have:c.toNat≠48:=by
     intro e
     apply h48
     have:c=48:=UInt8.toNat_inj.1 e;rw[this];rfl
    have h1:=Jh r (10*0+(c.toNat-48));have h2:ik 0 (c::r)=ik (10*0+(c.toNat-48)) r:=rfl;unfold o5 at hc;omega
  have h9:d.toNat-48<10:=by have:=h.2;omega
  have hdg:=MR h;rw[BD];generalize ik 0 l'=v at *;generalize d.toNat-48=q at *;rw[tX (10*v+q) (by omega),show(10*v+q)/10=v by omega,show(10*v+q)%10=q by omega,ih,hdg]
theorem BF (s:ByteArray) (n k:Nat) (h:k<s.size):ik n (s.toList.drop k)=ik (10*n+(s[k].toNat - 48)) (s.toList.drop (k+1)):=by
 rw[dM s k h];rfl
def MV (z:Int) (ok:Bool) (w:World) (e:Ending) (w':World):Prop:=e=.returned (.tuple #[.int .i64 z,.bool ok])/\Below w.heap.size w w'
theorem Es (s : ByteArray) (w : World) (hd : ∀ c ∈ s.toList, o5 c) (h1 : 1 ≤ s.size) (h19 : s.size ≤ 19) (h0 : s.size = 1 ∨ s.toList[0]? ≠ some 48) :
  Calls Try.prog 91 #[.string s] w (MV (wrap64 (ik 0 s.toList:Nat)) (decide (ik 0 s.toList<=9223372036854775807)) w):=by
 obtain⟨V,hV⟩:∃V,ik 0 s.toList=V:=⟨_,rfl⟩
 obtain⟨m,hm⟩:∃m,wrap64 (V:Int)=m:=⟨_,rfl⟩
 obtain⟨ok,hok⟩:∃ok,decide (V<=9223372036854775807)=ok:=⟨_,rfl⟩
 have hdec:Lib.decDigits V=s.toList:=by
  rw[<-hV];refine Ep (s.size-1) s.toList (by rw[bI];omega) hd ?_;rcases h0 with h0|h0
  ·exact .inl (by omega)
  ·exact .inr h0
 have hlt:V<10000000000000000000:=by
  have:=QL s.toList 0 hd;rw[hV,bI]at this;have h2:=Nat.pow_le_pow_right (n:=10) (by omega) h19;omega
 have hrg: -9223372036854775808<=m/\m<=9223372036854775807:=by rw[<-hm];unfold wrap64;omega
 have hfd:∀c:UInt8,s.toList[0]? =some c->o5 c:=fun c hc=>hd c (List.mem_of_getElem? hc)
 have XP:Hid (((bytes (Lib.itoa m)).toList==s.toList)=ok):=zH (by
  rw[aJ,<-hok]
  by_cases hle:V<=9223372036854775807
  ·have e:m=V:=by rw[<-hm];unfold wrap64;omega
   have e2:Lib.itoa m=s.toList:=by
    unfold Lib.itoa;rw[if_neg (by omega),e,Int.toNat_natCast,hdec]
   rw[e2,decide_eq_true hle];simp
  ·have hneg:m<0:=by rw[<-hm];unfold wrap64;omega
   rw[decide_eq_false hle,beq_eq_false_iff_ne];intro e;unfold Lib.itoa at e;rw[if_pos hneg]at e;have:=hfd 45 (by rw[<-e];rfl);unfold o5 at this
   exact absurd this.1 (by decide))
 have h45:∀h:0<s.size,((s[0].toNat:Int)==45)=false:=fun h=>by
  have h2:=dM s 0 h;rw[List.drop_zero]at h2;have h3:=hd s[0] (by rw[h2];simp);unfold o5 at h3;rw[beq_eq_false_iff_ne];omega
 have Yo:=h45 (by omega);have HD:=zH (yg m hrg);have HQ:Hid (∀w':World,Below w.heap.size w w'->MV m ok w (.returned (.tuple #[.int .i64 m,.bool ok])) w'):=zH fun w' h=>⟨rfl,h⟩
 have HDI:Hid (∀k (h:k<s.size),o5 s[k]):=zH fun k h=>hd _ (by
  have h2:=dM s k h
  exact List.mem_of_mem_drop (i:=k) (by rw[h2];simp))
 have HR:Hid (ik 0 (s.toList.drop 0)=V):=zH (by rw[List.drop_zero];exact hV);rw[hV,hm,hok];have HM:=zH hm;have hsI:(0:Int)<(s.size:Int):=by omega
 clear hV hm hok hdec hlt hrg hfd h45 h0 hd
 go_enter Try.func91,Try.ntmps91
 go_wp2
 go_loopw[5,6] (fun x i wr=>∃(k n:Nat),k<=s.size/\x=.int .u64 n/\i=.int .i64 k/\wr=w/\Hid (n<10^k)/\Hid (ik n (s.toList.drop k)=V)) (fun _ i _=>s.size-(intOf i).toNat)
 case atStart=>exact⟨0,0,Nat.zero_le _,rfl,rfl,rfl,zH (by decide),HR⟩
 case round=>
  clear HR;obtain⟨k,n,hk,rfl,rfl,hwr,hn,hrec⟩:=hrel;obtain rfl:wr=w:=hwr
  by_cases hlt:k<s.size
  ·as_aux_lemma=>
   have MO:(k:Int)<(s.size:Int):=by omega
   have h18I:¬(18:Int)<(k:Int):=by omega
   have hst:=hrec.out;rw[BF s n k hlt]at hst;have hdg:=qA (s[k].toNat:Int);have hdk:=HDI.out k hlt;unfold o5 at hdk;have hdb:jy (s[k].toNat:Int)=true:=decide_eq_true (by omega);rw[hdb]at hdg;have MP:=zH hdg;have HST:=zH hst
   have hnl:n<1000000000000000000:=by
    have h1:=Nat.pow_le_pow_right (n:=10) (by omega) (show k<=18 by omega);have h2:=hn.out;have h3:(10:Nat)^18=1000000000000000000:=by decide
    omega
   have HP:Hid (10*n+(s[k].toNat - 48)<10^(k+1)):=zH (by
    have h2:=hn.out
    rw[Nat.pow_succ];omega)
   have h48:(48:Int)<=(s[k].toNat:Int):=by omega
   have h57:(s[k].toNat:Int)<=57:=by omega
   have hw1:IntKind.u64.wrap (10*(n:Int))=10*(n:Int):=by rw[IntKind.wrap_u64];omega
   have hw2:IntKind.u64.wrap (10*(n:Int)+((s[k].toNat:Int)-48))=10*(n:Int)+((s[k].toNat:Int)-48):=by rw[IntKind.wrap_u64];omega
   have hw3:(10*(n:Int))%18446744073709551616=10*(n:Int):=by omega
   have hw4:(10*(n:Int)+((s[k].toNat:Int)-48))%18446744073709551616=10*(n:Int)+((s[k].toNat:Int)-48):=by omega
   clear hn hdk hnl hdg hst hdb hrec Yo;go_wp2_with fail
   refine(MP.out wr).mono ?_;rintro r w2 ⟨rfl,rfl⟩;go_wp2
   go_roundw
   case rel=>exact⟨k+1,10*n+(s[k].toNat - 48),by omega,by first|go_num|(congr 1;omega),by go_num,by first|rfl|trivial,HP,HST⟩
   case measure=>simp[intOf];omega
  ·as_aux_lemma=>
   obtain rfl:k=s.size:=by omega
   have hdn:s.toList.drop s.size=[]:=List.drop_eq_nil_of_le (by rw[bI];omega);have hst:=hrec.out;rw[hdn]at hst;have hst:n=V:=hst;subst hst;have hm2:wrap64 (n:Int)=m:=HM.out;clear hrec hn hdn Yo;go_wp2_with fail
   refine(HD.out wr).mono ?_;rintro r w2 ⟨rfl,hb2⟩;have heq:=XP.out;generalize bytes (Lib.itoa m)=T at *;clear HD;go_wp2
   go_ret2
   exact HQ.out _ hb2
def aA.cells (t:aA):List Value:=[.int .i64 t.kind,.string (bytes t.text),.int .i64 t.n,.int .i64 t.scale,.int .i64 t.pos]
def aA.val (t:aA):Value:=.agg #[.int .i64 t.kind,.string (bytes t.text),.int .i64 t.n,.int .i64 t.scale,.int .i64 t.pos]
theorem MZ:(Try.prog.info? 102).map (fun i=>(i.zero,i.size,i.bytes))=some (some (.agg #[.int .i64 0,.string ⟨#[]⟩,.int .i64 0,.int .i64 0,.int .i64 0]),5,48):=by kernel_rfl
theorem ed (w:World):(sizeOf 102).run Try.prog w=.ok 5 w:=by
 obtain⟨i,hi,h0,h1,h2⟩:=info_parts MZ;simp[sizeOf,typeInfo,hi,h1]
def BH (r:aA×Nat) (w:World) (e:Ending) (w':World):Prop:=e=.returned (.tuple #[r.1.val,.int .i64 (r.2:Nat)])/\Below w.heap.size w w'
theorem yQ (names:Bool):∀l:Str,∀c∈l.take (fH names l),Ej names c=true
 |[],c,h=>by simp at h
 |x::l,c,h=>by
  unfold fH at h
  by_cases hx:Ej names x=true
  ·rw[if_pos hx,List.take_succ_cons]at h;rcases List.mem_cons.1 h with rfl|h
   ·exact hx
   ·exact yQ names l c h
  ·rw[if_neg hx]at h;simp at h
theorem Na {c:UInt8} (h:Ej false c=true):o5 c:=by
 simp[Ej,jy]at h;unfold o5;omega
theorem Nb (S:ByteArray) (w:World):∃(g c:Nat) (W:World),(convert 9 159 (.string S)).run Try.prog w=.ok (.slice (some ⟨g,0,none⟩) S.size c) W/\Below w.heap.size w W/\∀j (h:j<S.size),W.cell? ⟨g,j,none⟩=some (.int .u8 (S[j].toNat:Int)):=by
 refine⟨w.heap.size,_,_,Lib.run_convert_string_bytes w 9 159 5 S Try.underlying9 Try.underlying159 Try.underlying5,⟨rfl,rfl,rfl,by rw[Lib.bytesWorld_size];omega,fun k hk=>Lib.bytesWorld_at_old w _ S k hk⟩,fun j h=>?_⟩;rw[Lib.bytesWorld_cell w _ S j h];have h1:=dM S j h;have h2:S.data.toList.drop j=S[j]::S.data.toList.drop (j+1):=by rw[<-ByteArray.toList_eq];exact h1
 have h3:S.data.toList[j]? =some S[j]:=by
  have h4:(S.data.toList.drop j)[0]? =some S[j]:=by rw[h2];rfl
  rwa [List.getElem?_drop,Nat.add_zero]at h4
 rw[List.getD_eq_getElem?_getD,h3];rfl
theorem Hg (s : ByteArray) (p : Nat) (w : World) (hp : p < s.size) (hs : s.size ≤ 1048576) (hdig : jy s[p].toNat = true) :
  Calls Try.prog 79 #[.string s,.int .i64 p] w (BH (numberT (s.toList.drop p)) w):=by
 obtain⟨R,hR⟩:∃R,numberT (s.toList.drop p)=R:=⟨_,rfl⟩
 obtain⟨l,hl⟩:∃l,s.toList.drop p=l:=⟨_,rfl⟩
 have hll:l.length=s.size-p:=by rw[<-hl,List.length_drop,bI]
 obtain⟨n,hn⟩:∃n,fH false l=n:=⟨_,rfl⟩
 have hn1:1<=n:=by
  rw[<-hn,<-hl,BC false s p hp,if_pos (by simp[Ej,hdig])];omega
 have hnl:n<=l.length:=by rw[<-hn];exact kU _ _
 obtain⟨q,hq⟩:∃q,p+n=q:=⟨_,rfl⟩
 have hqI:(p:Int)+(n:Int)=(q:Int):=by omega
 have hqs:q<=s.size:=by omega
 have Yp:(q:Int)<=(s.size:Int):=by omega
 have Yq:(p:Int)<=(q:Int):=by omega
 obtain⟨D,hD⟩:∃D,s.extract p q=D:=⟨_,rfl⟩
 have hDl:D.toList=l.take n:=by
  rw[<-hD,<-hl,ByteArray.toList_eq,Lib.extract_eq,ByteArray.toList_eq,<-hq,Nat.add_sub_cancel_left]
 have hDs:D.size=n:=by rw[<-bI,hDl,List.length_take];omega
 have yh:Hid (∀W:World,Calls Try.prog 75 #[.string s,.int .i64 p,.bool false] W fun e w'=>e=.returned (.int .i64 (n:Nat))/\w'=W):=zH fun W=>by
  have h:=tZ s p false W (by omega) hs;rw[hl,hn]at h;exact h
 obtain⟨m,hm⟩:∃m,wP l n=m:=⟨_,rfl⟩
 have h0l:l[0]? =some s[p]:=by rw[<-hl,dM s p hp];rfl
 have hD0:(h:0<D.size)->D[0]=s[p]:=fun h=>by
  have h1:=dM D 0 h;rw[List.drop_zero,hDl]at h1;have h2:(l.take n)[0]? =some D[0]:=by rw[h1];rfl
  rw[List.getElem?_take_of_lt (by omega),h0l]at h2;injection h2 with h2
  exact h2.symm
 obtain⟨QM,hb48⟩:∃b,(s[p]==(48:UInt8))=b:=⟨_,rfl⟩
 have Yr:(h:0<D.size)->((D[0].toNat:Int)==48)=QM:=fun h=>by rw[hD0 h];exact(tY s[p] 48 (by omega)).trans hb48
 have h48:=Yr (by omega)
 have HR : Hid ((if (1 < n ∧ QM = true) ∨ (m = 0 ∧ 19 < n) ∨ (0 < m ∧ 15 < n + m) then (nS, 0)
   else if m=0 then(if ik 0 D.toList<=9223372036854775807 then(⟨3,[],ik 0 D.toList,0,0⟩,n)else(nS,0))
   else(⟨4,[],ik 0 (D.toList++(l.drop (n+1)).take m),m,0⟩,n+1+m))=R):=zH (by
  rw[<-hR,hl];unfold numberT;simp only[hn,hm,h0l];have e:(QM=true)<->(some s[p]=some 48):=by rw[<-hb48];simp
  rw[hDl]
  simp only[e])
 have XQ:Hid (∀c∈D.toList,o5 c):=zH fun c hc=>by
  rw[hDl,<-hn]at hc;exact Na (yQ false l c hc)
 have HD0:Hid (QM=false->D.toList[0]?≠some 48):=zH fun hb e=>by
  rw[hDl,List.getElem?_take_of_lt (by omega),h0l]at e;injection e with e
  rw[hb,beq_eq_false_iff_ne]at hb48;exact hb48 e
 have hDsI:(D.size:Int)=(n:Int):=by omega
 have U0:Hid (wP l n=m):=zH hm;have Ew:Hid (s.toList.drop p=l):=zH hl;have hD0I:(0:Int)<(D.size:Int):=by omega
 rw[hR];clear hR hn hDl Yr hD0 h0l hb48 hll hdig hm hl
 go_enter Try.func79,Try.ntmps79
 have x0:=Bk.new w 102 #[.int .i64 0,.string ⟨#[]⟩,.int .i64 0,.int .i64 0,.int .i64 0];have hb0:Below w.heap.size w (w.alloc (.cells #[.int .i64 0,.string ⟨#[]⟩,.int .i64 0,.int .i64 0,.int .i64 0] 102)):=zR.alloc zL _;go_wp2_with fail
 generalize w.alloc (.cells #[.int .i64 0,.string ⟨#[]⟩,.int .i64 0,.int .i64 0,.int .i64 0] 102)=W at *;refine(yh.out W).mono ?_;rintro r w2 ⟨rfl,rfl⟩;clear yh;obtain⟨U1,Df⟩:∃b,decide (∃h:q<s.size,s[q]=46)=b:=⟨_,rfl⟩
 go_upto_region 4 with fail
 go_cut[36] (fun v wx=>v=.bool U1/\w2=wx)
 case first=>
  by_cases hq2:q<s.size
  ·have U3:(q:Int)<(s.size:Int):=by omega
   have Yt:((s[q].toNat:Int)==46)=U1:=by
    refine(tY s[q] 46 (by omega)).trans ?_;rw[<-Df,Bool.eq_iff_iff,beq_iff_eq,decide_eq_true_iff];exact⟨fun e=>⟨hq2,e⟩,fun⟨_,e⟩=>e⟩
   clear Df;go_wp2_with fail
   go_meet
   exact⟨rfl,rfl⟩
  ·have U3:¬(q:Int)<(s.size:Int):=by omega
   obtain rfl:U1=false:=by
    rw[<-Df];exact decide_eq_false fun⟨h,_⟩=>hq2 h
   clear Df;go_wp2_with fail
   go_meet
   exact⟨rfl,rfl⟩
 case rest=>
 obtain⟨rfl,rfl⟩:=hcut
 have lF:Hid (U1=true->q<s.size/\s.toList.drop (q+1)=l.drop (n+1)/\q+1+m<=s.size/\fH false (s.toList.drop (q+1))=m):=zH fun hb=>by
  rw[hb]at Df;obtain⟨hq2,h46⟩:=of_decide_eq_true Df
  have hqg:l[n]? =some 46:=by
   rw[<-Ew.out,List.getElem?_drop,hq,<-h46];have:=dM s q hq2;have h2:(s.toList.drop q)[0]? =some s[q]:=by rw[this];rfl
   rwa [List.getElem?_drop,Nat.add_zero]at h2
  have hld:s.toList.drop (q+1)=l.drop (n+1):=by rw[<-Ew.out,List.drop_drop,show p+(n+1)=q+1 by omega]
  have hme:fH false (s.toList.drop (q+1))=m:=by
   have h2:=U0.out;unfold wP at h2
   rwa [if_pos hqg,<-hld]at h2
  have h1:=kU false (s.toList.drop (q+1));rw[hme,List.length_drop,bI]at h1;exact⟨hq2,hld,by omega,hme⟩
 have Az:Hid (U1=false->m=0):=zH fun hb=>by
  rw[hb]at Df;have h46:=of_decide_eq_false Df;rw[<-U0.out];unfold wP;rw[if_neg];intro e
  apply h46
  rw[<-Ew.out,List.getElem?_drop,hq]at e;obtain⟨h1,h2⟩:=List.getElem?_eq_some_iff.1 e;have hq2:q<s.size:=by rw[<-bI];exact h1
  have h3:=dM s q hq2;have h4:(s.toList.drop q)[0]? =some s[q]:=by rw[h3];rfl
  rw[List.getElem?_drop,Nat.add_zero,e]at h4;injection h4 with h4
  exact⟨hq2,h4.symm⟩
 clear Df;go_upto_if 36 with fail
 go_cut[8] (fun v wx=>v=.int .i64 (m:Nat)/\w2=wx)
 case first=>
  cases U1
  ·have hm0:=Az.out rfl;subst hm0;go_wp2_with fail
   go_meet
   exact⟨rfl,rfl⟩
  ·obtain⟨hq2,_,_,hme⟩:=lF.out rfl
   have HC:Hid (∀W:World,Calls Try.prog 75 #[.string s,.int .i64 ((q:Int)+1),.bool false] W fun e w'=>e=.returned (.int .i64 (m:Nat))/\w'=W):=zH fun W=>by
    have h:=tZ s (q+1) false W (by omega) hs;rw[hme,show((q+1:Nat):Int)=(q:Int)+1 by omega]at h;exact h
   clear hme hq2;go_wp2_with fail
   refine(HC.out _).mono ?_;rintro r w3 ⟨rfl,rfl⟩;go_wp2_with fail
   go_meet
   exact⟨rfl,rfl⟩
 case rest=>
 obtain⟨rfl,rfl⟩:=hcut
 have hmb:m<=1048576:=by
  have h1:=kU false (l.drop (n+1));have h2:l.length<=s.size:=by rw[<-Ew.out,List.length_drop,bI];omega
  rw[<-U0.out];unfold wP
  split
  ·rw[List.length_drop]at h1;omega
  ·omega
 obtain⟨bad,hbad⟩:∃b,decide ((1<n/\QM=true)\/(m=0/\19<n)\/(0<m/\15<n+m))=b:=⟨_,rfl⟩
 go_upto_region 6 with fail
 go_cut[67] (fun v wx=>v=.bool bad/\w2=wx)
 case first=>
  clear lF Az XQ HD0 U0 Ew HR
  by_cases h1:1<n
  ·have h1I:(1:Int)<(n:Int):=by omega
   cases QM
   ·by_cases hm0:m=0
    ·subst hm0
     by_cases h19:19<n
     ·have Yu:(19:Int)<(n:Int):=by omega
      obtain rfl:bad=true:=by rw[<-hbad];simp;omega
      clear hbad;go_wp2_with fail
      go_meet
      exact⟨by first|rfl|exact congrArg Value.bool (decide_eq_true (by omega))|exact congrArg Value.bool (decide_eq_false (by omega)),rfl⟩
     ·have Yu:¬(19:Int)<(n:Int):=by omega
      obtain rfl:bad=false:=by rw[<-hbad];simp;omega
      clear hbad;go_wp2_with fail
      go_meet
      exact⟨by first|rfl|exact congrArg Value.bool (decide_eq_true (by omega))|exact congrArg Value.bool (decide_eq_false (by omega)),rfl⟩
    ·have JY:((m:Int)==0)=false:=by rw[beq_eq_false_iff_ne];omega
     have hmI2:(0:Int)<(m:Int):=by omega
     by_cases h15:15<n+m
     ·have U4:(15:Int)<(n:Int)+(m:Int):=by omega
      obtain rfl:bad=true:=by rw[<-hbad];simp;omega
      clear hbad;go_wp2_with fail
      go_meet
      exact⟨by first|rfl|exact congrArg Value.bool (decide_eq_true (by omega))|exact congrArg Value.bool (decide_eq_false (by omega)),rfl⟩
     ·have U4:¬(15:Int)<(n:Int)+(m:Int):=by omega
      obtain rfl:bad=false:=by rw[<-hbad];simp;omega
      clear hbad;go_wp2_with fail
      go_meet
      exact⟨by first|rfl|exact congrArg Value.bool (decide_eq_true (by omega))|exact congrArg Value.bool (decide_eq_false (by omega)),rfl⟩
   ·obtain rfl:bad=true:=by rw[<-hbad];simp;omega
    clear hbad;go_wp2_with fail
    go_meet
    exact⟨by first|rfl|exact congrArg Value.bool (decide_eq_true (by omega))|exact congrArg Value.bool (decide_eq_false (by omega)),rfl⟩
  ·have h1I:¬(1:Int)<(n:Int):=by omega
   have Yu:¬(19:Int)<(n:Int):=by omega
   by_cases hm0:m=0
   ·subst hm0;obtain rfl:bad=false:=by rw[<-hbad];simp;omega
    clear hbad;go_wp2_with fail
    go_meet
    exact⟨by first|rfl|exact congrArg Value.bool (decide_eq_true (by omega))|exact congrArg Value.bool (decide_eq_false (by omega)),rfl⟩
   ·have JY:((m:Int)==0)=false:=by rw[beq_eq_false_iff_ne];omega
    have hmI2:(0:Int)<(m:Int):=by omega
    by_cases h15:15<n+m
    ·have U4:(15:Int)<(n:Int)+(m:Int):=by omega
     obtain rfl:bad=true:=by rw[<-hbad];simp;omega
     clear hbad;go_wp2_with fail
     go_meet
     exact⟨by first|rfl|exact congrArg Value.bool (decide_eq_true (by omega))|exact congrArg Value.bool (decide_eq_false (by omega)),rfl⟩
    ·have U4:¬(15:Int)<(n:Int)+(m:Int):=by omega
     obtain rfl:bad=false:=by rw[<-hbad];simp;omega
     clear hbad;go_wp2_with fail
     go_meet
     exact⟨by first|rfl|exact congrArg Value.bool (decide_eq_true (by omega))|exact congrArg Value.bool (decide_eq_false (by omega)),rfl⟩
 case rest=>
 obtain⟨rfl,rfl⟩:=hcut
 have HB:Hid (bad=false->¬((1<n/\QM=true)\/(m=0/\19<n)\/(0<m/\15<n+m))):=zH fun hb=>by
  rw[hb]at hbad;exact of_decide_eq_false hbad
 have HB2:Hid (bad=true->R=(nS,0)):=zH fun hb=>by
  rw[hb]at hbad;rw[<-HR.out,if_pos (of_decide_eq_true hbad)]
 clear hbad;cases bad
 case true=>
  as_aux_lemma=>
  have hR:=HB2.out rfl;subst hR;clear lF Az XQ HD0 U0 Ew HR HB HB2;go_upto_region 7 with fail
  go_wp2_with (first|(refine ae ed rfl _ _ rfl rfl [.int .i64 0,.string ⟨#[]⟩,.int .i64 0,.int .i64 0,.int .i64 0] rfl x0 rfl rfl rfl ?_;intro w9 p9))
  obtain⟨u0,u1,u2,u3,u4⟩:=zc5 p9.bk;have dZ:=p9.below _ _ hb0 zL;refine bodyPost_ret (v:=.tuple #[.agg #[.int .i64 0,.string ⟨#[]⟩,.int .i64 0,.int .i64 0,.int .i64 0],.int .i64 (0)]) (by simp[results,Try.results79,go_sem,u0,u1,u2,u3,u4]) rfl ?_;exact⟨rfl,dZ⟩
 case false=>
 have hnb:=HB.out rfl
 by_cases hm0:m=0
 ·as_aux_lemma=>
  subst hm0
  have hn19:n<=19:=by
   rcases Nat.lt_or_ge 19 n with h|h
   ·exact absurd (.inr (.inl ⟨rfl,h⟩)) hnb
   ·exact h
  have Yv:1<n->QM=false:=fun h=>by
   cases QM with
   |false=>rfl
   |true=>exact absurd (.inl ⟨h,rfl⟩) hnb
  have HN:Hid (Calls Try.prog 91 #[.string D] w2 (MV (wrap64 (ik 0 D.toList:Nat)) (decide (ik 0 D.toList<=9223372036854775807)) w2)):=zH (Es D w2 XQ.out (by omega) (by omega) (by
   by_cases h1:1<n
   ·exact .inr (HD0.out (Yv h1))
   ·exact .inl (by omega)))
  have HR2:Hid ((if ik 0 D.toList<=9223372036854775807 then(⟨3,[],ik 0 D.toList,0,0⟩,n)else(nS,0))=R):=zH (by rw[<-HR.out,if_neg hnb,if_pos rfl]);generalize ik 0 D.toList=V at HN HR2;clear HR XQ HD0 U0 Ew lF Az HB HB2 hnb Yv
  by_cases hV:V<=9223372036854775807
  ·as_aux_lemma=>
   have hwV:wrap64 (V:Int)=V:=by unfold wrap64;omega
   rw[decide_eq_true hV,hwV]at HN;rw[if_pos hV]at HR2;clear hwV;go_wp2_with fail
   refine HN.out.mono ?_;rintro r w4 ⟨rfl,hb4⟩;replace hb0:=hb0.trans (hb4.mono hb0.size);replace x0:=x0.old hb4;clear HN hb4;go_upto_region 12 with fail
   go_wp2_with (first|(refine ae ed rfl _ _ rfl rfl [.int .i64 3,.string ⟨#[]⟩,.int .i64 V,.int .i64 0,.int .i64 0] rfl x0 rfl rfl rfl ?_;intro w9 p9))
   obtain⟨u0,u1,u2,u3,u4⟩:=zc5 p9.bk;have dZ:=p9.below _ _ hb0 zL;refine bodyPost_ret (v:=.tuple #[.agg #[.int .i64 3,.string ⟨#[]⟩,.int .i64 V,.int .i64 0,.int .i64 0],.int .i64 ((n:Nat))]) (by simp[results,Try.results79,go_sem,u0,u1,u2,u3,u4]) rfl ?_;exact⟨by rw[<-HR2.out];rfl,dZ⟩
  ·as_aux_lemma=>
   rw[decide_eq_false hV]at HN;rw[if_neg hV]at HR2;generalize wrap64 (V:Int)=z at HN;go_wp2_with fail
   refine HN.out.mono ?_;rintro r w4 ⟨rfl,hb4⟩;replace hb0:=hb0.trans (hb4.mono hb0.size);replace x0:=x0.old hb4;clear HN hb4;go_upto_region 11 with fail
   go_wp2_with (first|(refine ae ed rfl _ _ rfl rfl [.int .i64 0,.string ⟨#[]⟩,.int .i64 0,.int .i64 0,.int .i64 0] rfl x0 rfl rfl rfl ?_;intro w9 p9))
   obtain⟨u0,u1,u2,u3,u4⟩:=zc5 p9.bk;have dZ:=p9.below _ _ hb0 zL;refine bodyPost_ret (v:=.tuple #[.agg #[.int .i64 0,.string ⟨#[]⟩,.int .i64 0,.int .i64 0,.int .i64 0],.int .i64 (0)]) (by simp[results,Try.results79,go_sem,u0,u1,u2,u3,u4]) rfl ?_;exact⟨by rw[<-HR2.out];rfl,dZ⟩
 ·as_aux_lemma=>
  have JY:((m:Int)==0)=false:=by rw[beq_eq_false_iff_ne];omega
  have hn15:n+m<=15:=by
   rcases Nat.lt_or_ge 15 (n+m)with h|h
   ·exact absurd (.inr (.inr ⟨by omega,h⟩)) hnb
   ·exact h
  obtain⟨hq2,hld,hmle,hme⟩:=lF.out (by
   cases U1 with
   |true=>rfl
   |false=>exact absurd (Az.out rfl) hm0)
  have U5:=zH hld
  have HDM:Hid (∀c∈(l.drop (n+1)).take m,o5 c):=zH fun c hc=>by
   rw[<-hld,<-hme]at hc;exact Na (yQ false _ c hc)
  clear hld hme;have HR2:Hid ((⟨4,[],ik 0 (D.toList++(l.drop (n+1)).take m),m,0⟩,n+1+m)=R):=zH (by rw[<-HR.out,if_neg hnb,if_neg hm0]);obtain⟨e,he⟩:∃e,q+1+m=e:=⟨_,rfl⟩
  have heI:(q:Int)+1+(m:Int)=(e:Int):=by omega
  have heI2:(e:Int)<=(s.size:Int):=by omega
  have hqeI:(q:Int)+1<=(e:Int):=by omega
  obtain⟨S,hS⟩:∃S,D++s.extract (q+1) e=S:=⟨_,rfl⟩
  have hSl:S.toList=D.toList++(l.drop (n+1)).take m:=by
   rw[<-hS,kW,aJ]
   congr 1
   rw[ByteArray.toList_eq,Lib.extract_eq,<-U5.out,ByteArray.toList_eq,<-he,Nat.add_sub_cancel_left]
  have hSs:S.size=n+m:=by
   rw[<-bI,hSl,List.length_append,bI,hDs,List.length_take,<-U5.out,List.length_drop,bI];omega
  have HSD:Hid (∀k (h:k<S.size),o5 S[k]):=zH fun k h=>by
   have h2:=dM S k h;have h3:S[k]∈S.toList:=List.mem_of_mem_drop (i:=k) (by rw[h2];simp);rw[hSl]at h3;rcases List.mem_append.1 h3 with h3|h3
   ·exact XQ.out _ h3
   ·exact HDM.out _ h3
  rw[<-hSl]at HR2;have MM:¬9223372036854775807<D.size+(e-(q+1)):=by omega
  go_upto_region 14 with fail
  clear HR XQ HD0 U0 Ew U5 HDM hSl h48 hD0I lF Az HB HB2 hnb;obtain⟨g,cc,W9,hcv,hbW,hcell⟩:=Nb S w2;have HC:=zH hcell;replace hb0:=hb0.trans (hbW.mono hb0.size);replace x0:=x0.old hbW;clear hcell hbW;go_wp2
  clear hcv MM hS
  go_loopw[11,98] (fun x i wr=>∃(k a:Nat),k<=S.size/\x=.int .i64 a/\i=.int .i64 k/\wr=W9/\Hid (a<10^k)/\Hid (ik a (S.toList.drop k)=ik 0 S.toList)) (fun _ i _=>S.size-(intOf i).toNat)
  case atStart=>exact⟨0,0,Nat.zero_le _,rfl,rfl,rfl,zH (by decide),zH (by rw[List.drop_zero])⟩
  case round=>
   obtain⟨k,a,hk,rfl,rfl,hwr,ha,hrec⟩:=hrel;obtain rfl:wr=W9:=hwr
   by_cases hlt:k<S.size
   ·as_aux_lemma=>
    have MO:(k:Int)<(S.size:Int):=by omega
    have hst:=hrec.out;rw[BF S a k hlt]at hst;have hdk:=HSD.out k hlt;unfold o5 at hdk;have hck:=HC.out k hlt;have HST:=zH hst
    have hnl:a<1000000000000000:=by
     have h1:=Nat.pow_le_pow_right (n:=10) (by omega) (show k<=15 by omega);have h2:=ha.out;have h3:(10:Nat)^15=1000000000000000:=by decide
     omega
    have HP:Hid (10*a+(S[k].toNat - 48)<10^(k+1)):=zH (by
     have h2:=ha.out
     rw[Nat.pow_succ];omega)
    generalize hsk:S[k].toNat=z at *;have h48:(48:Int)<=(z:Int):=by omega
    have h57:(z:Int)<=57:=by omega
    have hw1:IntKind.u8.wrap ((z:Int)-48)=(z:Int)-48:=by
     have e:IntKind.u8.wrap ((z:Int)-48)=((z:Int)-48)%256:=rfl;rw[e];omega
    have hw2:((z:Int)-48)%256=(z:Int)-48:=by omega
    have hw3:IntKind.i64.wrap ((z:Int)-48)=(z:Int)-48:=IntWalk.i64_in _ ⟨by omega,by omega⟩;have hw4:IntKind.i64.wrap (10*(a:Int))=10*(a:Int):=IntWalk.i64_in _ ⟨by omega,by omega⟩;have hw5:IntKind.i64.wrap (10*(a:Int)+((z:Int)-48))=10*(a:Int)+((z:Int)-48):=IntWalk.i64_in _ ⟨by omega,by omega⟩;clear ha hst hrec hsk;go_wp2
    go_roundw
    case rel=>exact⟨k+1,10*a+(z-48),by omega,by first|go_num|(congr 1;omega),by go_num,by first|rfl|trivial,HP,HST⟩
    case measure=>simp[intOf];omega
   ·as_aux_lemma=>
    obtain rfl:k=S.size:=by omega
    have hst:=hrec.out;rw[List.drop_eq_nil_of_le (by rw[bI];omega)]at hst;have hst:a=ik 0 S.toList:=hst;have HR3:Hid ((⟨4,[],a,m,0⟩,n+1+m)=R):=zH (by rw[hst];exact HR2.out);clear hrec hst ha HR2 HC HSD;go_upto_region 19 with fail
    go_wp2_with (first|(refine ae ed rfl _ _ rfl rfl [.int .i64 4,.string ⟨#[]⟩,.int .i64 a,.int .i64 m,.int .i64 0] rfl x0 rfl rfl rfl ?_;intro w9 p9))
    obtain⟨u0,u1,u2,u3,u4⟩:=zc5 p9.bk;have dZ:=p9.below _ _ hb0 zL;refine bodyPost_ret (v:=.tuple #[.agg #[.int .i64 4,.string ⟨#[]⟩,.int .i64 a,.int .i64 m,.int .i64 0],.int .i64 ((n:Nat)+1+(m:Nat))]) (by simp[results,Try.results79,go_sem,u0,u1,u2,u3,u4]) rfl ?_;exact⟨by rw[<-HR3.out];rfl,dZ⟩
end Go.Proofs.Ytbjnhllkdilpfaa
