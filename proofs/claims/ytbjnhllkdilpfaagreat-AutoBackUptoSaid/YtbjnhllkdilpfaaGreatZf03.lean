/- Part 3 of the proof. No conditions. -/
import Derived.Test.YtbjnhllkdilpfaaGreatZf02
set_option linter.unusedVariables false
set_option linter.unusedSimpArgs false
set_option maxRecDepth 10000
namespace Go.Proofs.YtbjnhllkdilpfaaGreat
open Go.RowKit _root_.Go.Proofs.Tryz
def oP:List ByteArray:=[⟨#[80,65,84,84,69,82,78]⟩,⟨#[83,69,81]⟩,⟨#[87,72,69,82,69]⟩,⟨#[83,84,82,65,84,69,71,89]⟩,⟨#[87,73,84,72,73,78]⟩,⟨#[80,65,82,84,73,84,73,79,78]⟩,⟨#[66,89]⟩,⟨#[83,84,82,73,67,84]⟩,⟨#[78,69,88,84]⟩,⟨#[65,78,89]⟩,⟨#[65,78,68]⟩,⟨#[79,82]⟩,⟨#[78,79,84]⟩,⟨#[84,82,85,69]⟩,⟨#[70,65,76,83,69]⟩,⟨#[84,73,77,69]⟩,⟨#[82,69,65,76]⟩,⟨#[73,83,78,65,78]⟩,⟨#[67,79,85,78,84]⟩,⟨#[70,73,82,83,84]⟩,⟨#[76,65,83,84]⟩,⟨#[83,85,77]⟩,⟨#[77,73,78]⟩,⟨#[77,65,88]⟩,⟨#[77,69,65,78]⟩]
def Tv:Array Value:=(oP.map Value.string).toArray
theorem IC:oP.map (·.toList)=L9:=by
 simp only[oP,L9,zGq,zHc,zFm]
theorem Qs (w:World):Calls prog 98 #[] w λe w'=>e=.returned (.slice (some ⟨w.heap.size,0,none⟩) 25 25)/\Rd w' (w.heap.size+1) (some ⟨w.heap.size,0,none⟩) (oP.map Value.string)/\Below w w w':=by
 go_enter func98,ntmps98
 go_wp2
 go_ret
 exact⟨rfl,Rd.lit rfl Tv _,zR.alloc zL _⟩
def sK (s:List UInt8):List (List UInt8)->Bool
 |[]=>false
 |x::l=>if x==s then true else sK s l
theorem Mc (s:List UInt8) (l:List (List UInt8)):sK s l=l.any (s==·):=by
 induction l with
 |nil=>rfl
 |cons x l a=>
  rw[sK,List.any_cons,<-a,show(s==x)=(x==s)from by rw[zHe,zFt,zFt];exact eq_comm];cases(x==s)<;>rfl
theorem yI (s:ByteArray) (w:World):
  Calls prog 83 #[s] w λe w'=>e=.returned (.bool (vw s.toList))/\Below w w w':=by
 have a:vw s.toList=sK s.toList (oP.map (·.toList)):=by rw[IC,Mc];rfl
 rw[a];have n:=zH a;clear a
 go_enter func83,ntmps83
 go_wp2_with (go_at_call 98;refine(Qs _).mono ?_;rintro e p ⟨rfl,m,d⟩)
 have a:oP.length=25:=rfl;have j:=zH a;clear a
 go_loop[7] (λi=>∃k:Nat,k<=25/\i=.int .i64 k/\Hid (sK s.toList (oP.map (·.toList))=sK s.toList ((oP.drop k).map (·.toList)))) (λi=>25-(intOf i).toNat)
 case atStart=>exact⟨0,zFj _,rfl,rfl⟩
 case round=>
  obtain⟨k,r,rfl,a⟩:=hrel
  by_cases f:k<25
  ·have c:k<oP.length:=by rw[j.out];exact f
   obtain⟨b,o,g,hb,l⟩:=m.OL c;injection g with g
   injection g with hA1 hA2
   subst hA1;subst hA2;rw[zFr]at l;rw[zFk c]at a;generalize h:oP[k]=W at *;have q:=zH h;clear h;go_wp2
   ·go_ret
    have h:(W.toList==s.toList)=true:=by assumption
    refine⟨nR ?_,d⟩;rw[a.out,zGq,sK,zF3 h]
   have h:(W.toList==s.toList)=false:=by assumption
   go_round
   case rel=>exact⟨k+1,by omega,by go_num,by rw[a.out,zGq,sK,h];rfl⟩
   case measure=>simp[intOf];omega
  go_wp2
  go_ret
  refine⟨nR ?_,d⟩;rw[a.out,zFq (by rw[j.out];omega)];rfl
def okB (c:UInt8):Bool:=jg c.toNat||kM c.toNat||decide ((c.toNat:Int)=95)
def BD (l:List UInt8):Bool:=match l with|c::_=>jg c.toNat|[]=>false
def nameB (l:List UInt8):Bool:=decide (1<=l.length/\l.length<=24)&&(BD l&&(!vw l&&l.all okB))
theorem bW (s:ByteArray):s.toList.length=s.size:=by rw[zFm,Array.length_toList];rfl
theorem Tz (s:ByteArray) (k:Nat) (h:k<s.size):s.toList[k]'(by rw[bW];exact h)=s[k]:=by
 simp only[zFm];rfl
theorem dV (s:ByteArray) (k:Nat) (h:k<s.size):s.toList.drop k=s[k]::s.toList.drop (k+1):=by
 rw[zFk (by rw[bW];exact h),Tz s k h]
theorem BF (s:ByteArray) (h:0<s.size):BD s.toList=jg s[0].toNat:=by
 have:=dV s 0 h;rw[zFp]at this;rw[this];rfl
theorem EC (l:List UInt8) (h:¬(1<=l.length/\l.length<=24)):nameB l=false:=by simp only[nameB,zGf h,zJh]
theorem Md (l:List UInt8) (h:BD l=false):nameB l=false:=by simp[nameB,h]
theorem Qu (l:List UInt8) (h:vw l=true):nameB l=false:=by simp[nameB,h]
theorem TA (l:List UInt8) (h:1<=l.length/\l.length<=24) (b:BD l=true) (a:vw l=false):nameB l=l.all okB:=by simp[nameB,h,b,a]
theorem pM (s:ByteArray) (w:World):
  Calls prog 84 #[s] w λe w'=>e=.returned (.bool (nameB s.toList))/\Below w w w':=by
 by_cases j:1<=s.size/\s.size<=24
 ·have d:0<s.size:=by omega
  cases hf:jg s[0].toNat
  ·rw[Md _ ((BF s d).trans hf)]
   go_enter func84,ntmps84
   go_wp2_with (go_at_call 81;refine(lH _ _).mono ?_;rintro e w' ⟨rfl,rfl⟩)
   go_ret
   exact⟨rfl,zGp _ _⟩
  have f:BD s.toList=true:=(BF s d).trans hf;cases hw:vw s.toList
  ·have a:=TA s.toList (by rw[bW];exact j) f hw;have n:=zH a;clear a;rw[n.out];clear f
   go_enter func84,ntmps84
   go_wp2_with (first|(go_at_call 81;refine(lH _ _).mono ?_;rintro e w' ⟨rfl,rfl⟩)|(go_at_call 83;refine(yI _ _).mono ?_;rintro e o ⟨rfl,b⟩))
   clear hf hw
   go_loop[3] (λi=>∃k:Nat,k<=s.size/\i=.int .i64 k/\Hid (s.toList.all okB=(s.toList.drop k).all okB)) (λi=>s.size-(intOf i).toNat)
   case atStart=>exact⟨0,zFj _,rfl,rfl⟩
   case round=>
    obtain⟨k,p,rfl,a⟩:=hrel
    by_cases h:k<s.size
    ·rw[dV s k h,List.all_cons]at a;generalize c:(s.toList.drop (k+1)).all okB=r at *;have m:=zH c;clear c;cases hL:jg s[k].toNat<;>cases hD:kM s[k].toNat<;>by_cases c:(s[k].toNat:Int)=95
     all_goals cases hok:okB s[k]
     all_goals first|(exfalso;simp[okB,hL,hD,c]at hok;done)|skip
     all_goals have l:=zH hok
     all_goals clear hok
     all_goals try(have g:((s[k].toNat:Int) !=95)=false:=by simp[c])
     all_goals try(have g:((s[k].toNat:Int) !=95)=true:=by simp[c])
     all_goals clear c
     all_goals go_wp2_with (first|(go_at_call 81;refine(lH _ _).mono ?_;rintro e w' ⟨rfl,rfl⟩)|(go_at_call 85;refine(ui _ _).mono ?_;rintro e w' ⟨rfl,rfl⟩))
     all_goals first
      |(go_ret;refine⟨nR ?_,b⟩;rw[a.out,l.out];rfl;done)
      | (go_round
         (case rel=>exact⟨k+1,by omega,by go_num,by rw[a.out,l.out,zJc];exact m.symm⟩)
         (case measure=>simp[intOf];omega))
    go_wp2
    go_ret
    refine⟨nR ?_,b⟩;rw[a.out,zFq (by rw[bW];omega)];rfl
  rw[Qu _ hw]
  go_enter func84,ntmps84
  go_wp2_with (first|(go_at_call 81;refine(lH _ _).mono ?_;rintro e w' ⟨rfl,rfl⟩)|(go_at_call 83;refine(yI _ _).mono ?_;rintro e o ⟨rfl,b⟩))
  go_ret
  exact⟨rfl,b⟩
 rw[EC _ (by rw[bW];exact j)];rcases(by omega:s.size<1\/24<s.size)with h|h
 ·have e:s.size=0:=by omega
  clear j
  go_enter func84,ntmps84
  go_wp2
  go_ret
  exact⟨rfl,zGp _ _⟩
 clear j
 go_enter func84,ntmps84
 go_wp2
 go_ret
 exact⟨rfl,zGp _ _⟩
abbrev Str:=List UInt8
structure aC where
 kind:Nat
 text:Str
 n:Nat
 scale:Nat
 pos:Nat
 deriving DecidableEq
def qA:aC:=⟨0,[],0,0,0⟩
def yJ (c:UInt8):Bool:=c==32||c==9||c==10||c==13
def fU:Str->Nat
 |[]=>0
 |c::r=>if yJ c then fU r+1 else 0
def IG (names:Bool) (c:UInt8):Bool:=kM c.toNat||(names&&(jg c.toNat||c==95))
def eX (names:Bool):Str->Nat
 |[]=>0
 |c::r=>if IG names c then eX names r+1 else 0
def iM:Nat->Str->Nat
 |n,[]=>n
 |n,c::r=>iM (10*n+(c.toNat-48)) r
def vz (l:Str) (n:Nat):Nat:=if l[n]? =some 46 then eX false (l.drop (n+1))else 0
def numberT (l:Str):aC×Nat:=
 let n:=eX false l
 let m:=vz l n
 if(1<n/\l[0]? =some 48)\/(m=0/\19<n)\/(0<m/\15<n+m)then(qA,0)
 else if m=0 then(if iM 0 (l.take n)<=9223372036854775807 then(⟨3,[],iM 0 (l.take n),0,0⟩,n)else(qA,0))
 else(⟨4,[],iM 0 (l.take n++(l.drop (n+1)).take m),m,0⟩,n+1+m)
def jJ:List Str:=[[33,61],[60,61],[62,61],[40],[41],[44],[46],[43],[45],[42],[47],[37],[61],[60],[62],[33],[124]]
def zI (l:Str):List Str->Option Str
 |[]=>none
 |w::r=>if l.take w.length=w then some w else zI l r
def Qv (l:Str):aC×Nat:=
 let n:=eX true (l.drop 1)
 if nameB ((l.drop 1).take n)=true/\l[1+n]? =some 39 then(⟨5,(l.drop 1).take n,0,0,0⟩,n+2)else(qA,0)
def ED (l:Str):aC×Nat:=
 let n:=eX true l
 if vw (l.take n)then(⟨1,l.take n,0,0,0⟩,n)else if nameB (l.take n)then(⟨2,l.take n,0,0,0⟩,n)else(qA,0)
def su (l:Str):aC×Nat:=
 match l with
 |[]=>(qA,0)
 |c::_=>
  if jg c.toNat then ED l
  else if kM c.toNat then numberT l
  else if c=39 then Qv l
  else match zI l jJ with
   |some w=>(⟨6,w,0,0,0⟩,w.length)
   |none=>(qA,0)
def setPos (t:aC) (p:Nat):aC:=⟨t.kind,t.text,t.n,t.scale,p⟩
def pO (s:Str):Nat->Nat->List aC->List aC×Nat×Nat
 |0,_,_=>([],0,0)
 |f+1,p,acc=>
  let p:=p+fU (s.drop p)
  if p=s.length then(acc++[setPos qA p],0,0)
  else if(su (s.drop p)).2=0 then([],p,12)
  else pO s f (p+(su (s.drop p)).2) (acc++[setPos (su (s.drop p)).1 p])
def jW (s:Str):List aC×Nat×Nat:=if 4000<s.length then([],0,2)else pO s (s.length+1) 0 []
inductive az
 |leaf (op n scale:Nat) (name attr:Str) (pos:Nat)
 |un (op:Nat) (x:az) (pos:Nat)
 |bin (op:Nat) (x y:az) (pos:Nat)
def BG:az:=.leaf 0 0 0 [] [] 0
structure PS where
 i:Nat
 opn:Nat
 err:Nat
 pos:Nat
section
variable (L:List aC)
def bC (s:PS):aC:=L.getD s.i qA
def fD (s:PS) (w:Str):Bool:=((bC L s).kind==1||(bC L s).kind==6)&&(bC L s).text==w
def bf (e:Nat) (s:PS):PS:=if s.err=0 then⟨s.i,s.opn,e,(bC L s).pos⟩else s
def aO (s:PS):PS:=⟨s.i+1,s.opn,s.err,s.pos⟩
def aQ (w:Str) (s:PS):PS:=if s.err≠0 then s else if fD L s w then aO s else bf L 13 s
def iE (s:PS):Str×PS:=if s.err≠0 then([],s)else if(bC L s).kind=2 then((bC L s).text,aO s)else([],bf L 13 s)
def iY:Str:=[84,73,77,69]
def iR (s:PS):Str×Str×PS:=
 let(n,s):=iE L s
 let s:=aQ L [46] s
 if s.err=0/\fD L s iY=true then(n,iY,aO s)else(n,iE L s)
def dG (s:PS):PS:=
 let s1:=if s.opn=30 then bf L 14 s else s
 ⟨s1.i+1,s1.opn+1,s1.err,s1.pos⟩
def BH (s:PS):PS:=⟨s.i,s.opn-1,s.err,s.pos⟩
def dN:Nat->List Str×Nat
 |1=>([[79,82]],14)
 |2=>([[65,78,68]],13)
 |4=>([[61],[33,61],[60],[60,61],[62],[62,61]],7)
 |5=>([[43],[45]],1)
 |6=>([[42],[47],[37]],3)
 |_=>([],0)
def oQ (s:PS) (first:Nat):Nat->List Str->Nat->Nat
 |_,[],op=>op
 |i,w::r,op=>oQ s first (i+1) r (if fD L s w then first+i else op)
def WZ (level:Nat) (s:PS):Nat:=oQ L s (dN level).2 0 (dN level).1 0
def rQ (lv:PS->az×PS) (level:Nat):Nat->az->PS->az×PS
 |0,x,s=>(x,s)
 |k+1,x,s=>
  if s.err≠0 then(x,s)
  else if WZ L level s=0 then(x,s)
  else
   let at_:=(bC L s).pos
   let op:=WZ L level s
   let(y,s):=lv (aO s)
   if level=4 then(.bin op x y at_,s)else rQ lv level k (.bin op x y at_) s
def wNot:Str:=[78,79,84]
def OM (level:Nat):Str:=if level=7 then[45]else wNot
def II (level:Nat):Nat:=if level=7 then 6 else 15
def jX:List Str:=[[67,79,85,78,84],[70,73,82,83,84],[76,65,83,84],[83,85,77],[77,73,78],[77,65,88],[77,69,65,78]]
def TB (s:PS) (i:Nat):Str×Str×PS:=
 let s:=aQ L [40] (aO s)
 let(n,a,s):=if i=0 then(let(n,s):=iE L s;(n,[],s))else iR L s
 (n,a,aQ L [41] s)
def jI (pos:Nat):Nat->List Str->Nat×Str×Str×PS->Nat×Str×Str×PS
 |_,[],r=>r
 |i,w::l,(op,n,a,s)=>jI pos (i+1) l (if op=0/\fD L s w=true then(25+i,TB L s i)else(op,n,a,s))
def fA (pos:Nat) (s:PS):az×PS:=
 let(op,n,a,s):=jI L pos 0 jX (0,[],[],s)
 (.leaf op 0 0 n a pos,if op=0 then bf L 13 s else s)
def EE:Str:=[84,82,85,69]
def Gl:Str:=[70,65,76,83,69]
def OO:Str:=[82,69,65,76]
def TC:Str:=[73,83,78,65,78]
def pR (lv:PS->az×PS) (s:PS):az×PS:=
 let t:=bC L s
 if t.kind=3 then(.leaf 20 t.n 0 [] [] t.pos,aO s)
 else if t.kind=4 then(.leaf 21 t.n t.scale [] [] t.pos,aO s)
 else if t.kind=5 then(.leaf 23 0 0 t.text [] t.pos,aO s)
 else if t.kind=2 then(let(n,a,s):=iR L s;(.leaf 24 0 0 n a t.pos,s))
 else if fD L s [40]then(let(x,s):=lv (dG L s);(x,BH (aQ L [41] s)))
 else if fD L s EE||fD L s Gl then(.leaf 22 (if fD L s EE then 1 else 0) 0 [] [] t.pos,aO s)
 else if fD L s OO||fD L s TC then(let(x,s1):=lv (aQ L [40] (dG L s));(.un (if fD L s TC then 17 else 16) x t.pos,BH (aQ L [41] s1)))
 else fA L t.pos s
def aW:Nat->Nat->PS->az×PS
 |0,_,s=>(BG,s)
 |f+1,level,s=>
  if s.err≠0 then(BG,s)
  else if level=3\/level=7 then
   (if fD L s (OM level)then
    (let at_:=(bC L s).pos
     let(x,s):=aW f level (dG L s)
     (.un (II level) x at_,BH s))
   else aW f (level+1) s)
  else if level=8 then pR L (aW f 1) s
  else(let(x,s):=aW f (level+1) s;rQ L (aW f (level+1)) level (L.length+1) x s)
def lZ:Nat:=10*L.length+10
def mV (i:Nat):az×Nat×Nat×Nat:=
 let(x,s):=aW L (lZ L) 1 ⟨i,0,0,0⟩
 if s.err≠0 then(BG,0,s.pos,s.err)else(x,s.i,0,0)
end
def aF:az->Nat
 |.leaf ..=>1
 |.un _ x _=>1+aF x
 |.bin _ x y _=>1+aF x+aF y
structure bn where
 form:Nat
 type:Str
 name:Str
 pos:Nat
structure di where
 branches:List (List bn)
 cond:List az
 aS:Nat
 window:Nat
 key:Str
 keyAt:Nat
def yK:di:=⟨[],[],0,0,[],0⟩
def jB:az->List az
 |.bin op x y p=>if op=13 then jB x++jB y else[.bin op x y p]
 |e=>[e]
section
variable (L:List aC)
def l7:Str:=[80,65,84,84,69,82,78]
def oU:Str:=[83,69,81]
def vS:Str:=[87,72,69,82,69]
def jh:Str:=[83,84,82,65,84,69,71,89]
def uj:Str:=[87,73,84,72,73,78]
def qB:Str:=[80,65,82,84,73,84,73,79,78]
def Zj:Str:=[66,89]
def oV:List Str:=[[83,84,82,73,67,84],[78,69,88,84],[65,78,89]]
def dK (s:PS):Str×PS:=if s.err≠0\/(bC L s).kind≠2 then([],bf L 13 s)else((bC L s).text,aO s)
def jY (n:Nat) (s:PS):bn×PS:=
 let t:=bC L s
 if n=8/\(t.kind=2\/fD L s [33]=true)then(⟨0,[],[],0⟩,bf L 2 s)
 else
  let neg:=fD L s [33]
  let s:=if neg then aO s else s
  let(ty,s):=dK L s
  let plus:=decide (s.err=0)&&(!neg&&fD L s [43])
  let s:=if plus then aO s else s
  let(nm,s):=dK L s
  (⟨if neg then 3 else if plus then 2 else 1,ty,nm,t.pos⟩,s)
def oW:Nat->List bn->PS->List bn×PS
 |0,l,s=>(l,s)
 |k+1,l,s=>
  if s.err≠0 then(l,s)
  else
   let(x,s):=jY L l.length s
   if s.err≠0\/fD L s [44]=false then(l++[x],s)else oW k (l++[x]) (aO s)
def dY (nb:Nat) (s:PS):List bn×PS:=
 let s:=if s.err=0/\fD L s oU=true/\nb=4 then bf L 2 s else s
 let s:=aQ L [40] (aQ L oU s)
 let(l,s):=oW L (L.length+1) [] s
 (l,aQ L [41] s)
def ji:Nat->List (List bn)->PS->List (List bn)×PS
 |0,b,s=>(b,s)
 |k+1,b,s=>
  if s.err≠0\/fD L s [124]=false then(b,s)
  else
   let(l,s):=dY L b.length (aO s)
   ji k (b++[l]) s
def ig (s:PS):List az×PS:=
 if s.err≠0\/fD L s vS=false then([],s)
 else
  let r:=mV L (s.i+1)
  if r.2.2.2≠0 then([],⟨s.i+1,s.opn,r.2.2.2,r.2.2.1⟩)else(jB r.1,⟨r.2.1,s.opn,s.err,s.pos⟩)
def gB:Nat->List Str->Nat×PS->Nat×PS
 |_,[],r=>r
 |i,w::l,(st,s)=>gB (i+1) l (if s.err=0/\st=0/\fD L s w=true then(i+1,aO s)else(st,s))
def mW (s:PS):(Nat×Nat×Str×Nat)×PS:=
 let s:=aQ L jh s
 let(st,s):=gB L 0 oV (0,s)
 let s:=if st=0 then bf L 13 s else s
 let s:=aQ L uj s
 let s:=if s.err=0/\(bC L s).kind≠3 then bf L 13 s else s
 let s:=if s.err=0/\1152921504606846976<(bC L s).n then bf L 1 s else s
 if s.err≠0 then((st,0,[],0),s)
 else
  let win:=(bC L s).n
  let s:=aO s
  if fD L s qB then
   (let s:=aQ L Zj (aO s)
    let at_:=(bC L s).pos
    let(k,s):=dK L s
    ((st,win,k,at_),s))
  else((st,win,[],0),s)
end
def aX:Nat->List az->Nat
 |_,[]=>0
 |i,x::l=>aF x+(if 0<i then 1 else 0)+aX (i+1) l
def iJ (q:di):Nat:=aX 0 q.cond
def BI (L:List aC):di×Nat×Nat:=
 let s:=aQ L l7 ⟨0,0,0,0⟩
 let(l,s):=dY L 0 s
 let(bs,s):=ji L (L.length+1) [l] s
 let(wh,s):=ig L s
 let((st,win,key,keyAt),s):=mW L s
 let s:=if s.err=0/\(bC L s).kind≠0 then bf L 13 s else s
 if s.err≠0 then(yK,s.pos,s.err)
 else if 200<iJ ⟨bs,wh,st,win,key,keyAt⟩then(yK,0,2)
 else(⟨bs,wh,st,win,key,keyAt⟩,0,0)
def jK (text:Str):di×Nat×Nat:=
 let r:=jW text
 if r.2.2≠0 then(yK,r.2.1,r.2.2)else BI r.1
end Go.Proofs.YtbjnhllkdilpfaaGreat
