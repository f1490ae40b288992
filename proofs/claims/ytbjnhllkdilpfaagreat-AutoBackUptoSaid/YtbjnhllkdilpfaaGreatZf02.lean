/- Part 2 of the proof. No conditions. -/
import Derived.Test.YtbjnhllkdilpfaaGreatZf01
set_option linter.unusedVariables false
set_option linter.unusedSimpArgs false
set_option maxRecDepth 10000
namespace Go.Proofs.YtbjnhllkdilpfaaGreat
open Go.RowKit _root_.Go.Proofs.Tryz
def jg (c:Int):Bool:=decide (97<=c/\c<=122\/65<=c/\c<=90)
def kM (c:Int):Bool:=decide (48<=c/\c<=57)
def L9:List (List UInt8):=[[80,65,84,84,69,82,78],[83,69,81],[87,72,69,82,69],[83,84,82,65,84,69,71,89],[87,73,84,72,73,78],[80,65,82,84,73,84,73,79,78],[66,89],[83,84,82,73,67,84],[78,69,88,84],[65,78,89],[65,78,68],[79,82],[78,79,84],[84,82,85,69],[70,65,76,83,69],[84,73,77,69],[82,69,65,76],[73,83,78,65,78],[67,79,85,78,84],[70,73,82,83,84],[76,65,83,84],[83,85,77],[77,73,78],[77,65,88],[77,69,65,78]]
def vw (l:List UInt8):Bool:=L9.any (l==·)
theorem lH (c:Int) (w:World):
  Calls prog 81 #[.int .u8 c] w λe w'=>e=.returned (.bool (jg c))/\w=w':=by
 by_cases b:97<=c<;>by_cases d:c<=122<;>by_cases a:65<=c<;>by_cases e:c<=90<;>
 (go_enter func81,ntmps81
  go_wp2
  all_goals go_ret
  all_goals(refine⟨?_,rfl⟩)
  all_goals(congr 2;simp[jg]<;>omega))
theorem ui (c:Int) (w:World):
  Calls prog 85 #[.int .u8 c] w λe w'=>e=.returned (.bool (kM c))/\w=w':=by
 by_cases a:48<=c<;>by_cases b:c<=57<;>
 (go_enter func85,ntmps85
  go_wp2
  all_goals go_ret
  all_goals(refine⟨?_,rfl⟩)
  all_goals(congr 2;simp[kM]<;>omega))
def fP (s:List UInt8):Nat->List (List UInt8)->Int
 |_,[]=> -1
 |k,x::l=>if x==s then k else fP s (k+1) l
theorem Us (A:Option Addr) (c:Nat) (l:List ByteArray) (s:ByteArray) (B:Nat) (w:World) (h:Rd w B A (l.map .string)) (g:l.length<=maxLen):
  Calls prog 92 #[.slice A l.length c,s] w λe w'=>e=.returned (.int .i64 (fP s.toList 0 (l.map (·.toList))))/\w=w':=by
 unfold maxLen at g
 go_enter func92,ntmps92
 go_wp2
 go_loop[4,5,6,9] (λ_ _ _ i=>∃k:Nat,k<=l.length/\i=.int .i64 k/\Hid (fP s.toList 0 (l.map (·.toList))=fP s.toList k ((l.drop k).map (·.toList)))) (λ_ _ _ i=>l.length-(intOf i).toNat)
 case atStart=>exact⟨0,zFj _,rfl,rfl⟩
 case round=>
  obtain⟨k,n,rfl,a⟩:=hrel
  by_cases d:k<l.length
  ·obtain⟨b,o,rfl,hb,e⟩:=h.at_ (j:=k) (by simpa using d);have m:w.cell? ⟨b,o+k,none⟩=some (.string l[k]):=e k _ (by simp[d]);have f:l.drop k=l[k]::l.drop (k+1):=zFk d;rw[f]at a;clear e f;go_wp2
   ·go_ret
    refine⟨gJ ?_,rfl⟩;have e:(l[k].toList==s.toList)=true:=by assumption
    rw[a.out,zGq,fP,zF3 e]
   have e:(l[k].toList==s.toList)=false:=by assumption
   go_round
   case rel=>exact⟨k+1,by omega,by go_num,by rw[a.out,zGq,fP,e];rfl⟩
   case measure=>simp[intOf];omega
  go_wp2
  go_ret
  refine⟨gJ ?_,rfl⟩;rw[a.out,zFq (by omega)];rfl
structure mQ where
 name:ByteArray
 kind:Int
structure rV where
 name:ByteArray
 fa:Option Addr
 fc:Nat
 fields:List mQ
structure ai where
 ta:Option Addr
 tc:Nat
 types:List rV
 sa:Option Addr
 sc:Nat
 syms:List ByteArray
def mQ.cells (f:mQ):List Value:=[.string f.name,.int .i64 f.kind]
def rV.cells (t:rV):List Value:=[.string t.name,.slice t.fa t.fields.length t.fc]
def ai.val (s:ai):Value:=.agg #[.slice s.ta s.types.length s.tc,.slice s.sa s.syms.length s.sc]
structure rV.ok (t:rV) (w:World) (B:Nat):Prop where
 rd:Rd w B t.fa (t.fields.flatMap mQ.cells)
 len:t.fields.length<=5864062014634
 Ut:t.name.size<=140737488351232
 Uu:∀f∈t.fields,f.name.size<=140737488351232
structure ai.ok (s:ai) (w:World) (B:Nat):Prop where
 rd:Rd w B s.ta (s.types.flatMap rV.cells)
 len:s.types.length<=3518437208780
 each:∀t∈s.types,t.ok w B
 syms:Rd w B s.sa (s.syms.map .string)
 slen:s.syms.length<=8796093021952
 ssize:∀x∈s.syms,x.size<=140737488351232
def nM (s:List UInt8) (k:Nat) (l:List mQ):Int:=fP s k (l.map (·.name.toList))
def dA (s:ai) (t:Int) (nm:List UInt8):Int:=if 0<=t then(match s.types[t.toNat]? with|some x=>nM nm 0 x.fields|none=> -1)else -1
theorem tC (a:List UInt8) (l:List mQ) (k:Nat) (h:k<l.length):nM a k (l.drop k)=if(l[k].name.toList==a)=true then(k:Int)else nM a (k+1) (l.drop (k+1)):=by
 rw[zFk h];rfl
def typeAt (s:ai) (nm:List UInt8):Int:=fP nm 0 (s.types.map (·.name.toList))
theorem MZ (s:ai) (d:ByteArray) (w:World) (h:s.ok w w.heap.size):
  Calls prog 69 #[s.val,d] w λe w'=>e=.returned (.int .i64 (typeAt s d.toList))/\Below w w w':=by
 obtain⟨j,p,c,f,e,_⟩:=h;have a:typeAt s d.toList=fP d.toList 0 (s.types.map (·.name.toList)):=rfl;rw[a];unfold ai.val;clear a c f e
 go_enter func69,ntmps69
 go_wp2
 go_loopw[4,5,6,10] (λ_ _ _ i wr=>∃k:Nat,k<=s.types.length/\i=.int .i64 k/\Below w w wr/\Hid (fP d.toList 0 (s.types.map (·.name.toList))=fP d.toList k ((s.types.drop k).map (·.name.toList)))) (λ_ _ _ i _=>s.types.length-(intOf i).toNat)
 case atStart=>exact⟨0,zFj _,rfl,zR.alloc zL _,rfl⟩
 case round=>
  obtain⟨k,q,rfl,c,a⟩:=hrel
  by_cases e:k<s.types.length
  ·obtain⟨b,o,g,hb,f⟩:=(j.below c).elem (n:=2) (λ_=>rfl) (by omega) e;have l:wr.cell? ⟨b,o+k*2,none⟩=some (.string s.types[k].name):=f 0 _ rfl;have m:wr.cell? ⟨b,o+k*2+1,none⟩=some (.slice s.types[k].fa s.types[k].fields.length s.types[k].fc):=f 1 _ rfl;rw[zFk e]at a;rw[g];clear f;go_wp2
   ·go_ret
    have f:(s.types[k].name.toList==d.toList)=true:=by assumption
    exact⟨gJ (by rw[a.out,zGq,fP,zF3 f]),c.alloc c.size _⟩
   have f:(s.types[k].name.toList==d.toList)=false:=by assumption
   go_roundw
   case rel=>exact⟨k+1,by omega,by go_num,c.alloc c.size _,by rw[a.out,zGq,fP,f];rfl⟩
   case measure=>simp[intOf];omega
  go_wp2
  go_ret
  exact⟨gJ (by rw[a.out,zFq (by omega)];rfl),c⟩
theorem wF (s:ai) (t:Int) (f:ByteArray) (w:World) (h:s.ok w w.heap.size):
  Calls prog 73 #[s.val,t,f] w λe w'=>e=.returned (.int .i64 (dA s t f.toList))/\Below w w w':=by
 obtain⟨y,A,e,p,x,_⟩:=h
 by_cases v:0<=t
 ·by_cases m:t<s.types.length
  ·obtain⟨t,rfl⟩:=zJv v;have m:t<s.types.length:=by omega
   obtain⟨b,o,l,hb,j⟩:=y.elem (n:=2) (λ_=>rfl) (by omega) m;have r:w.cell? ⟨b,o+t*2+1,none⟩=some (.slice s.types[t].fa s.types[t].fields.length s.types[t].fc):=j 1 _ rfl;obtain⟨u,z,_,_⟩:=e s.types[t] (by simp);have a:dA s (t:Int) f.toList=nM f.toList 0 s.types[t].fields:=by simp[dA,m]
   rw[a];clear j e y p a;unfold ai.val;rw[l];generalize s.types[t]=T at *
   go_enter func73,ntmps73
   go_wp2
   go_loopw[6,7,8,25] (λ_ _ _ i wr=>∃k:Nat,k<=T.fields.length/\i=.int .i64 k/\Below w w wr/\Hid (nM f.toList 0 T.fields=nM f.toList k (T.fields.drop k))) (λ_ _ _ i _=>T.fields.length-(intOf i).toNat)
   case atStart=>exact⟨0,zFj _,rfl,zR.alloc zL _,rfl⟩
   case round=>
    obtain⟨k,C,rfl,c,d⟩:=hrel
    by_cases g:k<T.fields.length
    ·obtain⟨b,o,q,hb,j⟩:=(u.below c).elem (n:=2) (λ_=>rfl) (by omega) g;have B:wr.cell? ⟨b,o+k*2,none⟩=some (.string T.fields[k].name):=j 0 _ rfl;have r:wr.cell? ⟨b,o+k*2+1,none⟩=some (.int .i64 T.fields[k].kind):=j 1 _ rfl;rw[q];go_wp2
     ·go_ret
      have l:(T.fields[k].name.toList==f.toList)=true:=by assumption
      exact⟨gJ (by rw[d.out,tC _ _ _ g,zF3 l]),c.alloc c.size _⟩
     have l:(T.fields[k].name.toList==f.toList)=false:=by assumption
     go_roundw
     case rel=>exact⟨k+1,by omega,by go_num,c.alloc c.size _,by rw[d.out,tC _ _ _ g,l];rfl⟩
     case measure=>simp[intOf];omega
    go_wp2
    go_ret
    exact⟨gJ (by rw[d.out,zFq (by omega)];rfl),c⟩
  have a:dA s t f.toList= -1:=by
   rw[dA,zF3 v,zG7 (by omega)]
  have H:=zH a;clear a;unfold ai.val
  go_enter func73,ntmps73
  go_wp2
  go_ret
  exact⟨gJ H.symm,zR.alloc zL _⟩
 unfold ai.val
 go_enter func73,ntmps73
 go_wp2
 go_ret
 exact⟨gJ (by rw[dA,zF2 (by omega)]),zR.alloc zL _⟩
def iq (s:ai) (t a:Int):Int:=
 if 0<=t then(match s.types[t.toNat]? with
  |some x=>if a= -1 then 1 else if 0<=a then(match x.fields[a.toNat]? with|some f=>f.kind|none=>0)else 0
  |none=>0)else 0
theorem Js (s:ai) (t a:Int) (h:¬(0<=t/\t<s.types.length)):iq s t a=0:=by
 unfold iq
 split
 ·rw[zG7 (by omega)]
 rfl
theorem Jt (s:ai) (t:Nat) (a:Int) (h:t<s.types.length):iq s t a=if a= -1 then 1 else if 0<=a then(match s.types[t].fields[a.toNat]? with|some f=>f.kind|none=>0)else 0:=by
 simp[iq,h]
theorem Ju (s:ai) (t a:Int) (w:World) (h:s.ok w w.heap.size):
  Calls prog 72 #[s.val,t,a] w λe w'=>e=.returned (.int .i64 (iq s t a))/\Below w w w':=by
 obtain⟨r,v,c,l,q,_⟩:=h
 by_cases i:0<=t/\t<s.types.length
 ·obtain⟨t,rfl⟩:=zJv i.1;have j:t<s.types.length:=by omega
  obtain⟨b,o,x,hb,d⟩:=r.elem (n:=2) (λ_=>rfl) (by omega) j;have m:w.cell? ⟨b,o+t*2+1,none⟩=some (.slice s.types[t].fa s.types[t].fields.length s.types[t].fc):=d 1 _ rfl;obtain⟨g,u,_,_⟩:=c s.types[t] (by simp);rw[Jt s t a j];clear d c r l i;unfold ai.val;rw[x];generalize s.types[t]=T at *
  by_cases p:a= -1
  ·rw[zF3 p];subst p
   go_enter func72,ntmps72
   go_wp2
   go_ret
   exact⟨rfl,zR.alloc zL _⟩
  rw[zF2 p]
  by_cases d:0<=a
  ·obtain⟨a,rfl⟩:=zJv d;rw[zF3 d]
   by_cases e:a<T.fields.length
   ·obtain⟨b2,A,k,y,f⟩:=g.elem (n:=2) (λ_=>rfl) (by omega) e;have z:w.cell? ⟨b2,A+a*2+1,none⟩=some (.int .i64 T.fields[a].kind):=f 1 _ rfl;rw[k]at m;clear f g;simp only[Int.toNat_natCast,zAg e]
    go_enter func72,ntmps72
    go_wp2
    go_ret
    exact⟨rfl,zR.alloc zL _⟩
   simp only[Int.toNat_natCast,zG7 (Nat.le_of_not_lt e)]
   go_enter func72,ntmps72
   go_wp2
   go_ret
   exact⟨rfl,zR.alloc zL _⟩
  rw[zF2 d]
  go_enter func72,ntmps72
  go_wp2
  go_ret
  exact⟨rfl,zR.alloc zL _⟩
 rw[Js s t a i];unfold ai.val
 by_cases j:t<0
 ·go_enter func72,ntmps72
  go_wp2
  go_ret
  exact⟨rfl,zR.alloc zL _⟩
 have d:(s.types.length:Int)<=t:=by omega
 clear i
 go_enter func72,ntmps72
 go_wp2
 go_ret
 exact⟨rfl,zR.alloc zL _⟩
end Go.Proofs.YtbjnhllkdilpfaaGreat
