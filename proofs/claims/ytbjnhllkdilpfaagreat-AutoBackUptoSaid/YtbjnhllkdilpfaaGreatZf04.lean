/- Part 4 of the proof. No conditions. -/
import Derived.Test.YtbjnhllkdilpfaaGreatZf01
set_option linter.unusedVariables false
set_option linter.unusedSimpArgs false
set_option maxRecDepth 100000
set_option maxHeartbeats 16000000
namespace Go.Proofs.YtbjnhllkdilpfaaGreat
open Go.RowKit _root_.Go.Proofs.Tryz
def bytes (l:List UInt8):ByteArray:=⟨l.toArray⟩
theorem bZ (l:List UInt8):(bytes l).size=l.length:=by simp[bytes,ByteArray.size]
theorem aI (l:List UInt8):(bytes l).toList=l:=by simp[bytes,zFm]
theorem nH (a b:ByteArray):a++b=bytes (a.toList++b.toList):=by
 apply ByteArray.ext
 simp[bytes,zFm]
def vC (d:Nat):UInt8:=UInt8.ofNat (48+d)
theorem pU (u:Nat) (h:u<10):Lib.decDigits u=[vC u]:=by unfold vC;rw[Lib.decDigits,dif_pos h]
theorem xu (u:Nat) (h:¬u<10):Lib.decDigits u=Lib.decDigits (u/10)++[vC (u%10)]:=by unfold vC;rw[Lib.decDigits,dif_neg h]
theorem Bg (w:World) (z:Int) (d:Nat) (a:z=48+(d:Int)) (c:d<10):
  (convert 171 9 (.slice (some ⟨w.heap.size,0,none⟩) 1 1)).run prog (w.alloc (.cells #[.int .u8 z] 5))=.ok (.string (bytes [vC d])) (w.alloc (.cells #[.int .u8 z] 5)):=by
 subst a;refine run_convert_bytes_back _ 171 9 5 ⟨w.heap.size,0,none⟩ 1 [vC d] underlying171 underlying5 underlying9 ?_;intro j b;obtain rfl:j=0:=by simpa using b
 have h:=(Bk.new w 5 #[.int .u8 (48+(d:Int))]).cell 0
 show World.cell? _ ⟨w.heap.size,0,none⟩=_
 rw[h];have e:(vC d).toNat=48+d:=by unfold vC;rw[zK3];omega
 show some (Value.int .u8 (48+(d:Int)))=some (Value.int .u8 ((vC d).toNat:Int))
 rw[e];rfl
theorem XI (n:Nat) (p:n<=9223372036854775807) (w:World):
  Calls prog 68 #[n] w λe w'=>e=.returned (.string (bytes (Lib.decDigits n)))/\Below w w w':=by
 have o:(n:Int)<=9223372036854775807:=by omega
 have h:(0:Int)<=(n:Int):=by omega
 go_enter func68,ntmps68
 go_wp2
 go_loopw[3,4] (λs m wr=>∃(k:Nat) (l:List UInt8),s=.string (bytes l)/\m=.int .u64 k/\9*l.length+k<=n/\(l=[]\/1<=k)/\Below w w wr/\Hid (Lib.decDigits n=Lib.decDigits k++l)) (λ_ m _=>(intOf m).toNat)
 case atStart=>exact⟨n,[],rfl,rfl,by simp,.inl rfl,zGp _ _,zH (by simp)⟩
 case round=>
  obtain⟨k,l,rfl,rfl,i,c,b,a⟩:=hrel;have j:l.length+10<=9223372036854775807:=by omega
  clear c
  by_cases m:9<k
  ·have e:=Bg wr (48+(k:Int)%10) (k%10) (by omega) (by omega);have d:¬9223372036854775807<(bytes [vC (k%10)]).size+(bytes l).size:=by rw[bZ,bZ];simp;omega
   have g:bytes [vC (k%10)]++bytes l=bytes (vC (k%10)::l):=by rw[nH,aI,aI];rfl
   have c:Lib.decDigits n=Lib.decDigits (k/10)++vC (k%10)::l:=by rw[a.out,xu k (by omega)];simp
   have f:=zH c;clear a c;go_wp2
   go_roundw
   case rel=>exact⟨k/10,vC (k%10)::l,rfl,by go_num,by simp;omega,.inr (by omega),b.alloc b.size _,f⟩
   case measure=>simp[intOf];omega
  have e:=Bg wr (48+(k:Int)) k (by omega) (by omega);have d:¬9223372036854775807<(bytes [vC k]).size+(bytes l).size:=by rw[bZ,bZ];simp;omega
  have g:bytes [vC k]++bytes l=bytes (vC k::l):=by rw[nH,aI,aI];rfl
  have c:Lib.decDigits n=vC k::l:=by rw[a.out,pU k (by omega)];rfl
  have f:=zH c;clear a c;go_wp2
  go_ret
  exact⟨by rw[f.out];rfl,b.alloc b.size _⟩
theorem XJ (n:Int) (t:n<0) (v: -9223372036854775808<=n) (w:World):
  Calls prog 68 #[n] w λe w'=>e=.returned (.string (bytes (45::Lib.decDigits n.natAbs)))/\Below w w w':=by
 obtain⟨N,rfl⟩:∃N:Nat,n= -(N:Int):=⟨n.natAbs,by omega⟩
 have r:N<=9223372036854775808:=by omega
 have o:0<N:=by omega
 rw[show(-(N:Int)).natAbs=N from by omega]
 have q:IntKind.u64.wrap (-(N:Int))=18446744073709551616-(N:Int):=by
  have e:IntKind.u64.wrap (-(N:Int))=(-(N:Int))%18446744073709551616:=by rfl
  rw[e];omega
 have i:IntKind.u64.wrap (-(18446744073709551616-(N:Int)))=(N:Int):=by
  have e:IntKind.u64.wrap (-(18446744073709551616-(N:Int)))=(-(18446744073709551616-(N:Int)))%18446744073709551616:=by rfl
  rw[e];omega
 go_enter func68,ntmps68
 go_wp2
 go_loopw[3,4] (λs m wr=>∃(k:Nat) (l:List UInt8),s=.string (bytes l)/\m=.int .u64 k/\9*l.length+k<=N/\(l=[]\/1<=k)/\Below w w wr/\Hid (Lib.decDigits N=Lib.decDigits k++l)) (λ_ m _=>(intOf m).toNat)
 case atStart=>exact⟨N,[],rfl,rfl,by simp,.inl rfl,zGp _ _,zH (by simp)⟩
 case round=>
  obtain⟨k,l,rfl,rfl,p,c,a,b⟩:=hrel;have m:l.length+10<=9223372036854775807:=by omega
  clear c
  by_cases u:9<k
  ·have e:=Bg wr (48+(k:Int)%10) (k%10) (by omega) (by omega);have d:¬9223372036854775807<(bytes [vC (k%10)]).size+(bytes l).size:=by rw[bZ,bZ];simp;omega
   have h:bytes [vC (k%10)]++bytes l=bytes (vC (k%10)::l):=by rw[nH,aI,aI];rfl
   have c:Lib.decDigits N=Lib.decDigits (k/10)++vC (k%10)::l:=by rw[b.out,xu k (by omega)];simp
   have f:=zH c;clear b c;go_wp2
   go_roundw
   case rel=>exact⟨k/10,vC (k%10)::l,rfl,by go_num,by simp;omega,.inr (by omega),a.alloc a.size _,f⟩
   case measure=>simp[intOf];omega
  have e:=Bg wr (48+(k:Int)) k (by omega) (by omega);have d:¬9223372036854775807<(bytes [vC k]).size+(bytes l).size:=by rw[bZ,bZ];simp;omega
  have h:bytes [vC k]++bytes l=bytes (vC k::l):=by rw[nH,aI,aI];rfl
  have c:Lib.decDigits N=vC k::l:=by rw[b.out,pU k (by omega)];rfl
  have f:=zH c;clear b c;have g:(⟨#[45]⟩:ByteArray)++bytes (vC k::l)=bytes (45::vC k::l):=by rw[nH,aI,zFm (bs:=⟨#[45]⟩)];rfl
  have j:¬9223372036854775807<1+(bytes (vC k::l)).size:=by rw[bZ];simp;omega
  go_wp2
  go_ret
  exact⟨by rw[f.out];rfl,a.alloc a.size _⟩
theorem Bh (n:Int) (h: -9223372036854775808<=n/\n<=9223372036854775807) (w:World):
  Calls prog 68 #[n] w λe w'=>e=.returned (.string (bytes (Lib.itoa n)))/\Below w w w':=by
 unfold Lib.itoa
 by_cases a:n<0
 ·rw[zF3 a];exact XJ n a h.1 w
 rw[zF2 a];obtain⟨N,rfl⟩:∃N:Nat,n=N:=⟨n.toNat,by omega⟩
 exact XI N (by omega) w
def qL (a:Nat):Bool:=decide (9218868437227405312<a%9223372036854775808)
def bg (a:Nat):Nat:=if qL a=true then 9221120237041090560 else a
theorem uC (a:Nat) (h:a<18446744073709551616):bg a<18446744073709551616:=by unfold bg;split<;>omega
theorem Fb (a:Nat) (h:qL a=true):bg a=9221120237041090560:=zF3 h
theorem Fe (a:Nat) (h:qL a=false):bg a=a:=zF2 (by rw[h];simp)
theorem CQ (a:Nat) (h:a<18446744073709551616):bits .and .u64 (a:Int) 2047=((a%2048:Nat):Int):=by
 have:=u64_and_nat a 2047 h (by omega);rw[show((2047:Nat):Int)=2047 from rfl]at this;rw[this,nat_mask11]
theorem UF (a:Nat) (h:a<18446744073709551616):bits .and .u64 (a:Int) 4503599627370495=((a%4503599627370496:Nat):Int):=by
 have:=u64_and_nat a 4503599627370495 h (by omega);rw[show((4503599627370495:Nat):Int)=4503599627370495 from rfl]at this;rw[this,show 4503599627370495=2^52-1 from by decide,zKn]
theorem Ya (a:Nat):qL a=(decide (a/4503599627370496%2048=2047)&&decide (a%4503599627370496≠0)):=by
 unfold qL;rw[zHe];simp only[zF9,zFn];omega
theorem kF (a:Nat) (h:a<18446744073709551616) (w:World):
  Calls prog 122 #[.int .u64 a] w λe w'=>e=.returned (.bool (qL a))/\w=w':=by
 have d:bits .and .u64 ((a:Int)/4503599627370496) 2047=((a/4503599627370496%2048:Nat):Int):=by
  rw[<-CQ _ (by omega)];rfl
 have f:=UF a h;have e:=Ya a
 by_cases c:a/4503599627370496%2048=2047
 ·by_cases g:a%4503599627370496=0
  ·have b:qL a=false:=by rw[e];simp[g]
   have i:(bits .and .u64 ((a:Int)/4503599627370496) 2047==2047)=true:=by rw[d,c];rfl
   have j:(bits .and .u64 (a:Int) 4503599627370495 !=0)=false:=by rw[f,g];rfl
   rw[b];clear d f e c g b
   go_enter func122,ntmps122
   go_wp2
   all_goals go_ret
   all_goals exact⟨rfl,rfl⟩
  have b:qL a=true:=by rw[e];simp[c,g]
  have i:(bits .and .u64 ((a:Int)/4503599627370496) 2047==2047)=true:=by rw[d,c];rfl
  have j:(bits .and .u64 (a:Int) 4503599627370495 !=0)=true:=by rw[f,zG1];omega
  rw[b];clear d f e c g b
  go_enter func122,ntmps122
  go_wp2
  all_goals go_ret
  all_goals exact⟨rfl,rfl⟩
 have b:qL a=false:=by rw[e];simp[c]
 have i:(bits .and .u64 ((a:Int)/4503599627370496) 2047==2047)=false:=by rw[d,zFz];omega
 rw[b];clear d f e c b
 go_enter func122,ntmps122
 go_wp2
 all_goals go_ret
 all_goals exact⟨rfl,rfl⟩
theorem jb (a:Nat) (h:a<18446744073709551616) (w:World):
  Calls prog 116 #[.int .u64 a] w λe w'=>e=.returned (.int .u64 (bg a:Nat))/\w=w':=by
 cases hn:qL a
 ·rw[Fe a hn]
  go_enter func116,ntmps116
  go_wp2_with (go_at_call 122;refine(kF a h _).mono ?_;rintro e w' ⟨rfl,rfl⟩)
  go_ret
  exact⟨rfl,rfl⟩
 rw[Fb a hn]
 go_enter func116,ntmps116
 go_wp2_with (go_at_call 122;refine(kF a h _).mono ?_;rintro e w' ⟨rfl,rfl⟩)
 go_ret
 exact⟨rfl,rfl⟩
structure V where
 k:Int
 b:Nat
def V.v (x:V):Value:=.agg #[x.k,.int .u64 x.b]
def V.cells (x:V):List Value:=[.int .i64 x.k,.int .u64 x.b]
def oneK (op k:Int):Int:=
 if op=6/\(k=1\/k=4)then k else if(op=15/\k=2)\/(op=17/\k=4)then 2 else if op=16/\k=1 then 4 else 0
def twoK (op k:Int):Int:=
 if(1<=op/\op<=4/\(k=1\/k=4))\/(op=5/\k=1)then k
 else if((op=7\/op=8)/\1<=k/\k<=4)\/(9<=op/\op<=12/\(k=1\/k=4))\/((op=13\/op=14)/\k=2)then 2 else 0
def GI (op:Int):List Int->Int
 |[k]=>oneK op k
 |[a,b]=>if a=b then twoK op a else 0
 |_=>0
def dw (l:List Int):List Value:=l.map λk=>.int .i64 k
theorem zX (op:Int) (l:List Int) (A:Option Addr) (c:Nat) (w:World) (i:l.length<=140737488351232) (h:Rd w w.heap.size A (dw l)):
  Calls prog 94 #[op,.slice A l.length c] w λe w'=>e=.returned (.int .i64 (GI op l))/\Below w w w':=by
 match l,h with
 |[],h=>
  go_enter func94,ntmps94
  go_wp2
  go_region
  go_wp2
  go_ret
  exact⟨rfl,zKf zR⟩
 |[k],h=>
  obtain⟨b,o,rfl,_,a⟩:=h.at_ (j:=0) (by simp[dw]);have f:w.cell? ⟨b,o,none⟩=some (.int .i64 k):=a 0 _ rfl;clear h a
  go_enter func94,ntmps94
  go_wp2
  all_goals go_ret
  all_goals(refine⟨?_,zGp _ _⟩;apply gJ;(try simp only[GI,zFn,zG8,zFt,zF9,Bool.not_eq_true,Bool.and_eq_false_iff,zKt,zFz,decide_eq_false_iff_not]at *);unfold oneK;repeat' split)
  all_goals(try omega)
 |[k,d],h=>
  obtain⟨b,o,rfl,_,a⟩:=h.at_ (j:=0) (by simp[dw]);have f:w.cell? ⟨b,o,none⟩=some (.int .i64 k):=a 0 _ rfl;have g:w.cell? ⟨b,o+1,none⟩=some (.int .i64 d):=a 1 _ rfl;clear h a
  by_cases e:k=d
  ·subst e
   go_enter func94,ntmps94
   go_wp2
   go_region
   go_wp2
   all_goals go_ret
   all_goals(refine⟨?_,zKf zR⟩;apply gJ;(try simp only[GI,zFn,zG8,zFt,zF9,Bool.not_eq_true,Bool.and_eq_false_iff,zKt,zFz,decide_eq_false_iff_not,if_true]at *);unfold twoK;repeat' split)
   all_goals(try omega)
  go_enter func94,ntmps94
  go_wp2
  go_region
  go_wp2
  go_ret
  exact⟨by simp[GI,e],zKf zR⟩
 |k::d::a::r,h=>
  clear h;have g:((k::d::a::r).length:Int)≠1:=by simp;omega
  have e:(((k::d::a::r).length:Int) !=2)=true:=by rw[zG1];simp;omega
  generalize f:(k::d::a::r).length=n at *
  go_enter func94,ntmps94
  go_wp2
  go_region
  go_wp2
  go_ret
  exact⟨rfl,zKf zR⟩
theorem bitsOf (b:Nat) (w:World):(callFunc 117 #[.float .f64 b]).run prog w=.ok (.value (.int .u64 b)) w:=by kernel_rfl
theorem ofBits (b:Nat) (w:World):(callFunc 125 #[.int .u64 b]).run prog w=.ok (.value (.float .f64 b)) w:=by kernel_rfl
def Iw (op:BinOp) (x y:Nat):Nat:=match floatBits op .f64 x y with|some r=>bg r|none=>9221120237041090560
theorem CS (op:BinOp) (x y:Nat):Iw op x y<18446744073709551616:=by
 unfold Iw;cases h:floatBits op .f64 x y with
 |none=>exact(by decide:(9221120237041090560:Nat)<18446744073709551616)
 |some r=>have:=floatBits_wf h;simp[Lit.wf]at this;exact uC _ this
theorem UI (t:Nat):qL ((t%2)*2^63+0x7ff0000000000000+1+(t/2)%(2^52-1))=true/\(t%2)*2^63+0x7ff0000000000000+1+(t/2)%(2^52-1)<18446744073709551616:=by
 have b:t/2%(2^52-1)<2^52-1:=Nat.mod_lt _ (by decide);have a:t%2<2:=Nat.mod_lt _ (by decide);generalize t/2%(2^52-1)=c at *;generalize t%2=d at *;unfold qL;have:d=0\/d=1:=by omega
 rcases this with rfl|rfl
 ·constructor
  ·exact zGm (by omega)
  omega
 constructor
 ·exact zGm (by omega)
 omega
theorem lN (op:BinOp) (b:op=.add\/op=.sub\/op=.mul\/op=.quo) (t:TypeId) (x y:Nat) (w:World):
  ∃r w',(binOp op t (.float .f64 x) (.float .f64 y)).run prog w=.ok (.float .f64 r) w'/\Below w w w'/\bg r=Iw op x y/\r<18446744073709551616:=by
 cases h:floatBits op .f64 x y with
 |some r=>
  refine⟨r,w,run_float_arith w op t .f64 x y r h,zGp _ _,?_,?_⟩
  ·unfold Iw;rw[h]
  have:=floatBits_wf h;simpa[Lit.wf]using this
 |none=>
  have a:=UI (w.tape w.drawn (.nanBits .f64 x y));refine⟨_,w.drew,?_,zKf zR,?_,a.2⟩
  ·unfold floatBits at h;rcases b with rfl|rfl|rfl|rfl<;>simp only at h<;>simp[binOp,Op.floatArith,h,Question.forced,Question.cut]
  unfold Iw;rw[h];exact Fb _ a.1
def ofInt (n:Int):Nat:=bg (floatOfInt .f64 n)
end Go.Proofs.YtbjnhllkdilpfaaGreat
