/- Part 2 of the proof. No conditions. -/
import Derived.Test.YtbjnhllkdilpfaaZb01
namespace Go.Proofs.Ytbjnhllkdilpfaa
open Go.RowKit
set_option linter.unusedSimpArgs false
set_option linter.unusedVariables false
set_option maxHeartbeats 16000000
set_option maxRecDepth 100000
def bytes (l:List UInt8):ByteArray:=⟨l.toArray⟩
theorem bJ (l:List UInt8):(bytes l).size=l.length:=by simp[bytes,ByteArray.size]
theorem aJ (l:List UInt8):(bytes l).toList=l:=by simp[bytes,ByteArray.toList_eq]
theorem kW (a b:ByteArray):a++b=bytes (a.toList++b.toList):=by
 apply ByteArray.ext
 simp[bytes,ByteArray.toList_eq]
def rU (d:Nat):UInt8:=UInt8.ofNat (48+d)
theorem nG (u:Nat) (h:u<10):Lib.decDigits u=[rU u]:=by unfold rU;rw[Lib.decDigits,dif_pos h]
theorem tX (u:Nat) (h:¬u<10):Lib.decDigits u=Lib.decDigits (u/10)++[rU (u%10)]:=by unfold rU;rw[Lib.decDigits,dif_neg h]
theorem xZ (w : World) (z : Int) (d : Nat) (hz : z = 48 + (d : Int)) (hd : d < 10) :
  (convert 159 9 (.slice (some ⟨w.heap.size,0,none⟩) 1 1)).run Try.prog (w.alloc (.cells #[.int .u8 z] 5))=.ok (.string (bytes [rU d])) (w.alloc (.cells #[.int .u8 z] 5)):=by
 subst hz;refine run_convert_bytes_back _ 159 9 5 ⟨w.heap.size,0,none⟩ 1 [rU d] Try.underlying159 Try.underlying5 Try.underlying9 ?_;intro j hj;obtain rfl:j=0:=by simpa using hj
 have h:=(Bk.new w 5 #[.int .u8 (48+(d:Int))]).cell 0
 show World.cell? _ ⟨w.heap.size,0,none⟩=_
 rw[h];have e:(rU d).toNat=48+d:=by unfold rU;rw[UInt8.toNat_ofNat'];omega
 show some (Value.int .u8 (48+(d:Int)))=some (Value.int .u8 ((rU d).toNat:Int))
 rw[e];rfl
theorem QJ (n : Nat) (hn : n ≤ 9223372036854775807) (w : World) :
  Calls Try.prog 64 #[.int .i64 n] w fun e w'=>e=.returned (.string (bytes (Lib.decDigits n)))/\Below w.heap.size w w':=by
 have hnI:(n:Int)<=9223372036854775807:=by omega
 have hn0:(0:Int)<=(n:Int):=by omega
 go_enter Try.func64,Try.ntmps64
 go_wp2
 go_loopw[3,4] (fun s m wr=>∃(k:Nat) (l:List UInt8),s=.string (bytes l)/\m=.int .u64 k/\9*l.length+k<=n/\(l=[]\/1<=k)/\Below w.heap.size w wr/\Hid (Lib.decDigits n=Lib.decDigits k++l)) (fun _ m _=>(intOf m).toNat)
 case atStart=>exact⟨n,[],rfl,rfl,by simp,.inl rfl,Below.refl _ _,zH (by simp)⟩
 case round=>
  obtain⟨k,l,rfl,rfl,hkl,hk1,hbel,hrec⟩:=hrel;have hll:l.length+10<=9223372036854775807:=by omega
  clear hk1
  by_cases h9:9<k
  ·have hcv:=xZ wr (48+(k:Int)%10) (k%10) (by omega) (by omega);have hsum:¬9223372036854775807<(bytes [rU (k%10)]).size+(bytes l).size:=by rw[bJ,bJ];simp;omega
   have MM:bytes [rU (k%10)]++bytes l=bytes (rU (k%10)::l):=by rw[kW,aJ,aJ];rfl
   have hnx:Lib.decDigits n=Lib.decDigits (k/10)++rU (k%10)::l:=by rw[hrec.out,tX k (by omega)];simp
   have xI:=zH hnx;clear hrec hnx;go_wp2
   go_roundw
   case rel=>exact⟨k/10,rU (k%10)::l,rfl,by go_num,by simp;omega,.inr (by omega),hbel.alloc hbel.size _,xI⟩
   case measure=>simp[intOf];omega
  ·have hcv:=xZ wr (48+(k:Int)) k (by omega) (by omega);have hsum:¬9223372036854775807<(bytes [rU k]).size+(bytes l).size:=by rw[bJ,bJ];simp;omega
   have MM:bytes [rU k]++bytes l=bytes (rU k::l):=by rw[kW,aJ,aJ];rfl
   have hnx:Lib.decDigits n=rU k::l:=by rw[hrec.out,nG k (by omega)];rfl
   have xI:=zH hnx;clear hrec hnx;go_wp2
   go_ret
   exact⟨by rw[xI.out];rfl,hbel.alloc hbel.size _⟩
theorem QK (n : Int) (h0 : n < 0) (hn : -9223372036854775808 ≤ n) (w : World) :
  Calls Try.prog 64 #[.int .i64 n] w fun e w'=>e=.returned (.string (bytes (45::Lib.decDigits n.natAbs)))/\Below w.heap.size w w':=by
 obtain⟨N,rfl⟩:∃N:Nat,n= -(N:Int):=⟨n.natAbs,by omega⟩
 have hN:N<=9223372036854775808:=by omega
 have hN0:0<N:=by omega
 rw[show(-(N:Int)).natAbs=N from by omega]
 have hw1:IntKind.u64.wrap (-(N:Int))=18446744073709551616-(N:Int):=by
  have e:IntKind.u64.wrap (-(N:Int))=(-(N:Int))%18446744073709551616:=by rfl
  rw[e];omega
 have hw2:IntKind.u64.wrap (-(18446744073709551616-(N:Int)))=(N:Int):=by
  have e:IntKind.u64.wrap (-(18446744073709551616-(N:Int)))=(-(18446744073709551616-(N:Int)))%18446744073709551616:=by rfl
  rw[e];omega
 go_enter Try.func64,Try.ntmps64
 go_wp2
 go_loopw[3,4] (fun s m wr=>∃(k:Nat) (l:List UInt8),s=.string (bytes l)/\m=.int .u64 k/\9*l.length+k<=N/\(l=[]\/1<=k)/\Below w.heap.size w wr/\Hid (Lib.decDigits N=Lib.decDigits k++l)) (fun _ m _=>(intOf m).toNat)
 case atStart=>exact⟨N,[],rfl,rfl,by simp,.inl rfl,Below.refl _ _,zH (by simp)⟩
 case round=>
  obtain⟨k,l,rfl,rfl,hkl,hk1,hbel,hrec⟩:=hrel;have hll:l.length+10<=9223372036854775807:=by omega
  clear hk1
  by_cases h9:9<k
  ·have hcv:=xZ wr (48+(k:Int)%10) (k%10) (by omega) (by omega);have hsum:¬9223372036854775807<(bytes [rU (k%10)]).size+(bytes l).size:=by rw[bJ,bJ];simp;omega
   have MM:bytes [rU (k%10)]++bytes l=bytes (rU (k%10)::l):=by rw[kW,aJ,aJ];rfl
   have hnx:Lib.decDigits N=Lib.decDigits (k/10)++rU (k%10)::l:=by rw[hrec.out,tX k (by omega)];simp
   have xI:=zH hnx;clear hrec hnx;go_wp2
   go_roundw
   case rel=>exact⟨k/10,rU (k%10)::l,rfl,by go_num,by simp;omega,.inr (by omega),hbel.alloc hbel.size _,xI⟩
   case measure=>simp[intOf];omega
  ·have hcv:=xZ wr (48+(k:Int)) k (by omega) (by omega);have hsum:¬9223372036854775807<(bytes [rU k]).size+(bytes l).size:=by rw[bJ,bJ];simp;omega
   have MM:bytes [rU k]++bytes l=bytes (rU k::l):=by rw[kW,aJ,aJ];rfl
   have hnx:Lib.decDigits N=rU k::l:=by rw[hrec.out,nG k (by omega)];rfl
   have xI:=zH hnx;clear hrec hnx;have hcat2:(⟨#[45]⟩:ByteArray)++bytes (rU k::l)=bytes (45::rU k::l):=by rw[kW,aJ,ByteArray.toList_eq (bs:=⟨#[45]⟩)];rfl
   have Yn:¬9223372036854775807<1+(bytes (rU k::l)).size:=by rw[bJ];simp;omega
   go_wp2
   go_ret
   exact⟨by rw[xI.out];rfl,hbel.alloc hbel.size _⟩
theorem yg (n : Int) (h : -9223372036854775808 ≤ n ∧ n ≤ 9223372036854775807) (w : World) :
  Calls Try.prog 64 #[.int .i64 n] w fun e w'=>e=.returned (.string (bytes (Lib.itoa n)))/\Below w.heap.size w w':=by
 unfold Lib.itoa
 by_cases h0:n<0
 ·rw[if_pos h0];exact QK n h0 h.1 w
 ·rw[if_neg h0];obtain⟨N,rfl⟩:∃N:Nat,n=N:=⟨n.toNat,by omega⟩
  exact QJ N (by omega) w
end Go.Proofs.Ytbjnhllkdilpfaa
