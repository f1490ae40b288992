/- Part 7 of the proof. No conditions. -/
import Derived.Test.YtbjnhllkdilpfaaZc01
namespace Go.Proofs.Ytbjnhllkdilpfaa
open Go.RowKit
set_option maxRecDepth 100000
set_option maxHeartbeats 16000000
set_option linter.unusedVariables false
set_option linter.unusedSimpArgs false
def uA:Array Value->Nat->List Value->Array Value
 |cs,_,[]=>cs
 |cs,k,d::r=>uA (cs.setIfInBounds k d) (k+1) r
theorem xB:∀(ds:List Value) (cs:Array Value) (k:Nat),(uA cs k ds).size=cs.size
 |[],_,_=>rfl
 |d::r,cs,k=>by
  have:=xB r (cs.setIfInBounds k d) (k+1)
  simpa[uA]using this
theorem rO:∀(ds:List Value) (cs:Array Value) (k:Nat),k+ds.length<=cs.size->(uA cs k ds).toList=cs.toList.take k++ds++cs.toList.drop (k+ds.length)
 |[],cs,k,_=>by simp[uA]
 |d::r,cs,k,h=>by
  simp only[List.length_cons]at h;have ih:=rO r (cs.setIfInBounds k d) (k+1) (by simp;omega);have hk:k<cs.toList.length:=by simp;omega
  show(uA (cs.setIfInBounds k d) (k+1) r).toList=_
  rw[ih,Array.toList_setIfInBounds,List.drop_set_of_lt (by omega),List.take_succ_eq_append_getElem (by simpa using hk)];simp[List.take_set,List.length_cons];rw[List.set_eq_of_length_le (by simp;omega)];simp[Nat.add_assoc,Nat.add_comm 1]
theorem zT (ds:List Value) (cs:Array Value) (h:cs.size=ds.length):uA cs 0 ds=ds.toArray:=by
 apply Array.toList_inj.1
 rw[rO ds cs 0 (by omega)];have:cs.toList.drop (0+ds.length)=[]:=List.drop_eq_nil_of_le (by simp;omega);simp[this];omega
structure lH (w:World) (g:Nat) (t:TypeId) (cs:Array Value) (w':World):Prop where
 bk:Bk w' g t cs
 size:w'.heap.size=w.heap.size
 other:∀b:Nat,b≠g->w'.heap[b]? =w.heap[b]?
 below:∀(B:Nat) (a0:World),Below B a0 w->B<=g->Below B a0 w'
 grown:w.grownBy w' (some g)
section
variable {w:World} {g o:Nat} {t:TypeId} {cs:Array Value}
theorem PN {i : Nat} {v : Value} {rest : List Value} (hb : Bk w g t cs) (hi : o + i < cs.size) (hv : v.oneCell' = true) :
  (storeCells ⟨g,o,none⟩ (v::rest) i).run Try.prog w=(storeCells ⟨g,o,none⟩ rest (i+1)).run Try.prog (w.setCell ⟨g,o+i,none⟩ v):=by
 have e:((⟨g,o,none⟩:Addr).add i)=⟨g,o+i,none⟩:=by unfold Addr.add;by_cases hj:i=0<;>simp[hj]
 have hc:w.cell? ⟨g,o+i,none⟩=some cs[o+i]:=by rw[hb.cell (o+i)];simp[hi]
 have hf:=hb.frozen (o+i)
 have hs:(store ⟨g,o+i,none⟩ v).run Try.prog w=.ok () (w.setCell ⟨g,o+i,none⟩ v):=by
  cases v<;>first|(simp[store,Sem.run,hc,hf];done)|(simp[Value.oneCell']at hv;done)
 simp[storeCells,e,hs]
theorem Jq : ∀ (ds : List Value) (i : Nat) (cs : Array Value) (w : World), Bk w g t cs → o + i + ds.length ≤ cs.size → ds.all Value.oneCell' = true →
  ∃w',(storeCells ⟨g,o,none⟩ ds i).run Try.prog w=.ok () w'/\lH w g t (uA cs (o+i) ds) w'
 |[],i,cs,w,hb,_,_=>⟨w,rfl,⟨hb,rfl,fun _ _=>rfl,fun _ _ h _=>h,World.grownBy.refl _ _⟩⟩
 |d::r,i,cs,w,hb,hl,h1=>by
  simp only[List.all_cons,Bool.and_eq_true]at h1;simp only[List.length_cons]at hl;obtain⟨w',hr,hp⟩:=Jq r (i+1) (cs.setIfInBounds (o+i) d) (w.setCell ⟨g,o+i,none⟩ d) (hb.put (o+i) d) (by simp;omega) h1.2;refine⟨w',(PN hb (by omega) h1.1).trans hr,⟨hp.bk,by rw[hp.size];simp,fun b hbg=>(hp.other b hbg).trans (Below.heap_setCell w _ d b hbg),fun B a0 hB hg=>hp.below B a0 (hB.setCell hg _) hg,?_⟩⟩;have h0:w.grownBy (w.setCell ⟨g,o+i,none⟩ d) (some g):=⟨rfl,rfl,rfl,by simp,fun k hk hne=>Below.heap_setCell w _ d k (fun e=>hne (by rw[e]))⟩
  exact h0.trans hp.grown
theorem vw {t0 : TypeId} {n : Nat} (hsz : ∀ w, (sizeOf t0).run Try.prog w = .ok n w) (h : Bk w g t cs) (ds : List Value) (hn : ds.length = n) (ho : o + n ≤ cs.size) (h1 : ds.all Value.oneCell' = true) :
  ∃w',(Instr.storeAt t0 (.pointer (some ⟨g,o,none⟩)) (.agg ds.toArray)).run Try.prog w=.ok () w'/\lH w g t (uA cs o ds) w':=by
 obtain⟨w',hr,hp⟩:=Jq (o:=o) ds 0 cs w h (by omega) h1;refine⟨w',?_,hp⟩;rw[<-hr];simp[Instr.storeAt,storeVar,Instr.sureAddr,hsz,Value.cells,hn]
theorem FY {ops : Array Oper} {rest : List Oper} {op : Oper} {a : Act} {Q : Exit → Act → World → Prop} {t0 : TypeId} {n : Nat} (hsz : ∀ w, (sizeOf t0).run Try.prog w = .ok n w)
  (hg:op.guard=none) (x y:Operand) (hop:op.op=Op.store t0 x y) (hx:a.eval x=.pointer (some ⟨g,o,none⟩)) (ds:List Value) (hy:a.eval y=.agg ds.toArray) (h:Bk w g t cs) (hn:ds.length=n) (ho:o+n<=cs.size)
  (h1:ds.all Value.oneCell'=true) (cs':Array Value) (hcs:uA cs o ds=cs')
  (hK:∀w':World,lH w g t cs' w'->wpList Try.prog ops Q rest (a.put op.dst undef) w'):wpList Try.prog ops Q (op::rest) a w:=by
 refine wpList_plain hg fun K' hK'=>?_
 obtain⟨w',hr,hp⟩:=vw hsz h ds hn ho h1;unfold Oper.wp;simp[execOp,hop,hx,hy,hr,Result.andThen];exact hK' _ _ (hK _ (hcs▸hp))
theorem ae {ops : Array Oper} {rest : List Oper} {op : Oper} {a : Act} {Q : Exit → Act → World → Prop} {t0 : TypeId} {n : Nat} (hsz : ∀ w, (sizeOf t0).run Try.prog w = .ok n w)
  (hg:op.guard=none) (x y:Operand) (hop:op.op=Op.store t0 x y) (hx:a.eval x=.pointer (some ⟨g,0,none⟩)) (ds:List Value) (hy:a.eval y=.agg ds.toArray) (h:Bk w g t cs) (hn:ds.length=n) (ho:cs.size=n)
  (h1:ds.all Value.oneCell'=true)
  (hK:∀w':World,lH w g t ds.toArray w'->wpList Try.prog ops Q rest (a.put op.dst undef) w'):wpList Try.prog ops Q (op::rest) a w:=
 FY hsz hg x y hop hx ds hy h hn (by omega) h1 _ (zT ds cs (by omega)) hK
theorem PO:∀(vs:List Value) (i:Nat) (acc:Array Value),(∀(j:Nat) (u:Value),vs[j]? =some u->w.cell? ⟨g,o+(i+j),none⟩=some u)->(loadCellsFrom ⟨g,o,none⟩ i vs.length acc).run Try.prog w=.ok (acc++vs.toArray) w
 |[],i,acc,_=>by simp[loadCellsFrom]
 |v::r,i,acc,h=>by
  have e:((⟨g,o,none⟩:Addr).add i)=⟨g,o+i,none⟩:=by unfold Addr.add;by_cases hj:i=0<;>simp[hj]
  have h0:=h 0 v rfl;rw[Nat.add_zero]at h0;have ih:=PO r (i+1) (acc.push v) fun j u hu=>by have:=h (j+1) u (by simpa using hu);rwa [show i+(j+1)=i+1+j by omega]at this
  have hl:(load ⟨g,o+i,none⟩).run Try.prog w=.ok v w:=by simp[load,Sem.run,h0]
  have hpush:acc.push v++r.toArray=acc++(v::r).toArray:=by simp
  rw[<-hpush]
  show(loadCellsFrom ⟨g,o,none⟩ i (r.length+1) acc).run Try.prog w=_
  unfold loadCellsFrom;rw[e,Sem.run_bind,hl];exact ih
theorem rP {t0 : TypeId} {n : Nat} (hag : ∀ w, (isAgg t0).run Try.prog w = .ok true w) (hsz : ∀ w, (sizeOf t0).run Try.prog w = .ok n w) (vs : List Value) (hn : vs.length = n) (h : ∀ (j : Nat) (u : Value), vs[j]? = some u → w.cell? ⟨g, o + j, none⟩ = some u) :
  (Instr.loadAt t0 (.pointer (some ⟨g,o,none⟩))).run Try.prog w=.ok (.agg vs.toArray) w:=by
 have hl:=PO (w:=w) (g:=g) (o:=o) vs 0 #[] (by simpa using h);rw[hn]at hl;simp[Instr.loadAt,loadVar,Instr.sureAddr,hag,hsz,loadCells,hl]
end
theorem lH.BQ {w w':World} {g k:Nat} {t u:TypeId} {cs ds:Array Value} (h:lH w g t cs w') (hk:Bk w k u ds) (hne:k≠g):Bk w' k u ds:=(h.other k hne).trans hk
def bytes (l:List UInt8):ByteArray:=⟨l.toArray⟩
theorem bD (l:List UInt8):(bytes l).size=l.length:=by simp[bytes,ByteArray.size]
theorem aF (l:List UInt8):(bytes l).toList=l:=by simp[bytes,ByteArray.toList_eq]
theorem lM (a b:ByteArray):a++b=bytes (a.toList++b.toList):=by
 apply ByteArray.ext
 simp[bytes,ByteArray.toList_eq]
def uh (d:Nat):UInt8:=UInt8.ofNat (48+d)
theorem og (u:Nat) (h:u<10):Lib.decDigits u=[uh u]:=by unfold uh;rw[Lib.decDigits,dif_pos h]
theorem vM (u:Nat) (h:¬u<10):Lib.decDigits u=Lib.decDigits (u/10)++[uh (u%10)]:=by unfold uh;rw[Lib.decDigits,dif_neg h]
theorem zx (w : World) (z : Int) (d : Nat) (hz : z = 48 + (d : Int)) (hd : d < 10) :
  (convert 159 9 (.slice (some ⟨w.heap.size,0,none⟩) 1 1)).run Try.prog (w.alloc (.cells #[.int .u8 z] 5))=.ok (.string (bytes [uh d])) (w.alloc (.cells #[.int .u8 z] 5)):=by
 subst hz;refine run_convert_bytes_back _ 159 9 5 ⟨w.heap.size,0,none⟩ 1 [uh d] Try.underlying159 Try.underlying5 Try.underlying9 ?_;intro j hj;obtain rfl:j=0:=by simpa using hj
 have h:=(Bk.new w 5 #[.int .u8 (48+(d:Int))]).cell 0
 show World.cell? _ ⟨w.heap.size,0,none⟩=_
 rw[h];have e:(uh d).toNat=48+d:=by unfold uh;rw[UInt8.toNat_ofNat'];omega
 show some (Value.int .u8 (48+(d:Int)))=some (Value.int .u8 ((uh d).toNat:Int))
 rw[e];rfl
theorem Va (n : Nat) (hn : n ≤ 9223372036854775807) (w : World) :
  Calls Try.prog 64 #[.int .i64 n] w fun e w'=>e=.returned (.string (bytes (Lib.decDigits n)))/\Below w.heap.size w w':=by
 have hnI:(n:Int)<=9223372036854775807:=by omega
 have hn0:(0:Int)<=(n:Int):=by omega
 go_enter Try.func64,Try.ntmps64
 go_wp2
 go_loopw[3,4] (fun s m wr=>∃(k:Nat) (l:List UInt8),s=.string (bytes l)/\m=.int .u64 k/\9*l.length+k<=n/\(l=[]\/1<=k)/\Below w.heap.size w wr/\Hid (Lib.decDigits n=Lib.decDigits k++l)) (fun _ m _=>(intOf m).toNat)
 case atStart=>exact⟨n,[],rfl,rfl,by simp,.inl rfl,Below.refl _ _,zH (by simp)⟩
 case round=>
  obtain⟨k,l,rfl,rfl,hkl,hk1,hbel,hrec⟩:=hrel;have hll:l.length+10<=9223372036854775807:=by omega
  clear hk1
  by_cases h9:9<k
  ·have hcv:=zx wr (48+(k:Int)%10) (k%10) (by omega) (by omega);have hsum:¬9223372036854775807<(bytes [uh (k%10)]).size+(bytes l).size:=by rw[bD,bD];simp;omega
   have Qy:bytes [uh (k%10)]++bytes l=bytes (uh (k%10)::l):=by rw[lM,aF,aF];rfl
   have hnx:Lib.decDigits n=Lib.decDigits (k/10)++uh (k%10)::l:=by rw[hrec.out,vM k (by omega)];simp
   have En:=zH hnx;clear hrec hnx;go_wp2
   go_roundw
   case rel=>exact⟨k/10,uh (k%10)::l,rfl,by go_num,by simp;omega,.inr (by omega),hbel.alloc hbel.size _,En⟩
   case measure=>simp[intOf];omega
  ·have hcv:=zx wr (48+(k:Int)) k (by omega) (by omega);have hsum:¬9223372036854775807<(bytes [uh k]).size+(bytes l).size:=by rw[bD,bD];simp;omega
   have Qy:bytes [uh k]++bytes l=bytes (uh k::l):=by rw[lM,aF,aF];rfl
   have hnx:Lib.decDigits n=uh k::l:=by rw[hrec.out,og k (by omega)];rfl
   have En:=zH hnx;clear hrec hnx;go_wp2
   go_ret
   exact⟨by rw[En.out];rfl,hbel.alloc hbel.size _⟩
theorem Vb (n : Int) (h0 : n < 0) (hn : -9223372036854775808 ≤ n) (w : World) :
  Calls Try.prog 64 #[.int .i64 n] w fun e w'=>e=.returned (.string (bytes (45::Lib.decDigits n.natAbs)))/\Below w.heap.size w w':=by
 obtain⟨N,rfl⟩:∃N:Nat,n= -(N:Int):=⟨n.natAbs,by omega⟩
 have hN:N<=9223372036854775808:=by omega
 have hN0:0<N:=by omega
 rw[show(-(N:Int)).natAbs=N from by omega]
 have hw1:IntKind.u64.wrap (-(N:Int))=18446744073709551616-(N:Int):=by
  have e:IntKind.u64.wrap (-(N:Int))=(-(N:Int))%18446744073709551616:=by rfl
  rw[e];omega
 have hw2:IntKind.u64.wrap (-(18446744073709551616-(N:Int)))=(N:Int):=by
  have e:IntKind.u64.wrap (-(18446744073709551616-(N:Int)))=(-(18446744073709551616-(N:Int)))%18446744073709551616:=by rfl
  rw[e];omega
 go_enter Try.func64,Try.ntmps64
 go_wp2
 go_loopw[3,4] (fun s m wr=>∃(k:Nat) (l:List UInt8),s=.string (bytes l)/\m=.int .u64 k/\9*l.length+k<=N/\(l=[]\/1<=k)/\Below w.heap.size w wr/\Hid (Lib.decDigits N=Lib.decDigits k++l)) (fun _ m _=>(intOf m).toNat)
 case atStart=>exact⟨N,[],rfl,rfl,by simp,.inl rfl,Below.refl _ _,zH (by simp)⟩
 case round=>
  obtain⟨k,l,rfl,rfl,hkl,hk1,hbel,hrec⟩:=hrel;have hll:l.length+10<=9223372036854775807:=by omega
  clear hk1
  by_cases h9:9<k
  ·have hcv:=zx wr (48+(k:Int)%10) (k%10) (by omega) (by omega);have hsum:¬9223372036854775807<(bytes [uh (k%10)]).size+(bytes l).size:=by rw[bD,bD];simp;omega
   have Qy:bytes [uh (k%10)]++bytes l=bytes (uh (k%10)::l):=by rw[lM,aF,aF];rfl
   have hnx:Lib.decDigits N=Lib.decDigits (k/10)++uh (k%10)::l:=by rw[hrec.out,vM k (by omega)];simp
   have En:=zH hnx;clear hrec hnx;go_wp2
   go_roundw
   case rel=>exact⟨k/10,uh (k%10)::l,rfl,by go_num,by simp;omega,.inr (by omega),hbel.alloc hbel.size _,En⟩
   case measure=>simp[intOf];omega
  ·have hcv:=zx wr (48+(k:Int)) k (by omega) (by omega);have hsum:¬9223372036854775807<(bytes [uh k]).size+(bytes l).size:=by rw[bD,bD];simp;omega
   have Qy:bytes [uh k]++bytes l=bytes (uh k::l):=by rw[lM,aF,aF];rfl
   have hnx:Lib.decDigits N=uh k::l:=by rw[hrec.out,og k (by omega)];rfl
   have En:=zH hnx;clear hrec hnx;have hcat2:(⟨#[45]⟩:ByteArray)++bytes (uh k::l)=bytes (45::uh k::l):=by rw[lM,aF,ByteArray.toList_eq (bs:=⟨#[45]⟩)];rfl
   have zAs:¬9223372036854775807<1+(bytes (uh k::l)).size:=by rw[bD];simp;omega
   go_wp2
   go_ret
   exact⟨by rw[En.out];rfl,hbel.alloc hbel.size _⟩
theorem zy (n : Int) (h : -9223372036854775808 ≤ n ∧ n ≤ 9223372036854775807) (w : World) :
  Calls Try.prog 64 #[.int .i64 n] w fun e w'=>e=.returned (.string (bytes (Lib.itoa n)))/\Below w.heap.size w w':=by
 unfold Lib.itoa
 by_cases h0:n<0
 ·rw[if_pos h0];exact Vb n h0 h.1 w
 ·rw[if_neg h0];obtain⟨N,rfl⟩:∃N:Nat,n=N:=⟨n.toNat,by omega⟩
  exact Va N (by omega) w
end Go.Proofs.Ytbjnhllkdilpfaa
