/- Part 51 of the proof. No conditions. -/
import Derived.Test.YtbjnhllkdilpfaaZb45
import Derived.Test.YtbjnhllkdilpfaaZb50
namespace Go.Proofs.Ytbjnhllkdilpfaa
open Go.ChangeShapes Go.WideShapes Go.ChangeAt Go.RowKit
set_option linter.unusedSimpArgs false
set_option linter.unusedVariables false
set_option maxHeartbeats 16000000
set_option maxRecDepth 100000
theorem sEnd:∃fs:Array Field,Try.prog.underlying 55=some (.struct fs)/\fs.toList.map (fun f=>(f.type,f.offset))=[(3,0),(29,1),(41,2)]:=⟨_,Try.underlying55,by kernel_rfl⟩
theorem XK:∃fs:Array Field,Try.prog.underlying 44=some (.struct fs)/\fs.toList.map (fun f=>(f.type,f.offset))=[(3,0),(3,1),(4,2),(2,3),(41,4),(29,5),(29,6),(42,7)]:=⟨_,Try.underlying44,by kernel_rfl⟩
theorem UY:∃fs:Array Field,Try.prog.underlying 34=some (.struct fs)/\fs.toList.map (fun f=>(f.type,f.offset))=[(3,0),(22,1),(32,2)]:=⟨_,Try.underlying34,by kernel_rfl⟩
theorem Jc:Try.prog.cellsOf 3=1:=by kernel_rfl
theorem XL:Try.prog.cellsOf 2=1:=by kernel_rfl
theorem TB:Try.prog.cellsOf 4=1:=by kernel_rfl
theorem TC:Try.prog.cellsOf 22=1:=by kernel_rfl
theorem GM:Try.prog.cellsOf 29=1:=by kernel_rfl
theorem JU:Try.prog.cellsOf 41=1:=by kernel_rfl
theorem TD:Try.prog.cellsOf 42=1:=by kernel_rfl
theorem LU:Try.prog.cellsOf 32=1:=by kernel_rfl
theorem Qh:Try.prog.cellsOf 55=3:=by kernel_rfl
theorem GN:Try.prog.cellsOf 44=8:=by kernel_rfl
theorem TE:Try.prog.cellsOf 34=3:=by kernel_rfl
theorem UZ {cs:List Value} (h:cs.length=3):∃c0 c1 c2,cs=[c0,c1,c2]:=by
 match cs,h with
 |[a,b,c],_=>exact⟨a,b,c,rfl⟩
theorem len8' {cs:List Value} (h:cs.length=8):∃c0 c1 c2 c3 c4 c5 c6 c7,cs=[c0,c1,c2,c3,c4,c5,c6,c7]:=by
 match cs,h with
 |[a,b,c,d,e,f,g,h],_=>exact⟨a,b,c,d,e,f,g,h,rfl⟩
section
variable {H:Type} {enc:TypeId×Value->H} {w:World}
theorem rG {t e:TypeId} (ht:Try.prog.underlying t=some (.slice e)) (N:Nat):fG enc Try.prog w N t (fun cs=>∃x:JO,cs=[x.val]):=by
 intro fuel hf cs y hy hw hb;rcases DataW.trod_slice ht hy with⟨hcs,_⟩|⟨a,len,cap,elems,r,m,hm,hcs,_⟩
 ·exact⟨⟨none,0,0⟩,hcs⟩
 ·exact⟨⟨some a,len,cap⟩,hcs⟩
theorem Ec (N:Nat):fG enc Try.prog w N 3 (fun cs=>∃n,cs=[.int .i64 n]):=(CZ Try.underlying3).b.imp fun cs ⟨n,h,_⟩=>⟨n,h⟩
theorem XM (N:Nat):fG enc Try.prog w N 2 (fun cs=>∃n,cs=[.int .i64 n]):=(CZ Try.underlying2).b.imp fun cs ⟨n,h,_⟩=>⟨n,h⟩
theorem TF (N:Nat):fG enc Try.prog w N 4 (fun cs=>∃n,cs=[.bool n]):=(Jb Try.underlying4).b
def zAt:Nat->List Value->Prop
 |0,cs=>∃n,cs=[.int .i64 n]
 |_,cs=>∃x:JO,cs=[x.val]
theorem XN (N:Nat):fG enc Try.prog w N 55 (fun cs=>∃x:Gv,cs=x.cells/\True):=by
 obtain⟨fs,hu,hfs⟩:=sEnd;cases N with
 |zero=>exact kH
 |succ N=>
  refine(ny (F:=zAt) hu hfs ?_).imp ?_
  ·intro i p hi
   match i,hi with
   |0,hi=>simp at hi;subst hi;exact Ec N
   |1,hi=>simp at hi;subst hi;exact rG Try.underlying29 N
   |2,hi=>simp at hi;subst hi;exact rG Try.underlying41 N
   |i+3,hi=>simp at hi
  ·rintro cs ⟨hl,hf⟩;rw[Qh]at hl;obtain⟨k0,h0⟩:=hf 0 _ rfl;obtain⟨x1,h1⟩:=hf 1 _ rfl;obtain⟨x2,h2⟩:=hf 2 _ rfl;obtain⟨c0,c1,c2,rfl⟩:=UZ hl;simp[Jc,GM,JU]at h0 h1 h2;subst h0;subst h1;subst h2;exact⟨⟨k0,x1,x2⟩,rfl,trivial⟩
theorem TG (N:Nat):fG enc Try.prog w N 42 (fun cs=>∃(A:Option Addr) (c:Nat) (l:List Gv),cs=[.slice A l.length c]/\l.length<=c/\l.length<=1048576/\Rd w w.heap.size A (l.flatMap Gv.cells)/\∀x∈l,True):=by
 cases N with
 |zero=>exact kH
 |succ N=>exact vg Try.underlying42 Qh (by omega) (fun _=>rfl) (XN N)
def zAu (w:World):Nat->List Value->Prop
 |0,cs=>∃n,cs=[.int .i64 n]
 |1,cs=>∃n,cs=[.int .i64 n]
 |2,cs=>∃n,cs=[.bool n]
 |3,cs=>∃n,cs=[.int .i64 n]
 |7,cs=>∃(A:Option Addr) (c:Nat) (l:List Gv),cs=[.slice A l.length c]/\l.length<=c/\l.length<=1048576/\Rd w w.heap.size A (l.flatMap Gv.cells)/\∀x∈l,True
 |_,cs=>∃x:JO,cs=[x.val]
theorem Qi (N:Nat):fG enc Try.prog w N 44 (fun cs=>∃x:kG,cs=x.cells/\(x.es.length<=1048576/\Rd w w.heap.size x.eA (x.es.flatMap Gv.cells))):=by
 obtain⟨fs,hu,hfs⟩:=XK;cases N with
 |zero=>exact kH
 |succ N=>
  refine(ny (F:=zAu w) hu hfs ?_).imp ?_
  ·intro i p hi
   match i,hi with
   |0,hi=>simp at hi;subst hi;exact Ec N
   |1,hi=>simp at hi;subst hi;exact Ec N
   |2,hi=>simp at hi;subst hi;exact TF N
   |3,hi=>simp at hi;subst hi;exact XM N
   |4,hi=>simp at hi;subst hi;exact rG Try.underlying41 N
   |5,hi=>simp at hi;subst hi;exact rG Try.underlying29 N
   |6,hi=>simp at hi;subst hi;exact rG Try.underlying29 N
   |7,hi=>simp at hi;subst hi;exact TG N
   |i+8,hi=>simp at hi
  ·rintro cs ⟨hl,hf⟩;rw[GN]at hl;obtain⟨k0,h0⟩:=hf 0 _ rfl;obtain⟨k1,h1⟩:=hf 1 _ rfl;obtain⟨k2,h2⟩:=hf 2 _ rfl;obtain⟨k3,h3⟩:=hf 3 _ rfl;obtain⟨x4,h4⟩:=hf 4 _ rfl;obtain⟨x5,h5⟩:=hf 5 _ rfl;obtain⟨x6,h6⟩:=hf 6 _ rfl;obtain⟨eA,ec,es,h7,_,hle,hrd,_⟩:=hf 7 _ rfl;obtain⟨c0,c1,c2,c3,c4,c5,c6,c7,rfl⟩:=len8' hl;simp[Jc,XL,TB,GM,JU,TD]at h0 h1 h2 h3 h4 h5 h6 h7;subst h0;subst h1;subst h2;subst h3;subst h4;subst h5;subst h6;subst h7;exact⟨⟨k0,k1,k2,k3,x4,x5,x6,eA,ec,es⟩,rfl,hle,hrd⟩
theorem LV (N:Nat):fG enc Try.prog w N 32 (fun cs=>∃(A:Option Addr) (c:Nat) (l:List kG),cs=[.slice A l.length c]/\l.length<=c/\l.length<=1048576/\Rd w w.heap.size A (l.flatMap kG.cells)/\∀x∈l,x.es.length<=1048576/\Rd w w.heap.size x.eA (x.es.flatMap Gv.cells)):=by
 cases N with
 |zero=>exact kH
 |succ N=>exact vg Try.underlying32 GN (by omega) rE (Qi N)
def zAv (w:World):Nat->List Value->Prop
 |0,cs=>∃n,cs=[.int .i64 n]
 |1,cs=>∃x:JO,cs=[x.val]
 |_,cs=>∃(A:Option Addr) (c:Nat) (l:List kG),cs=[.slice A l.length c]/\l.length<=c/\l.length<=1048576/\Rd w w.heap.size A (l.flatMap kG.cells)/\∀x∈l,x.es.length<=1048576/\Rd w w.heap.size x.eA (x.es.flatMap Gv.cells)
theorem TI (N:Nat):fG enc Try.prog w N 34 (fun cs=>∃(bg:Int) (k:JO) (A:Option Addr) (c:Nat) (l:List kG),cs=[.int .i64 bg,k.val,.slice A l.length c]/\PZ A l w):=by
 obtain⟨fs,hu,hfs⟩:=UY;cases N with
 |zero=>exact kH
 |succ N=>
  refine(ny (F:=zAv w) hu hfs ?_).imp ?_
  ·intro i p hi
   match i,hi with
   |0,hi=>simp at hi;subst hi;exact Ec N
   |1,hi=>simp at hi;subst hi;exact rG Try.underlying22 N
   |2,hi=>simp at hi;subst hi;exact LV N
   |i+3,hi=>simp at hi
  ·rintro cs ⟨hl,hf⟩;rw[TE]at hl;obtain⟨k0,h0⟩:=hf 0 _ rfl;obtain⟨x1,h1⟩:=hf 1 _ rfl;obtain⟨A,c,l,h2,_,hle,hrd,he⟩:=hf 2 _ rfl;obtain⟨c0,c1,c2,rfl⟩:=UZ hl;simp[Jc,TC,LU]at h0 h1 h2;subst h0;subst h1;subst h2;exact⟨k0,x1,A,c,l,rfl,hrd,fun s hs=>(he s hs).2,by omega,fun s hs=>by have:=(he s hs).1;omega⟩
section
variable {r:Reach} {b0:Nat} {v:Value} {d:DataW H} {p:List MemPlace}
theorem XO (hv : Value.okWide Try.prog w r b0 34 v) (h : DataW.Trod enc Try.prog w 0 (fun _ => true) true 34 v d p) (hw : (d.weights Try.prog 34).all (· ≤ reachBytes) = true) (hb : Rows.uptoBulk d ≤ 1048576) :
  ∃(bg:Int) (k:JO) (A:Option Addr) (c:Nat) (l:List kG),v=.agg #[.int .i64 bg,k.val,.slice A l.length c]/\PZ A l w:=by
 obtain⟨fs,hu,_⟩:=UY;obtain⟨cs,rfl,_⟩:=okWide_struct hu hv;obtain⟨bg,k,A,c,l,hx,hq⟩:=fG.arg TI h hw hb;refine⟨bg,k,A,c,l,?_,hq⟩;obtain⟨L⟩:=cs;simp[Value.cells]at hx;subst hx;rfl
end
end
end Go.Proofs.Ytbjnhllkdilpfaa
