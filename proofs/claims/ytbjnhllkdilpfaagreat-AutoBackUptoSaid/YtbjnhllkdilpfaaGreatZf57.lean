/- Part 57 of the proof. No conditions. -/
import Derived.Test.YtbjnhllkdilpfaaGreatZf37
import Derived.Test.YtbjnhllkdilpfaaGreatZf02
set_option linter.unusedVariables false
set_option linter.unusedSimpArgs false
set_option maxRecDepth 100000
set_option maxHeartbeats 16000000
namespace Go.Proofs.YtbjnhllkdilpfaaGreat
open Go.ChangeShapes Go.WideShapes Go.ChangeAt Go.RowKit _root_.Go.Proofs.Tryz
theorem LH:∃a:Array Field,prog.underlying 112=some (.struct a)/\a.toList.map (λf=>(f.type,f.offset))=[(9,0),(3,1)]:=⟨_,underlying112,by kernel_rfl⟩
theorem OH:∃a:Array Field,prog.underlying 115=some (.struct a)/\a.toList.map (λf=>(f.type,f.offset))=[(9,0),(113,1)]:=⟨_,underlying115,by kernel_rfl⟩
theorem yF:∃a:Array Field,prog.underlying 25=some (.struct a)/\a.toList.map (λf=>(f.type,f.offset))=[(22,0),(23,1)]:=⟨_,underlying25,by kernel_rfl⟩
theorem cStr:prog.cellsOf 9=1:=by kernel_rfl
theorem cInt:prog.cellsOf 3=1:=by kernel_rfl
theorem Zg:prog.cellsOf 113=1:=by kernel_rfl
theorem zD3:prog.cellsOf 22=1:=by kernel_rfl
theorem zFa:prog.cellsOf 23=1:=by kernel_rfl
theorem WW:prog.cellsOf 112=2:=by kernel_rfl
theorem zAn:prog.cellsOf 115=2:=by kernel_rfl
theorem Zh:prog.cellsOf 25=2:=by kernel_rfl
theorem bStr:prog.bytesOf 9=16:=by kernel_rfl
theorem zD4:prog.bytesOf 112=24:=by kernel_rfl
section
variable {H:Type} {enc:TypeId×Value->H} {w:World}
theorem LJ (N:Nat):lC enc prog w (N+1) 112 (λcs=>∃f:mQ,cs=f.cells/\f.name.size<=140737488351232):=by
 obtain⟨d,c,a⟩:=LH;refine(vP (R0:=λv=>∃s:ByteArray,v=.string s/\s.size<=140737488351232) (R1:=λv=>∃n,v=.int .i64 n) c a WW cStr cInt ?_ ?_).imp ?_
 ·exact(rO underlying9).imp λcs ⟨s,h,b⟩=>⟨_,h,s,rfl,b⟩
 ·exact(SN underlying3).imp λcs ⟨n,h,_⟩=>⟨_,h,n,rfl⟩
 rintro cs ⟨u,v,rfl,⟨s,rfl,b⟩,n,rfl⟩;exact⟨⟨s,n⟩,rfl,b⟩
theorem OI (N:Nat):lC enc prog w (N+3) 115 (λcs=>∃t:rV,cs=t.cells/\t.ok w w.heap.size):=by
 obtain⟨j,i,a⟩:=OH;refine(vP (R0:=λv=>∃s:ByteArray,v=.string s/\s.size<=140737488351232) (R1:=λv=>∃(A:Option Addr) (c:Nat) (l:List mQ),v=.slice A l.length c/\l.length<=5864062014634/\Rd w w.heap.size A (l.flatMap mQ.cells)/\∀f∈l,f.name.size<=140737488351232) i a zAn cStr Zg ?_ ?_).imp ?_
 ·exact(rO underlying9).imp λcs ⟨s,h,b⟩=>⟨_,h,s,rfl,b⟩
 ·exact(AA underlying113 WW (by omega) zD4 (λ_=>rfl) (LJ N)).imp λcs ⟨A,c,l,h,g,k,e,d⟩=>⟨_,h,A,c,l,rfl,by omega,e,d⟩
 rintro cs ⟨u,v,rfl,⟨s,rfl,b⟩,A,c,l,rfl,g,e,d⟩;exact⟨⟨s,A,c,l⟩,rfl,e,g,b,d⟩
theorem OJ (N:Nat):lC enc prog w (N+1) 23 (λcs=>∃(A:Option Addr) (c:Nat) (l:List ByteArray),cs=[.slice A l.length c]/\l.length<=8796093021952/\Rd w w.heap.size A (l.map .string)/\∀x∈l,x.size<=140737488351232):=
 (AA (f:=λs:ByteArray=>[Value.string s]) (Q:=λs=>s.size<=140737488351232) underlying23 cStr (by omega) bStr (λ_=>rfl) ((rO underlying9).imp λcs ⟨s,h,a⟩=>⟨s,h,a⟩)).imp
  λcs ⟨A,c,l,h,e,d,b,a⟩=>⟨A,c,l,h,by omega,by rw[<-LD];exact b,a⟩
end
theorem zD5 {cs:List Value} (h:cs.length=2):∃a b,cs=[a,b]:=by
 match cs,h with
 |[a,b],_=>exact⟨a,b,rfl⟩
section
variable {H:Type} {enc:TypeId×Value->H} {w:World}
theorem SQ (N:Nat):lW enc prog w N 25 (λcs=>∃s:ai,.agg cs.toArray=s.val/\s.ok w w.heap.size/\s.types.length<=1048576):=by
 obtain⟨z,u,f⟩:=yF;cases N with
 |zero=>exact LK
 |succ N=>
  refine(Ez (F:=λi cs=>match i with
   |0=>∃(A:Option Addr) (c:Nat) (l:List rV),cs=[.slice A l.length c]/\l.length<=c/\l.length<=1048576/\Rd w w.heap.size A (l.flatMap rV.cells)/\∀t∈l,t.ok w w.heap.size
   |_=>∃(A:Option Addr) (c:Nat) (l:List ByteArray),cs=[.slice A l.length c]/\l.length<=8796093021952/\Rd w w.heap.size A (l.map .string)/\∀x∈l,x.size<=140737488351232) u f ?_).imp ?_
  ·intro i p d
   match i,d with
   |0,d=>
    simp at d;subst d;exact λa e=>Io underlying22 zAn (by omega) (λ_=>rfl) (OI N).b a (by omega)
   |1,d=>
    simp at d;subst d;exact λa e=>(OJ N).b a (by omega)
   |i+2,d=>simp at d
  rintro cs ⟨h,e⟩;rw[Zh]at h;obtain⟨A,c,l,g,_,k,v,n⟩:=e 0 _ rfl;obtain⟨y,j,q,a,r,o,m⟩:=e 1 _ rfl;obtain⟨B,e,rfl⟩:=zD5 h;simp[zD3,zFa]at g a;subst g a;exact⟨⟨A,c,l,y,j,q⟩,rfl,⟨v,by show l.length<=_;omega,n,o,r,m⟩,k⟩
variable {r:Reach} {b0:Nat} {v:Value} {d:DataW H} {p:List MemPlace}
theorem Zi (f:Value.okWide prog w r b0 25 v) (h:DataW.Trod enc prog w 0 (λ_=>true) true 25 v d p) (e:(d.weights prog 25).all (·<=reachBytes)=true) (hb:Rows.uptoBulk d<=1048576):
  ∃s:ai,v=s.val/\s.ok w w.heap.size/\s.types.length<=1048576:=by
 obtain⟨g,c,_⟩:=yF;obtain⟨cs,rfl,_⟩:=okWide_struct c f;obtain⟨s,a,b⟩:=lW.arg SQ h e hb;exact⟨s,by simpa[Value.cells]using a,b⟩
theorem zD7 (a:Value.okWide prog w r b0 9 v) (h:DataW.Trod enc prog w 0 (λ_=>true) true 9 v d p) (c:(d.weights prog 9).all (·<=reachBytes)=true) (hb:Rows.uptoBulk d<=1048576):∃s:ByteArray,v=.string s:=by
 obtain⟨s,b,_⟩:=Go.ChangeMaps.open_string underlying9 a h;exact⟨s,b⟩
end
end Go.Proofs.YtbjnhllkdilpfaaGreat
