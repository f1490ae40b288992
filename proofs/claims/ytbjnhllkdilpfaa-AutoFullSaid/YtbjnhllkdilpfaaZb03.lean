/- Part 3 of the proof. No conditions. -/
import Derived.Test.YtbjnhllkdilpfaaZb01
namespace Go.Proofs.Ytbjnhllkdilpfaa
open Go.RowKit
set_option maxRecDepth 10000
def iG (c:Int):Bool:=decide (97<=c/\c<=122\/65<=c/\c<=90)
def jy (c:Int):Bool:=decide (48<=c/\c<=57)
def G7:List (List UInt8):=[[80,65,84,84,69,82,78],[83,69,81],[87,72,69,82,69],[83,84,82,65,84,69,71,89],[87,73,84,72,73,78],[80,65,82,84,73,84,73,79,78],[66,89],[83,84,82,73,67,84],[78,69,88,84],[65,78,89],[65,78,68],[79,82],[78,79,84],[84,82,85,69],[70,65,76,83,69],[84,73,77,69],[82,69,65,76],[73,83,78,65,78],[67,79,85,78,84],[70,73,82,83,84],[76,65,83,84],[83,85,77],[77,73,78],[77,65,88],[77,69,65,78]]
def rQ (l:List UInt8):Bool:=G7.any (l==·)
theorem jI (c : Int) (w : World) :
  Calls Try.prog 74 #[.int .u8 c] w fun e w'=>e=.returned (.bool (iG c))/\w=w':=by
 by_cases a1:97<=c<;>by_cases a2:c<=122<;>by_cases a3:65<=c<;>by_cases a4:c<=90<;>
 (go_enter Try.func74,Try.ntmps74
  go_wp2
  all_goals go_ret
  all_goals(refine⟨?_,rfl⟩)
  all_goals(congr 2;simp[iG]<;>omega))
theorem qA (c : Int) (w : World) :
  Calls Try.prog 78 #[.int .u8 c] w fun e w'=>e=.returned (.bool (jy c))/\w=w':=by
 by_cases a1:48<=c<;>by_cases a2:c<=57<;>
 (go_enter Try.func78,Try.ntmps78
  go_wp2
  all_goals go_ret
  all_goals(refine⟨?_,rfl⟩)
  all_goals(congr 2;simp[jy]<;>omega))
def mP:List ByteArray:=[⟨#[80,65,84,84,69,82,78]⟩,⟨#[83,69,81]⟩,⟨#[87,72,69,82,69]⟩,⟨#[83,84,82,65,84,69,71,89]⟩,⟨#[87,73,84,72,73,78]⟩,⟨#[80,65,82,84,73,84,73,79,78]⟩,⟨#[66,89]⟩,⟨#[83,84,82,73,67,84]⟩,⟨#[78,69,88,84]⟩,⟨#[65,78,89]⟩,⟨#[65,78,68]⟩,⟨#[79,82]⟩,⟨#[78,79,84]⟩,⟨#[84,82,85,69]⟩,⟨#[70,65,76,83,69]⟩,⟨#[84,73,77,69]⟩,⟨#[82,69,65,76]⟩,⟨#[73,83,78,65,78]⟩,⟨#[67,79,85,78,84]⟩,⟨#[70,73,82,83,84]⟩,⟨#[76,65,83,84]⟩,⟨#[83,85,77]⟩,⟨#[77,73,78]⟩,⟨#[77,65,88]⟩,⟨#[77,69,65,78]⟩]
def MG:Array Value:=(mP.map Value.string).toArray
theorem Ei:mP.map (·.toList)=G7:=by
 simp only[mP,G7,List.map_cons,List.map_nil,ByteArray.toList_eq]
theorem JV (w:World):Calls Try.prog 90 #[] w fun e w'=>e=.returned (.slice (some ⟨w.heap.size,0,none⟩) 25 25)/\Rd w' (w.heap.size+1) (some ⟨w.heap.size,0,none⟩) (mP.map Value.string)/\Below w.heap.size w w':=by
 go_enter Try.func90,Try.ntmps90
 go_wp2
 go_ret
 exact⟨rfl,Rd.lit rfl MG _,zR.alloc zL _⟩
def pF (s:List UInt8):List (List UInt8)->Bool
 |[]=>false
 |x::l=>if x==s then true else pF s l
theorem G8 (s:List UInt8) (l:List (List UInt8)):pF s l=l.any (s==·):=by
 induction l with
 |nil=>rfl
 |cons x l ih=>
  rw[pF,List.any_cons,<-ih,show(s==x)=(x==s)from by rw[Bool.eq_iff_iff,beq_iff_eq,beq_iff_eq];exact eq_comm];cases(x==s)<;>rfl
theorem vF (s : ByteArray) (w : World) :
  Calls Try.prog 76 #[.string s] w fun e w'=>e=.returned (.bool (rQ s.toList))/\Below w.heap.size w w':=by
 have hfin:rQ s.toList=pF s.toList (mP.map (·.toList)):=by rw[Ei,G8];rfl
 rw[hfin];have HF:=zH hfin;clear hfin
 go_enter Try.func76,Try.ntmps76
 go_wp2_with (go_at_call 90;refine(JV _).mono ?_;rintro e w1 ⟨rfl,hr,hbel⟩)
 have hl:mP.length=25:=rfl;have HL:=zH hl;clear hl
 go_loop[7] (fun i=>∃k:Nat,k<=25/\i=.int .i64 k/\Hid (pF s.toList (mP.map (·.toList))=pF s.toList ((mP.drop k).map (·.toList)))) (fun i=>25-(intOf i).toNat)
 case atStart=>exact⟨0,Nat.zero_le _,rfl,rfl⟩
 case round=>
  obtain⟨k,hk,rfl,hrec⟩:=hrel
  by_cases hlt:k<25
  ·have hlt':k<mP.length:=by rw[HL.out];exact hlt
   obtain⟨b,o,hA,hb,hc⟩:=hr.Je hlt';injection hA with hA
   injection hA with hA1 hA2
   subst hA1;subst hA2;rw[Nat.zero_add]at hc;rw[List.drop_eq_getElem_cons hlt']at hrec;generalize hW:mP[k]=W at *;have HW:=zH hW;clear hW;go_wp2
   ·go_ret
    have ht:(W.toList==s.toList)=true:=by assumption
    refine⟨lC ?_,hbel⟩;rw[hrec.out,List.map_cons,pF,if_pos ht]
   ·have ht:(W.toList==s.toList)=false:=by assumption
    go_round
    case rel=>exact⟨k+1,by omega,by go_num,by rw[hrec.out,List.map_cons,pF,ht];rfl⟩
    case measure=>simp[intOf];omega
  ·go_wp2
   go_ret
   refine⟨lC ?_,hbel⟩;rw[hrec.out,List.drop_eq_nil_of_le (by rw[HL.out];omega)];rfl
def okB (c:UInt8):Bool:=iG c.toNat||jy c.toNat||decide ((c.toNat:Int)=95)
def yL (l:List UInt8):Bool:=match l with|c::_=>iG c.toNat|[]=>false
def nameB (l:List UInt8):Bool:=decide (1<=l.length/\l.length<=24)&&(yL l&&(!rQ l&&l.all okB))
theorem bI (s:ByteArray):s.toList.length=s.size:=by rw[ByteArray.toList_eq,Array.length_toList];rfl
theorem MH (s:ByteArray) (k:Nat) (h:k<s.size):s.toList[k]'(by rw[bI];exact h)=s[k]:=by
 simp only[ByteArray.toList_eq];rfl
theorem dM (s:ByteArray) (k:Nat) (h:k<s.size):s.toList.drop k=s[k]::s.toList.drop (k+1):=by
 rw[List.drop_eq_getElem_cons (by rw[bI];exact h),MH s k h]
theorem yM (s:ByteArray) (h:0<s.size):yL s.toList=iG s[0].toNat:=by
 have:=dM s 0 h;rw[List.drop_zero]at this;rw[this];rfl
theorem BB (l:List UInt8) (h:¬(1<=l.length/\l.length<=24)):nameB l=false:=by simp only[nameB,decide_eq_false h,Bool.false_and]
theorem G9 (l:List UInt8) (h:yL l=false):nameB l=false:=by simp[nameB,h]
theorem JW (l:List UInt8) (h:rQ l=true):nameB l=false:=by simp[nameB,h]
theorem MI (l:List UInt8) (h:1<=l.length/\l.length<=24) (h1:yL l=true) (h2:rQ l=false):nameB l=l.all okB:=by simp[nameB,h,h1,h2]
theorem nz (s : ByteArray) (w : World) :
  Calls Try.prog 77 #[.string s] w fun e w'=>e=.returned (.bool (nameB s.toList))/\Below w.heap.size w w':=by
 by_cases h0:1<=s.size/\s.size<=24
 ·have hpos:0<s.size:=by omega
  cases hf:iG s[0].toNat
  ·rw[G9 _ ((yM s hpos).trans hf)]
   go_enter Try.func77,Try.ntmps77
   go_wp2_with (go_at_call 74;refine(jI _ _).mono ?_;rintro e w' ⟨rfl,rfl⟩)
   go_ret
   exact⟨rfl,Below.refl _ _⟩
  ·have hf':yL s.toList=true:=(yM s hpos).trans hf;cases hw:rQ s.toList
   ·have hall:=MI s.toList (by rw[bI];exact h0) hf' hw;have HA:=zH hall;clear hall;rw[HA.out];clear hf'
    go_enter Try.func77,Try.ntmps77
    go_wp2_with (first|(go_at_call 74;refine(jI _ _).mono ?_;rintro e w' ⟨rfl,rfl⟩)|(go_at_call 76;refine(vF _ _).mono ?_;rintro e w1 ⟨rfl,hbel⟩))
    clear hf hw
    go_loop[3] (fun i=>∃k:Nat,k<=s.size/\i=.int .i64 k/\Hid (s.toList.all okB=(s.toList.drop k).all okB)) (fun i=>s.size-(intOf i).toNat)
    case atStart=>exact⟨0,Nat.zero_le _,rfl,rfl⟩
    case round=>
     obtain⟨k,hk,rfl,hrec⟩:=hrel
     by_cases hlt:k<s.size
     ·rw[dM s k hlt,List.all_cons]at hrec;generalize hr:(s.toList.drop (k+1)).all okB=r at *;have HR:=zH hr;clear hr;cases hL:iG s[k].toNat<;>cases hD:jy s[k].toNat<;>by_cases h95:(s[k].toNat:Int)=95
      all_goals cases hok:okB s[k]
      all_goals first|(exfalso;simp[okB,hL,hD,h95]at hok;done)|skip
      all_goals have HO:=zH hok
      all_goals clear hok
      all_goals try(have Ym:((s[k].toNat:Int) !=95)=false:=by simp[h95])
      all_goals try(have Ym:((s[k].toNat:Int) !=95)=true:=by simp[h95])
      all_goals clear h95
      all_goals go_wp2_with (first|(go_at_call 74;refine(jI _ _).mono ?_;rintro e w' ⟨rfl,rfl⟩)|(go_at_call 78;refine(qA _ _).mono ?_;rintro e w' ⟨rfl,rfl⟩))
      all_goals first
       |(go_ret;refine⟨lC ?_,hbel⟩;rw[hrec.out,HO.out];rfl;done)
       | (go_round
          (case rel=>exact⟨k+1,by omega,by go_num,by rw[hrec.out,HO.out,Bool.true_and];exact HR.out.symm⟩)
          (case measure=>simp[intOf];omega))
     ·go_wp2
      go_ret
      refine⟨lC ?_,hbel⟩;rw[hrec.out,List.drop_eq_nil_of_le (by rw[bI];omega)];rfl
   ·rw[JW _ hw]
    go_enter Try.func77,Try.ntmps77
    go_wp2_with (first|(go_at_call 74;refine(jI _ _).mono ?_;rintro e w' ⟨rfl,rfl⟩)|(go_at_call 76;refine(vF _ _).mono ?_;rintro e w1 ⟨rfl,hbel⟩))
    go_ret
    exact⟨rfl,hbel⟩
 ·rw[BB _ (by rw[bI];exact h0)];rcases(by omega:s.size<1\/24<s.size)with h|h
  ·have e:s.size=0:=by omega
   clear h0
   go_enter Try.func77,Try.ntmps77
   go_wp2
   go_ret
   exact⟨rfl,Below.refl _ _⟩
  ·clear h0
   go_enter Try.func77,Try.ntmps77
   go_wp2
   go_ret
   exact⟨rfl,Below.refl _ _⟩
end Go.Proofs.Ytbjnhllkdilpfaa
namespace Go.Proofs.Ytbjnhllkdilpfaa
open Go.RowKit
set_option linter.unusedSimpArgs false
set_option linter.unusedVariables false
def uf:Array Value->Nat->List Value->Array Value
 |cs,_,[]=>cs
 |cs,k,d::r=>uf (cs.setIfInBounds k d) (k+1) r
theorem BG:∀(ds:List Value) (cs:Array Value) (k:Nat),(uf cs k ds).size=cs.size
 |[],_,_=>rfl
 |d::r,cs,k=>by
  have:=BG r (cs.setIfInBounds k d) (k+1)
  simpa[uf]using this
theorem vI:∀(ds:List Value) (cs:Array Value) (k:Nat),k+ds.length<=cs.size->(uf cs k ds).toList=cs.toList.take k++ds++cs.toList.drop (k+ds.length)
 |[],cs,k,_=>by simp[uf]
 |d::r,cs,k,h=>by
  simp only[List.length_cons]at h;have ih:=vI r (cs.setIfInBounds k d) (k+1) (by simp;omega);have hk:k<cs.toList.length:=by simp;omega
  show(uf (cs.setIfInBounds k d) (k+1) r).toList=_
  rw[ih,Array.toList_setIfInBounds,List.drop_set_of_lt (by omega),List.take_succ_eq_append_getElem (by simpa using hk)];simp[List.take_set,List.length_cons];rw[List.set_eq_of_length_le (by simp;omega)];simp[Nat.add_assoc,Nat.add_comm 1]
theorem yO (ds:List Value) (cs:Array Value) (h:cs.size=ds.length):uf cs 0 ds=ds.toArray:=by
 apply Array.toList_inj.1
 rw[vI ds cs 0 (by omega)];have:cs.toList.drop (0+ds.length)=[]:=List.drop_eq_nil_of_le (by simp;omega);simp[this];omega
structure lY (w:World) (g:Nat) (t:TypeId) (cs:Array Value) (w':World):Prop where
 bk:Bk w' g t cs
 size:w'.heap.size=w.heap.size
 other:∀b:Nat,b≠g->w'.heap[b]? =w.heap[b]?
 below:∀(B:Nat) (a0:World),Below B a0 w->B<=g->Below B a0 w'
 grown:w.grownBy w' (some g)
section
variable {w:World} {g o:Nat} {t:TypeId} {cs:Array Value}
theorem MW {i : Nat} {v : Value} {rest : List Value} (hb : Bk w g t cs) (hi : o + i < cs.size) (hv : v.oneCell' = true) :
  (storeCells ⟨g,o,none⟩ (v::rest) i).run Try.prog w=(storeCells ⟨g,o,none⟩ rest (i+1)).run Try.prog (w.setCell ⟨g,o+i,none⟩ v):=by
 have e:((⟨g,o,none⟩:Addr).add i)=⟨g,o+i,none⟩:=by unfold Addr.add;by_cases hj:i=0<;>simp[hj]
 have hc:w.cell? ⟨g,o+i,none⟩=some cs[o+i]:=by rw[hb.cell (o+i)];simp[hi]
 have hf:=hb.frozen (o+i)
 have hs:(store ⟨g,o+i,none⟩ v).run Try.prog w=.ok () (w.setCell ⟨g,o+i,none⟩ v):=by
  cases v<;>first|(simp[store,Sem.run,hc,hf];done)|(simp[Value.oneCell']at hv;done)
 simp[storeCells,e,hs]
theorem Hf : ∀ (ds : List Value) (i : Nat) (cs : Array Value) (w : World), Bk w g t cs → o + i + ds.length ≤ cs.size → ds.all Value.oneCell' = true →
  ∃w',(storeCells ⟨g,o,none⟩ ds i).run Try.prog w=.ok () w'/\lY w g t (uf cs (o+i) ds) w'
 |[],i,cs,w,hb,_,_=>⟨w,rfl,⟨hb,rfl,fun _ _=>rfl,fun _ _ h _=>h,World.grownBy.refl _ _⟩⟩
 |d::r,i,cs,w,hb,hl,h1=>by
  simp only[List.all_cons,Bool.and_eq_true]at h1;simp only[List.length_cons]at hl;obtain⟨w',hr,hp⟩:=Hf r (i+1) (cs.setIfInBounds (o+i) d) (w.setCell ⟨g,o+i,none⟩ d) (hb.put (o+i) d) (by simp;omega) h1.2;refine⟨w',(MW hb (by omega) h1.1).trans hr,⟨hp.bk,by rw[hp.size];simp,fun b hbg=>(hp.other b hbg).trans (Below.heap_setCell w _ d b hbg),fun B a0 hB hg=>hp.below B a0 (hB.setCell hg _) hg,?_⟩⟩;have h0:w.grownBy (w.setCell ⟨g,o+i,none⟩ d) (some g):=⟨rfl,rfl,rfl,by simp,fun k hk hne=>Below.heap_setCell w _ d k (fun e=>hne (by rw[e]))⟩
  exact h0.trans hp.grown
theorem yP {t0 : TypeId} {n : Nat} (hsz : ∀ w, (sizeOf t0).run Try.prog w = .ok n w) (h : Bk w g t cs) (ds : List Value) (hn : ds.length = n) (ho : o + n ≤ cs.size) (h1 : ds.all Value.oneCell' = true) :
  ∃w',(Instr.storeAt t0 (.pointer (some ⟨g,o,none⟩)) (.agg ds.toArray)).run Try.prog w=.ok () w'/\lY w g t (uf cs o ds) w':=by
 obtain⟨w',hr,hp⟩:=Hf (o:=o) ds 0 cs w h (by omega) h1;refine⟨w',?_,hp⟩;rw[<-hr];simp[Instr.storeAt,storeVar,Instr.sureAddr,hsz,Value.cells,hn]
theorem Et {ops : Array Oper} {rest : List Oper} {op : Oper} {a : Act} {Q : Exit → Act → World → Prop} {t0 : TypeId} {n : Nat} (hsz : ∀ w, (sizeOf t0).run Try.prog w = .ok n w)
  (hg:op.guard=none) (x y:Operand) (hop:op.op=Op.store t0 x y) (hx:a.eval x=.pointer (some ⟨g,o,none⟩)) (ds:List Value) (hy:a.eval y=.agg ds.toArray) (h:Bk w g t cs) (hn:ds.length=n) (ho:o+n<=cs.size)
  (h1:ds.all Value.oneCell'=true) (cs':Array Value) (hcs:uf cs o ds=cs')
  (hK:∀w':World,lY w g t cs' w'->wpList Try.prog ops Q rest (a.put op.dst undef) w'):wpList Try.prog ops Q (op::rest) a w:=by
 refine wpList_plain hg fun K' hK'=>?_
 obtain⟨w',hr,hp⟩:=yP hsz h ds hn ho h1;unfold Oper.wp;simp[execOp,hop,hx,hy,hr,Result.andThen];exact hK' _ _ (hK _ (hcs▸hp))
theorem ae {ops : Array Oper} {rest : List Oper} {op : Oper} {a : Act} {Q : Exit → Act → World → Prop} {t0 : TypeId} {n : Nat} (hsz : ∀ w, (sizeOf t0).run Try.prog w = .ok n w)
  (hg:op.guard=none) (x y:Operand) (hop:op.op=Op.store t0 x y) (hx:a.eval x=.pointer (some ⟨g,0,none⟩)) (ds:List Value) (hy:a.eval y=.agg ds.toArray) (h:Bk w g t cs) (hn:ds.length=n) (ho:cs.size=n)
  (h1:ds.all Value.oneCell'=true)
  (hK:∀w':World,lY w g t ds.toArray w'->wpList Try.prog ops Q rest (a.put op.dst undef) w'):wpList Try.prog ops Q (op::rest) a w:=
 Et hsz hg x y hop hx ds hy h hn (by omega) h1 _ (yO ds cs (by omega)) hK
end
theorem lY.Eu {w w':World} {g k:Nat} {t u:TypeId} {cs ds:Array Value} (h:lY w g t cs w') (hk:Bk w k u ds) (hne:k≠g):Bk w' k u ds:=(h.other k hne).trans hk
end Go.Proofs.Ytbjnhllkdilpfaa
