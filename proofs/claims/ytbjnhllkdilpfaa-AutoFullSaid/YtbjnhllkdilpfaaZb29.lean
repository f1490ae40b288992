/- Part 29 of the proof. No conditions. -/
import Derived.Test.YtbjnhllkdilpfaaZb28
namespace Go.Proofs.Ytbjnhllkdilpfaa
open Go.RowKit
set_option linter.unusedSimpArgs false
set_option linter.unusedVariables false
set_option maxRecDepth 10000
def KN:au->Prop
 |.leaf _ n sc _ _ _=>n<=9223372036854775807/\sc<=1000
 |.un _ x _=>KN x
 |.bin _ x y _=>KN x/\KN y
def FQ (s:ah) (m:MS):au->Prop
 |.leaf op n sc nm a p=>(dX s (.leaf op n sc nm a p) m).2=m
 |.un op x p=>(dX s (.un op x p) m).2=m/\FQ s m x
 |.bin op x y p=>(dX s (.bin op x y p) m).2=m/\FQ s m x/\FQ s m y
def opsE:au->Prop
 |.leaf ..=>True
 |.un op x _=>op≠23/\opsE x
 |.bin op x y _=>op≠23/\opsE x/\opsE y
def xQ:au->Nat
 |.leaf ..=>1
 |.un _ x _=>xQ x+1
 |.bin _ x y _=>max (xQ x) (xQ y)+1
theorem eX.upTo {S:Nat->Prop} {d d':Nat} {t:T} {cs:List Value} {w:World} (hd:d<=d') (h:eX S d t cs w):eX S d' t cs w:=by
 obtain⟨k,rfl⟩:=Nat.exists_eq_add_of_le hd
 induction k with
 |zero=>exact h
 |succ k ih=>exact(ih (by omega)).up
theorem uA.upTo {d d':Nat} {t:T} {W:World} {r:Ending} {W':World} (hd:d<=d'):uA d t W r W'->uA d' t W r W':=fun⟨cs,h1,h2,h3⟩=>⟨cs,h1,h2.upTo hd,h3⟩
theorem gJ.below {b B:Nat} {s:ah} {iv:Value} {m:MS} {W W':World} (h:ja b B s iv m W) (hs:gJ b B s iv m W W'):Below W.heap.size W W':=
 ⟨hs.grown.os,hs.grown.tape,hs.grown.output,hs.grown.size,fun k hk=>by
  by_cases hkb:k=b
  ·subst hkb;exact hs.st.bk.trans h.bk.symm
  ·exact hs.grown.block k hk (aC hkb)⟩
theorem RG {s:ah} {m:MS} {op:Nat} {nm a:Str} {p:Nat} (h0:m.err=0) (h:(lM s op nm a p [] m).2=m):op=23->0<=eU nm 0 (s.syms.map (·.toList)):=by
 intro h23;subst h23;unfold lM at h;rw[if_neg (by simp[h0])]at h
 by_cases hlt:eU nm 0 (s.syms.map (·.toList))<0
 ·simp only[reduceCtorEq,if_pos hlt,Nat.reduceEqDiff,↓reduceIte]at h;have:=congrArg MS.err h;simp[dI,h0]at this
 ·omega
theorem uC {P : Nat → Prop} (b B : Nat) (s : ah) (iv : Value) (m : MS) (AS : ByteArray) (hbB : b < B) (GX : ∀ g, P g → g ≠ b) (h0 : m.err = 0) (hn : m.items.length ≤ 1000) : ∀ (e : au) (cs : List Value) (w : World), ja b B s iv m w → kN P w e cs → KN e → FQ s m e → opsE e →
  Calls Try.prog 72 #[.pointer (some ⟨b,0,none⟩),.agg cs.toArray,.string AS] w (uA (xQ e) (Jy s m AS.toList e) w)
 |.leaf op n sc nm a p,cs,w,hm,h,hnum,hf,_=>by
  obtain rfl:cs=iC op n sc nm a p:=h
  have:=vZ b B 0 s iv m op n sc p (bytes nm) (bytes a) AS none 0 0 [] (dX s (.leaf op n sc nm a p) m).1 rfl (by omega) w hm hn hnum.1 hnum.2 (by rw[aJ];exact RG h0 hf) (fun W hW=>by
   refine(jL (P:=P) b B s iv hbB GX (.leaf op n sc nm a p) _ m W hn (hm.old hW) rfl).mono ?_;rintro r w' ⟨rfl,hs⟩;rw[hf]at hs
   exact⟨rfl,gJ.below (hm.old hW) hs⟩) (fun j hj=>absurd hj (by simp))
  rw[aJ,aJ]at this;exact this
 |.un op x p,cs,w,hm,h,hnum,hf,ho=>by
  obtain⟨g,xs,rfl,hP,hk,hx⟩:=id h;obtain⟨y0,y1,y2,y3,y4,y5,y6,rfl,hy⟩:=hx.seven
  have:=vZ b B (xQ x) s iv m op 0 0 p ⟨#[]⟩ ⟨#[]⟩ AS (some ⟨g,0,none⟩) 1 1 [Jy s m AS.toList x] (dX s (.un op x p) m).1 rfl (by omega) w hm hn (by omega) (by omega) (fun h=>by have:=ho.1;omega) (fun W hW=>by
   refine(jL (P:=P) b B s iv hbB GX (.un op x p) _ m W hn (hm.old hW) (h.old hW)).mono ?_;rintro r w' ⟨rfl,hs⟩;rw[hf.1]at hs
   exact⟨rfl,gJ.below (hm.old hW) hs⟩) (fun j hj=>by
   match j,hj with
   |0,_=>exact⟨⟨g,y0,y1,y2,y3,y4,y5,y6,rfl,hk.lt,fun q u hu=>by rw[hk.cell];simpa using hu,fun W hW=>uC b B s iv m AS hbB GX h0 hn x _ W (hm.old hW) (hx.old hW) hnum hf.2 ho.2⟩⟩)
  rw[show(⟨#[]⟩:ByteArray).toList=[] by rw[ByteArray.toList_eq]]at this;exact this
 |.bin op x y p,cs,w,hm,h,hnum,hf,ho=>by
  obtain⟨g,xs,ys,rfl,hP,hk,hx,hy⟩:=id h;obtain⟨x0,x1,x2,x3,x4,x5,x6,rfl,_⟩:=hx.seven;obtain⟨y0,y1,y2,y3,y4,y5,y6,rfl,_⟩:=hy.seven
  have:=vZ b B (max (xQ x) (xQ y)) s iv m op 0 0 p ⟨#[]⟩ ⟨#[]⟩ AS (some ⟨g,0,none⟩) 2 2 [Jy s m AS.toList x,Jy s m AS.toList y] (dX s (.bin op x y p) m).1 rfl (by omega) w hm hn (by omega) (by omega) (fun h=>by have:=ho.1;omega) (fun W hW=>by
   refine(jL (P:=P) b B s iv hbB GX (.bin op x y p) _ m W hn (hm.old hW) (h.old hW)).mono ?_;rintro r w' ⟨rfl,hs⟩;rw[hf.1]at hs
   exact⟨rfl,gJ.below (hm.old hW) hs⟩) (fun j hj=>by
   match j,hj with
   | 0, _ => exact ⟨⟨g, x0, x1, x2, x3, x4, x5, x6, rfl, hk.lt, fun q u hu => by
     rw[hk.cell];have hq:q<7:=(List.getElem?_eq_some_iff.1 hu).1;rw[List.getElem?_toArray]
     rw[List.getElem?_append_left (by simp;omega),Nat.zero_mul,Nat.zero_add,hu],fun W hW=>(uC b B s iv m AS hbB GX h0 hn x _ W (hm.old hW) (hx.old hW) hnum.1 hf.2.1 ho.2.1).mono fun _ _=>uA.upTo (Nat.le_max_left _ _)⟩⟩
   | 1, _ => exact ⟨⟨g, y0, y1, y2, y3, y4, y5, y6, rfl, hk.lt, fun q u hu => by
     rw[hk.cell];rw[List.getElem?_toArray];rw[List.getElem?_append_right (by simp)]
     simpa using hu,fun W hW=>(uC b B s iv m AS hbB GX h0 hn y _ W (hm.old hW) (hy.old hW) hnum.2 hf.2.2 ho.2.2).mono fun _ _=>uA.upTo (Nat.le_max_right _ _)⟩⟩)
  rw[show(⟨#[]⟩:ByteArray).toList=[] by rw[ByteArray.toList_eq]]at this;exact this
end Go.Proofs.Ytbjnhllkdilpfaa
