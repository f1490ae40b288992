/- Part 1 of the proof. No conditions. -/
import Derived.WalkKit
import Derived.WalkLawsBesides
import Derived.BigQuiet
import Derived.Lib.Hide
import Derived.Deep.AppendLies
import Derived.Deep.OwnRows
import Derived.Maps.AppendAt
import Derived.Laws.AppendOwnNone
import Derived.Lib.ItoaNum
import Derived.WalkSpells
import Derived.IntWalk
import Derived.Lib.AppendIntMem
import Derived.Lib.ConvBytes
import Derived.Lib.Strings
import Derived.Deep.DeepCutAuto
import Derived.Orders
import Derived.Deep.CutBlock
import Derived.Deep.LoopGhost
import Derived.Deep.RegionHeld3
import Derived.Maps.OwnOps
import Derived.Deep.Slices
import Derived.Laws.FloatArith
import Derived.Shelf.Bits.Mul64
import Derived.Defers
import Derived.Recover
import Derived.Tactics2
import Derived.Laws.Pointers
import Derived.Deep.QuietTactic
import Derived.Maps.RangeWalk
import Derived.ProofKit
import Derived.OpenShut
import Derived.SizedLaws
import Derived.Deep.CondSized
import Derived.Test.YtbjnhllkdilpfaaGreatRows
set_option linter.unusedVariables false
set_option linter.unusedSimpArgs false
namespace Go.Proofs.YtbjnhllkdilpfaaGreat
open Go.RowKit
theorem zR {B:Nat} {w:World}:Below B w w:=Below.refl _ _
theorem zL {n:Nat}:n<=n:=Nat.le_refl _
theorem zB {α:Type} [BEq α] [LawfulBEq α] {a b:α} (h:a≠b):(a==b)=false:=beq_eq_false_iff_ne.2 h
theorem zA {p q:Prop} (a:p) (b:q):p/\q:=⟨a,b⟩
theorem zH {p:Prop} (h:p):Hid p:=h
theorem zE {w w':World} {b o:Nat} {v:Value} (hb:Below w.heap.size w w') (h:w.cell? ⟨b,o,none⟩=some v):w'.cell? ⟨b,o,none⟩=some v:=(hb.cell (p:=⟨b,o,none⟩) (World.block_lt_of_cell? _ _ h)).trans h
theorem zN {α:Type} (e:α):∃z,e=z:=⟨_,rfl⟩
abbrev zAg:=@List.getElem?_eq_getElem
abbrev zFc:=@List.getElem?_eq_some_iff
theorem zFd {α:Type _} {l:List α}:l.toArray.toList=l:=rfl
abbrev zFe:=@List.getElem_mem
abbrev zFf:=@List.setIfInBounds_toArray
abbrev zFg:=@bodyPost_ret
theorem zFh {α:Type _} {a:α} {l:List α}:(a::l).length=l.length+1:=rfl
abbrev zFi:=@Nat.le_trans
abbrev zFj:=@Nat.zero_le
abbrev zFk:=@List.drop_eq_getElem_cons
abbrev zFm:=@ByteArray.toList_eq
abbrev zFn:=@Bool.and_eq_true
abbrev zFp:=@List.drop_zero
abbrev zFq:=@List.drop_eq_nil_of_le
abbrev zFr:=@Nat.zero_add
abbrev zFs:=@Nat.lt_of_lt_of_le
abbrev zFt:=@beq_iff_eq
abbrev zFu:=@List.length_append
abbrev zFv:=@Nat.le_refl
theorem zFw {α:Type _} {x a:α} {l:List α}:(x::l).set 0 a=a::l:=rfl
theorem zFx {α:Type _} {x a:α} {l:List α} {n:Nat}:(x::l).set (n+1) a=x::l.set n a:=rfl
abbrev zFy:=@List.mem_append
abbrev zFz:=@beq_eq_false_iff_ne
theorem zF0 {α:Type _} {a:α} {l:List α} {n:Nat}:(a::l).take (n+1)=a::l.take n:=rfl
abbrev zF1:=@List.drop_succ_cons
abbrev zF2:=@if_neg
abbrev zF3:=@if_pos
theorem zF4 {α:Type _}:([]:List α).length=0:=rfl
abbrev zF5:=@List.length_map
abbrev zF6:=@List.mem_cons
abbrev zF7:=@List.getElem?_toArray
abbrev zF8:=@World.grownBy.refl
abbrev zF9:=@decide_eq_true_eq
abbrev zGa:=@List.mem_map
theorem zGb {α:Type _} {l:List α}:l.take 0=[]:=rfl
abbrev zGc:=@List.take_succ_eq_append_getElem
abbrev zGd:=@List.getElem?_append_right
theorem zGe {α:Type _} {a:α} {l:List α}:(a::l)[0]?=some a:=rfl
abbrev zGf:=@decide_eq_false
theorem zGg {α:Type _} {a:α} {l:List α} {n:Nat}:(a::l)[n+1]?=l[n]?:=rfl
abbrev zGh:=@List.getElem?_append_left
abbrev zGi:=@List.not_mem_nil
abbrev zGj:=@List.mem_of_getElem?
abbrev zGk:=@Array.getD_eq_getD_getElem?
abbrev zGm:=@decide_eq_true
abbrev zGn:=@List.mem_flatMap
abbrev zGp:=@Below.refl
abbrev zGq:=@List.map_cons
abbrev zGr:=@List.map_append
abbrev zGs:=@World.ownsRow_nil
abbrev zGt:=@Below.heap_setCell
abbrev zGu:=@List.all_eq_true
abbrev zGv:=@congrArg
abbrev zGw:=@ownsRow_setCell_other
abbrev zGx:=@List.flatMap_cons
abbrev zGy:=@List.getD_eq_getElem?_getD
abbrev zGz:=@List.flatMap_append
abbrev zG0:=@bne_eq_false_iff_eq
abbrev zG1:=@bne_iff_ne
abbrev zG2:=@List.getElem?_map
abbrev zG3:=@List.mem_singleton
abbrev zG4:=@info_parts
abbrev zG5:=@Nat.le_of_lt
abbrev zG6:=@Array.getElem?_eq_getElem
abbrev zG7:=@List.getElem?_eq_none
abbrev zG8:=@Bool.or_eq_true
abbrev zG9:=@List.length_take
abbrev zHa:=@List.eq_nil_of_length_eq_zero
abbrev zHb:=@List.append_nil
abbrev zHc:=@List.map_nil
abbrev zHd:=@List.getElem?_drop
abbrev zHe:=@Bool.eq_iff_iff
abbrev zHf:=@below_drewN
abbrev zHg:=@bodyPost_end
abbrev zHh:=@List.map_map
abbrev zHi:=@List.getElem?_modify
abbrev zHj:=@List.length_drop
abbrev zHk:=@IntWalk.i64_in
abbrev zHm:=@Nat.zero_mul
abbrev zHn:=@List.pairwise_append
abbrev zHp:=@List.map_toArray
abbrev zHq:=@List.mem_range
abbrev zHr:=@Array.getElem?_eq_some_iff
abbrev zHs:=@World.block_lt_of_cell?
abbrev zHt:=@or_false
abbrev zHu:=@Nat.lt_or_ge
abbrev zHv:=@List.take_of_length_le
abbrev zHw:=@List.flatMap_map
abbrev zHx:=@Bool.not_eq_true'
abbrev zHy:=@Bool.false_eq_true
abbrev zHz:=@Array.getElem?_eq_none
abbrev zH0:=@List.length_set
abbrev zH1:=@List.pairwise_iff_getElem
abbrev zH2:=@IntKind.wrap_u64
abbrev zH3:=@List.take_length
abbrev zH4:=@List.getElem_map
abbrev zH5:=@Sem.run_bind
abbrev zH6:=@Bool.eq_false_iff
abbrev zH7:=@List.mem_iff_getElem?
abbrev zH8:=@wpList_plain
abbrev zH9:=@Array.getElem?_setIfInBounds_ne
abbrev zJa:=@List.append_assoc
abbrev zJb:=@Nat.add_assoc
abbrev zJc:=@Bool.true_and
abbrev zJd:=@List.take_append_drop
abbrev zJe:=@World.cell?_of_block
abbrev zJf:=@Nat.mul_assoc
abbrev zJg:=@Nat.succ_mul
abbrev zJh:=@Bool.false_and
abbrev zJi:=@Nat.sub_self
abbrev zJj:=@List.getElem_modify
abbrev zJk:=@Option.map_eq_some_iff
abbrev zJm:=@Array.toList_setIfInBounds
abbrev zJn:=@Nat.eq_zero_or_pos
abbrev zJp:=@ByteArray.size_append
abbrev zJq:=@Nat.mul_le_mul_right
abbrev zJr:=@Nat.pow_le_pow_right
abbrev zJs:=@List.mem_cons_of_mem
abbrev zJt:=@List.getElem?_take_of_lt
abbrev zJu:=@Nat.min_eq_left
abbrev zJv:=@Int.eq_ofNat_of_zero_le
abbrev zJw:=@List.map_congr_left
abbrev zJx:=@IntKind.wrap_i64
abbrev zJy:=@World.frozen?_of_block
abbrev zJz:=@of_decide_eq_true
abbrev zJ0:=@Option.some.injEq
abbrev zJ1:=@List.ext_getElem?
abbrev zJ2:=@List.mem_of_mem_drop
abbrev zJ3:=@List.mem_iff_getElem
abbrev zJ4:=@Bool.and_false
abbrev zJ5:=@Nat.mul_le_mul
abbrev zJ6:=@Below.heap_alloc
abbrev zJ7:=@decide_eq_decide
abbrev zJ8:=@Nat.lt_succ_self
abbrev zJ9:=@Nat.le_succ
abbrev zKa:=@Below.size
abbrev zKb:=@Nat.add_sub_cancel_left
abbrev zKc:=@decide_eq_true_iff
abbrev zKd:=@List.all_append
abbrev zKe:=@List.length_eq_one_iff
abbrev zKf:=@Below.drew
abbrev zKg:=@Below.trans
abbrev zKh:=@List.getElem?_set
abbrev zKi:=@Decidable.not_not
abbrev zKj:=@World.cells?_some
abbrev zKk:=@if_false
abbrev zKm:=@Array.getElem?_modify
abbrev zKn:=@Nat.and_two_pow_sub_one_eq_mod
abbrev zKp:=@beq_self_eq_true
abbrev zKq:=@Nat.le_add_right
abbrev zKr:=@List.modify_eq_take_cons_drop
abbrev zKs:=@List.getElem?_append
abbrev zKt:=@Bool.or_eq_false_iff
abbrev zKu:=@List.mem_of_mem_take
abbrev zKv:=@Array.getElem?_setIfInBounds
abbrev zKw:=@getD_set_ne
abbrev zKx:=@World.grownBy.trans
abbrev zKz:=@Bool.or_eq_true_iff
abbrev zK1:=@List.cons.injEq
abbrev zK2:=@List.mem_map_of_mem
abbrev zK3:=@UInt8.toNat_ofNat'
abbrev zK4:=@Array.ext_getElem?
abbrev zK5:=@Nat.le_of_eq
abbrev zK6:=@List.pairwise_cons
abbrev zK7:=@List.getElem?_take
abbrev zK8:=@Bool.and_assoc
abbrev zK9:=@Bool.not_eq_false
abbrev zLa:=@Nat.le_succ_of_le
abbrev zLb:=@Bool.false_or
abbrev zLc:=@List.map_id
abbrev zLd:=@Nat.one_mul
abbrev zLe:=@Nat.mul_one
abbrev zLf:=@List.range'_succ
abbrev zLg:=@List.ext_getElem
abbrev zLh:=@Ne.symm
abbrev zLi:=@Nat.mul_comm
abbrev zLj:=@wpAny_take
instance:Coe Nat Value:=⟨λn=>.int .i64 n⟩
instance:Coe Int Value:=⟨λn=>.int .i64 n⟩
instance:Coe Unit Value:=⟨λ_=>.int .i64 0⟩
instance:Coe String Value:=⟨λ_=>.slice none 0 0⟩
instance:Coe Char Value:=⟨λ_=>.string ⟨#[]⟩⟩
instance:Coe ByteArray Value:=⟨λs=>.string s⟩
instance:Coe World Nat:=⟨λw=>w.heap.size⟩
theorem nR {a b:Bool} (h:a=b):Ending.returned (.bool a)=.returned (.bool b):=by rw[h]
theorem gJ {k:IntKind} {a b:Int} (h:a=b):Ending.returned (.int k a)=.returned (.int k b):=by rw[h]
theorem Be {k:IntKind} {a b:Int} (h:a=b):Value.int k a=.int k b:=by rw[h]
def Rd (w:World) (B:Nat) (A:Option Addr) (cs:List Value):Prop:=
 cs=[]\/∃b o,A=some ⟨b,o,none⟩/\b<B/\∀(j:Nat) (u:Value),cs[j]? =some u->w.cell? ⟨b,o+j,none⟩=some u
section
variable {w w':World} {B B':Nat} {A:Option Addr} {cs:List Value}
theorem Rd.nil:Rd w B A []:=.inl rfl
theorem Rd.keep (h:Rd w B A cs) (c:∀b o,b<B->w'.cell? ⟨b,o,none⟩=w.cell? ⟨b,o,none⟩):Rd w' B A cs:=by
 rcases h with h|⟨b,o,a,hb,e⟩
 ·exact .inl h
 exact .inr ⟨b,o,a,hb,λj u d=>(c b _ hb).trans (e j u d)⟩
theorem Rd.more (h:Rd w B A cs) (c:B<=B'):Rd w B' A cs:=by
 rcases h with h|⟨b,o,a,hb,d⟩
 ·exact .inl h
 exact .inr ⟨b,o,a,zFs hb c,d⟩
theorem Rd.below (h:Rd w B A cs) (hb:Below B w w'):Rd w' B A cs:=h.keep λb o a=>hb.cell (p:=⟨b,o,none⟩) a
theorem Rd.at_ (h:Rd w B A cs) {j:Nat} (a:j<cs.length):∃b o,A=some ⟨b,o,none⟩/\b<B/\∀(j:Nat) (u:Value),cs[j]? =some u->w.cell? ⟨b,o+j,none⟩=some u:=by
 rcases h with h|h
 ·subst h;simp at a
 exact h
end
theorem bK {B:Nat} {w w':World} (hb:Below B w w'):∀b o,b<B->w'.cell? ⟨b,o,none⟩=w.cell? ⟨b,o,none⟩:=λb o h=>hb.cell (p:=⟨b,o,none⟩) h
theorem Gj {α β:Type} {n:Nat} (f:α->List β) (b:∀a,(f a).length=n) (l:List α) (k j:Nat) (c:k<l.length) (d:j<n):(l.flatMap f)[k*n+j]? =(f l[k])[j]? :=by
 induction l generalizing k with
 |nil=>simp at c
 |cons x l g=>
  rw[zGx];cases k with
  |zero=>simp[zKs,b,d]
  |succ k=>
   have e:(k+1)*n=k*n+n:=zJg k n;rw[zGd (by rw[b];omega),b,show(k+1)*n+j-n=k*n+j by omega]
   simpa using g k (by simpa using c)
theorem xq {α β:Type} {n:Nat} (f:α->List β) (b:∀a,(f a).length=n) (l:List α):(l.flatMap f).length=l.length*n:=by
 induction l with
 |nil=>simp
 |cons x l c=>rw[zGx,zFu,b,c,zFh,zJg];omega
theorem Rd.elem {α:Type} {w:World} {B:Nat} {A:Option Addr} {n:Nat} {f:α->List Value} (c:∀a,(f a).length=n) (q:0<n) {l:List α} (h:Rd w B A (l.flatMap f)) {k:Nat} (i:k<l.length):
  ∃b o,A=some ⟨b,o,none⟩/\b<B/\∀(j:Nat) (u:Value),(f l[k])[j]? =some u->w.cell? ⟨b,o+k*n+j,none⟩=some u:=by
 have p:k*n+n<=l.length*n:=by have:=zJq n (show k+1<=l.length by omega);rw[zJg]at this;exact this
 obtain⟨b,o,g,hb,m⟩:=h.at_ (j:=k*n) (by rw[xq f c];omega);refine⟨b,o,g,hb,λj u d=>?_⟩;have e:j<n:=by have:=(zFc.1 d).1;rw[c]at this;exact this
 rw[zJb];exact m _ u (by rw[Gj f c l k j i e];exact d)
theorem Rd.OL {α:Type} {w:World} {B:Nat} {A:Option Addr} {f:α->Value} {l:List α} (h:Rd w B A (l.map f)) {k:Nat} (a:k<l.length):
  ∃b o,A=some ⟨b,o,none⟩/\b<B/\w.cell? ⟨b,o+k,none⟩=some (f l[k]):=by
 obtain⟨b,o,c,hb,d⟩:=h.at_ (j:=k) (by simpa using a);exact⟨b,o,c,hb,d k _ (by simp[a])⟩
def Bk (w:World) (g:Nat) (t:TypeId) (cs:Array Value):Prop:=w.heap[g]? =some (.cells cs t (0,0))
section
variable {w w':World} {g:Nat} {t:TypeId} {cs:Array Value}
theorem Bk.lt (h:Bk w g t cs):g<w.heap.size:=by
 rcases zHu g w.heap.size with a|b
 ·exact a
 unfold Bk at h;rw[zHz b]at h;cases h
theorem Bk.cell (h:Bk w g t cs) (i:Nat):w.cell? ⟨g,i,none⟩=cs[i]? :=by
 unfold Bk at h;simp[World.cell?,h]
theorem Bk.frozen (h:Bk w g t cs) (i:Nat):w.frozen? ⟨g,i,none⟩=false:=by
 unfold Bk at h;simp[World.frozen?,h]
theorem Bk.new (w:World) (t:TypeId) (cs:Array Value):Bk (w.alloc (.cells cs t)) w.heap.size t cs:=heap_alloc_new w _
theorem Bk.newAt {w:World} {g:Nat} (a:g=w.heap.size) (t:TypeId) (cs:Array Value):Bk (w.alloc (.cells cs t)) g t cs:=by subst a;exact Bk.new w t cs
theorem Bk.drew (h:Bk w g t cs):Bk w.drew g t cs:=h
theorem Bk.alloc (h:Bk w g t cs) (o:Obj):Bk (w.alloc o) g t cs:=(zJ6 w o g h.lt).trans h
theorem Bk.put (h:Bk w g t cs) (i:Nat) (u:Value):Bk (w.setCell ⟨g,i,none⟩ u) g t (cs.setIfInBounds i u):=by
 unfold Bk at h⊢;simp[World.setCell,zKm,h]
theorem Bk.far (h:Bk w g t cs) {p:Addr} (a:g≠p.block) (u:Value):Bk (w.setCell p u) g t cs:=(zGt w p u g a).trans h
theorem Bk.below {B:Nat} (h:Bk w g t cs) (hb:Below B w w') (a:g<B):Bk w' g t cs:=(hb.block g a).trans h
theorem Bk.grown {a:Option Nat} (h:Bk w g t cs) (hb:w.grownBy w' a) (b:some g≠a):Bk w' g t cs:=(hb.block g h.lt b).trans h
end
section
variable {w w':World} {base e size n g t:Nat} {v:Value} {xs:List Value} {cs:Array Value}
theorem aK (h:w.ownsRow base e size v n xs):∃A c,v=.slice A n c/\n<=c:=by
 rcases h.2 with⟨rfl,rfl⟩|⟨g,b,a,rfl,_,_,d,_⟩
 ·exact⟨_,_,rfl,zFv _⟩
 exact⟨_,_,rfl,d⟩
theorem aN (h:w.ownsRow base e size v n xs) (a:Bk w g t cs) (b:e≠t):some g≠v.ownBlock:=by
 rcases h.2 with⟨rfl,_⟩|⟨f,d,c,rfl,_,i,_⟩
 ·simp[Value.ownBlock]
 intro j;have:g=f:=by simpa[Value.ownBlock]using j
 subst this;unfold Bk at a;rw[i]at a;injection a with a
 injection a with _ ht
 exact b ht
theorem own_ne (h:w.ownsRow base e size v n xs) {b i a k:Nat} {v':Value} {f:List Value} (l:w.ownsRow b i a v' k f) (d:e≠i):v.ownBlock=none\/v.ownBlock≠v'.ownBlock:=by
 rcases h.2 with⟨rfl,_⟩|⟨g,j,c,rfl,_,m,_⟩
 ·exact .inl rfl
 exact .inr (aN l (show Bk w g e c from m) (zLh d))
theorem bU (h:w.ownsRow base e size v n xs) {b f a g:Nat} {v':Value} {d:List Value} (j:w.ownsRow b f a v' g d) (c:e≠f) (i:w.grownBy w' v'.ownBlock):w'.ownsRow base e size v n xs:=
 h.kept i (own_ne h j c)
theorem Bf (h:w.ownsRow base e size v n xs) (c:Bk w g t cs) (a:e≠t) (i:Nat) (u:Value):(w.setCell ⟨g,i,none⟩ u).ownsRow base e size v n xs:=
 zGw h (λb=>aN h c a b.symm) u
theorem own_below {B:Nat} (h:w.ownsRow base e size v n xs) (hb:Below B w w') (c:∀k,v.ownBlock=some k->k<B):w'.ownsRow base e size v n xs:=by
 refine⟨h.1,?_⟩;rcases h.2 with l|⟨g,d,b,f,a,j,i⟩
 ·exact .inl l
 exact .inr ⟨g,d,b,f,a,(hb.block g (c g (by rw[f];rfl))).trans j,i⟩
theorem fM {A:Option Addr} {c:Nat} (h:w.ownsRow base e size (.slice A n c) n xs):Rd w w.heap.size A xs:=by
 rcases h.2 with⟨m,l⟩|⟨g,d,a,k,hb,i,_⟩
 ·subst l;exact .inl (zHa (by simpa using h.1))
 have b:A=some ⟨g,0,none⟩:=by injection k
 subst b;refine .inr ⟨g,0,rfl,(show Bk w g e a from i).lt,λj u f=>?_⟩;have:=h.cells (g:=g) rfl j u f;unfold Addr.add at this
 by_cases b:j=0
 ·subst b;simpa using this
 rw[zF2 b]at this;exact this
theorem eU {B:Nat} {a:World} (hb:Below B a w) (h:w.ownsRow base e size v n xs) (c:B<=base) (d:w.grownBy w' v.ownBlock) (b:B<=w.heap.size):Below B a w':=
 hb.grown d b λk f=>zFi c (h.lt k f).1
theorem bV {B:Nat} (h:w.ownsRow base e size v n xs) (d:B<=base):w.ownsRow B e size v n xs:=by
 refine⟨h.1,?_⟩;rcases h.2 with j|⟨g,c,b,i,a,f⟩
 ·exact .inl j
 exact .inr ⟨g,c,b,i,zFi d a,f⟩
theorem aT (h:w.ownsRow base e size v n xs) (hb:Below w w w'):w'.ownsRow base e size v n xs:=own_below h hb λk a=>(h.lt k a).2
theorem Bk.old (h:Bk w g t cs) (hb:Below w w w'):Bk w' g t cs:=h.below hb h.lt
theorem Rd.lit {w:World} {g:Nat} (b:g=w.heap.size) (cs:Array Value) (t:TypeId):Rd (w.alloc (.cells cs t)) (g+1) (some ⟨g,0,none⟩) cs.toList:=by
 refine .inr ⟨g,0,rfl,by omega,λj u a=>?_⟩;rw[zFr,(Bk.newAt b t cs).cell j]
 simpa using a
end
theorem Eb {P:Program} (w:World) (base:Nat) (t I e:TypeId) (i:TypeInfo) (z:Value) (size bytes:Nat) (y:P.underlying t=some (.slice e)) (C:P.info? e=some i) (K:i.zero=some z)
  (p:i.size=size) (H:i.bytes=bytes) (F:z.cells.size=size) (r:0<size)
  (v:Value) (n:Nat) (xs:List Value) (d:w.ownsRow base e size v n xs)
  (B:Nat) (A:Option Addr) (m c:Nat) (a:List Value) (J:Rd w B A a) (s:a.length=m*size) (N:∀u∈a,u.oneCell'=true)
  (D:n+m<=maxLen) (f:(n+m)*bytes<=140737488355328) (l:base<=w.heap.size):
  ∃v' w',(Builtin.append_ #[t,t] I #[v,.slice A m c]).run P w=.ok v' w'/\w'.ownsRow base e size v' (n+m) (xs++a)/\w.grownBy w' v.ownBlock/\
   (v'.ownBlock=v.ownBlock\/v'.ownBlock=some w.heap.size):=by
 have q:m=0->a=[]:=λk=>zHa (by rw[s,k,zHm])
 rcases A with _|x
 ·have E:m=0:=by
   rcases J with h|⟨_,_,h,_⟩
   ·rw[h]at s;rcases zJn m with k|k
    ·exact k
    have:=Nat.mul_pos k r;simp at s;omega
   cases h
  subst E;have k:=q rfl;subst k;refine⟨v,w,?_,by simpa using d,zF8 w _,.inl rfl⟩;rcases d.2 with⟨rfl,rfl⟩|⟨g,Q,M,rfl,_,_,E,_⟩
  ·simp[Builtin.append_,run_underlying y,sizeOf,typeInfo,C,Builtin.lenOf,Builtin.firstCells]
  simp[Builtin.append_,run_underlying y,sizeOf,typeInfo,C,Builtin.lenOf,Builtin.firstCells,E,storeCells]
 have k:∀j u,a[j]? =some u->w.cell? (x.add j)=some u:=by
  intro j u G;rcases J with h|⟨b,o,h,hb,O⟩
  ·rw[h]at G;simp at G
  obtain rfl:x=⟨b,o,none⟩:=by injection h
  have e:((⟨b,o,none⟩:Addr).add j)=⟨b,o+j,none⟩:=by unfold Addr.add;by_cases L:j=0<;>simp[L]
  rw[e];exact O j u G
 obtain⟨v',w',h,O,G,_,L⟩:=run_append_own_at (P:=P) w base t I e i z size bytes y C K p H F r v n xs d x m c a s k N D f l;exact⟨v',w',h,O,G,L⟩
theorem iH {P:Program} {w:World} {o:Oper} {a:Act} {K:Act->World->Prop} {Q:Exit->Act->World->Prop} (s x:Operand) (t:TypeId)
  (H:o.op=.call {callee:=.builtin .append,args:=#[s,x],argTypes:=#[t,t]})
  (base:Nat) (e:TypeId) (i:TypeInfo) (z:Value) (size bytes:Nat) (I:P.underlying t=some (.slice e)) (L:P.info? e=some i) (D:i.zero=some z)
  (g:i.size=size) (y:i.bytes=bytes) (r:z.cells.size=size) (p:0<size)
  (v:Value) (n:Nat) (xs:List Value) (E:a.eval s=v) (k:w.ownsRow base e size v n xs)
  (B:Nat) (A:Option Addr) (m c:Nat) (b:List Value) (N:a.eval x=.slice A m c) (J:Rd w B A b) (M:b.length=m*size) (F:∀u∈b,u.oneCell'=true)
  (q:n+m<=maxLen) (d:(n+m)*bytes<=140737488355328) (f:base<=w.heap.size)
  (h:∀j c' w',w'.ownsRow base e size (.slice j (n+m) c') (n+m) (xs++b)->w.grownBy w' v.ownBlock->((Value.slice j (n+m) c').ownBlock=v.ownBlock\/(Value.slice j (n+m) c').ownBlock=some w.heap.size)->K (a.put o.dst (.slice j (n+m) c')) w'):o.wp P a w K Q:=by
 obtain⟨v',w',l,C,G,O⟩:=Eb (P:=P) w base t o.type e i z size bytes I L D g y r p v n xs k B A m c b J M F q d f;unfold Oper.wp execOp;simp only[H,resolve,invoke,builtin,zH5,Sem.run_pure,Result.andThen_ok,zHp,zGq,zHc,E,N,l];obtain⟨j,c',rfl,_⟩:=aK C;exact h j c' w' C G O
theorem aU {P:Program} {w:World} {ops:Array Oper} {f:List Oper} {o:Oper} {a:Act} {Q:Exit->Act->World->Prop} (q:o.guard=none) (s x:Operand) (t:TypeId)
  (H:o.op=.call {callee:=.builtin .append,args:=#[s,x],argTypes:=#[t,t]})
  (base:Nat) (e:TypeId) (i:TypeInfo) (z:Value) (size bytes:Nat) (I:P.underlying t=some (.slice e)) (K:P.info? e=some i) (D:i.zero=some z)
  (j:i.size=size) (C:i.bytes=bytes) (y:z.cells.size=size) (p:0<size)
  (v:Value) (n:Nat) (xs:List Value) (E:a.eval s=v) (l:w.ownsRow base e size v n xs)
  (B:Nat) (A:Option Addr) (m c:Nat) (b:List Value) (N:a.eval x=.slice A m c) (J:Rd w B A b) (L:b.length=m*size) (F:∀u∈b,u.oneCell'=true)
  (r:n+m<=maxLen) (d:(n+m)*bytes<=140737488355328) (g:base<=w.heap.size)
  (h:∀k c' w',w'.ownsRow base e size (.slice k (n+m) c') (n+m) (xs++b)->w.grownBy w' v.ownBlock->((Value.slice k (n+m) c').ownBlock=v.ownBlock\/(Value.slice k (n+m) c').ownBlock=some w.heap.size)->wpList P ops Q f (a.put o.dst (.slice k (n+m) c')) w'):wpList P ops Q (o::f) a w:=
 zH8 q λ_ R=>iH s x t H base e i z size bytes I K D j C y p v n xs E l B A m c b N J L F r d g λk c' w' M G O=>R _ _ (h k c' w' M G O)
theorem Tu {W a b:World} {R:Prop} (h:Below W W a/\R) (hb:Below a a b):Below W W b:=h.1.trans (hb.mono h.1.size)
theorem Rd.bk {w:World} {g t B:Nat} {cs:Array Value} (h:Bk w g t cs) (b:g<B):Rd w B (some ⟨g,0,none⟩) cs.toList:=by
 refine .inr ⟨g,0,rfl,b,λj u a=>?_⟩;rw[zFr,h.cell j]
 simpa using a
theorem zc3 {w:World} {g:Nat} {t:TypeId} {cs:Array Value} (h:Bk w g t cs):w.cell? ⟨g,0,none⟩=cs[0]?/\w.cell? ⟨g,1,none⟩=cs[1]?/\w.cell? ⟨g,2,none⟩=cs[2]?:=⟨h.cell 0,h.cell 1,h.cell 2⟩
theorem zc4 {w:World} {g:Nat} {t:TypeId} {cs:Array Value} (h:Bk w g t cs):w.cell? ⟨g,0,none⟩=cs[0]?/\w.cell? ⟨g,1,none⟩=cs[1]?/\w.cell? ⟨g,2,none⟩=cs[2]?/\w.cell? ⟨g,3,none⟩=cs[3]?:=⟨h.cell 0,h.cell 1,h.cell 2,h.cell 3⟩
theorem zc5 {w:World} {g:Nat} {t:TypeId} {cs:Array Value} (h:Bk w g t cs):w.cell? ⟨g,0,none⟩=cs[0]?/\w.cell? ⟨g,1,none⟩=cs[1]?/\w.cell? ⟨g,2,none⟩=cs[2]?/\w.cell? ⟨g,3,none⟩=cs[3]?/\w.cell? ⟨g,4,none⟩=cs[4]?:=⟨h.cell 0,h.cell 1,h.cell 2,h.cell 3,h.cell 4⟩
theorem zc6 {w:World} {g:Nat} {t:TypeId} {cs:Array Value} (h:Bk w g t cs):w.cell? ⟨g,0,none⟩=cs[0]?/\w.cell? ⟨g,1,none⟩=cs[1]?/\w.cell? ⟨g,2,none⟩=cs[2]?/\w.cell? ⟨g,3,none⟩=cs[3]?/\w.cell? ⟨g,4,none⟩=cs[4]?/\w.cell? ⟨g,5,none⟩=cs[5]?:=⟨h.cell 0,h.cell 1,h.cell 2,h.cell 3,h.cell 4,h.cell 5⟩
theorem zc7 {w:World} {g:Nat} {t:TypeId} {cs:Array Value} (h:Bk w g t cs):w.cell? ⟨g,0,none⟩=cs[0]?/\w.cell? ⟨g,1,none⟩=cs[1]?/\w.cell? ⟨g,2,none⟩=cs[2]?/\w.cell? ⟨g,3,none⟩=cs[3]?/\w.cell? ⟨g,4,none⟩=cs[4]?/\w.cell? ⟨g,5,none⟩=cs[5]?/\w.cell? ⟨g,6,none⟩=cs[6]?:=⟨h.cell 0,h.cell 1,h.cell 2,h.cell 3,h.cell 4,h.cell 5,h.cell 6⟩
end Go.Proofs.YtbjnhllkdilpfaaGreat
