/- Part 8 of the proof. No conditions. -/
import Derived.Test.YtbjnhllkdilpfaaGreatZf07
import Derived.Test.YtbjnhllkdilpfaaGreatChecked
import Derived.Test.YtbjnhllkdilpfaaGreatZf06
set_option linter.unusedVariables false
set_option linter.unusedSimpArgs false
set_option maxRecDepth 10000
namespace Go.Proofs.YtbjnhllkdilpfaaGreat
open Go.RowKit _root_.Go.Proofs.Tryz
theorem XP (a b:Nat):((a:Int) !=(b:Int))=(a !=b):=by
 by_cases h:a=b
 ·subst h;simp
 have c:(a:Int)≠b:=by omega
 rw[zG1.2 h,zG1.2 c]
theorem um (a b:Nat):((a:Int)==(b:Int))=(a==b):=by
 by_cases h:a=b
 ·subst h;simp
 have c:(a:Int)≠b:=by omega
 rw[zFz.2 h,zFz.2 c]
section
variable {w:World} {b o:Nat} {v:Value} (h:w.cell? ⟨b,o,none⟩=some v)
include h
theorem lD:(Instr.loadAt 3 (.pointer (some ⟨b,o,none⟩))).run prog w=.ok v w:=by go_simp
theorem ld2:(Instr.loadAt 2 (.pointer (some ⟨b,o,none⟩))).run prog w=.ok v w:=by go_simp
theorem ES:(Instr.loadAt 118 (.pointer (some ⟨b,o,none⟩))).run prog w=.ok v w:=by go_simp
theorem I7:(Instr.loadAt 9 (.pointer (some ⟨b,o,none⟩))).run prog w=.ok v w:=by go_simp
theorem Gq:(Instr.loadAt 26 (.pointer (some ⟨b,o,none⟩))).run prog w=.ok v w:=by go_simp
theorem jD:(Instr.loadAt 59 (.pointer (some ⟨b,o,none⟩))).run prog w=.ok v w:=by go_simp
theorem ld36:(Instr.loadAt 36 (.pointer (some ⟨b,o,none⟩))).run prog w=.ok v w:=by go_simp
theorem XQ:(Instr.loadAt 58 (.pointer (some ⟨b,o,none⟩))).run prog w=.ok v w:=by go_simp
theorem MJ:(Instr.loadAt 60 (.pointer (some ⟨b,o,none⟩))).run prog w=.ok v w:=by go_simp
theorem pX:(Instr.loadAt 65 (.pointer (some ⟨b,o,none⟩))).run prog w=.ok v w:=by go_simp
theorem ld27:(Instr.loadAt 27 (.pointer (some ⟨b,o,none⟩))).run prog w=.ok v w:=by go_simp
theorem zAt:(Instr.loadAt 50 (.pointer (some ⟨b,o,none⟩))).run prog w=.ok v w:=by go_simp
theorem O5:(Instr.loadAt 101 (.pointer (some ⟨b,o,none⟩))).run prog w=.ok v w:=by go_simp
theorem XR:(Instr.loadAt 83 (.pointer (some ⟨b,o,none⟩))).run prog w=.ok v w:=by go_simp
theorem ld23:(Instr.loadAt 23 (.pointer (some ⟨b,o,none⟩))).run prog w=.ok v w:=by go_simp
end
end Go.Proofs.YtbjnhllkdilpfaaGreat
namespace Go.Proofs.YtbjnhllkdilpfaaGreat
open Go.RowKit Go.WideMaps Go.Maps _root_.Go.Proofs.Tryz
def Bo (pre:List (List UInt8)):List (List UInt8)->Bool
 |[]=>false
 |x::r=>if nameB x then(if pre.contains x then true else Bo (pre++[x]) r)else true
def Eg (l:List (List UInt8)):Bool:=Bo [] l
theorem Gz (A:Option Addr) (c:Nat) (l:List ByteArray) (B:Nat) (w:World) (h:Rd w B A (l.map .string)) (v:B<=w.heap.size) (C:l.length<=maxLen):
  Calls prog 64 #[.slice A l.length c] w λe w'=>e=.returned (.bool (Eg (l.map (·.toList))))/\Below w w w':=by
 unfold maxLen at C
 go_enter func64,ntmps64
 go_wp2
 go_loopw[8] (λi wr=>∃k:Nat,k<=l.length/\i=.int .i64 k/\Below w w wr/\Hid (Eg (l.map (·.toList))=Bo ((l.take k).map (·.toList)) ((l.drop k).map (·.toList)))) (λi _=>l.length-(intOf i).toNat)
 case atStart=>exact⟨0,zFj _,rfl,zGp _ _,rfl⟩
 case round=>
  obtain⟨k,H,rfl,d,a⟩:=hrel;obtain⟨u,rfl⟩:∃u:World,u=wr:=⟨_,rfl⟩
  by_cases p:k<l.length
  ·obtain⟨b,o,f,hb,m⟩:=(h.below (d.mono v)).OL p;rw[zFk p,zGq,Bo]at a;obtain⟨x,g⟩:∃x,x=l[k]:=⟨_,rfl⟩
   rw[<-g]at a m;have z:=zH g;clear g;have g:=f;rw[f];have D:=zH f;clear f g;go_wp2_with fail
   refine(pM _ _).mono ?_;rintro e w2 ⟨rfl,n⟩;have r:=d.trans (n.mono d.size);clear n m;cases hnm:nameB x.toList
   ·go_wp2
    go_ret
    exact⟨nR (by rw[a.out,hnm];rfl),r⟩
   rw[hnm,zF3 rfl]at a;clear hnm;go_wp2
   go_loop[5] (λi=>∃j:Nat,j<=k/\i=.int .i64 j/\Hid (((l.take k).map (·.toList)).contains x.toList=(((l.take k).drop j).map (·.toList)).contains x.toList)) (λi=>k-(intOf i).toNat)
   case atStart=>exact⟨0,zFj _,rfl,rfl⟩
   case round=>
    obtain⟨j,G,rfl,f⟩:=hrel
    by_cases F:j<k
    ·obtain⟨b2,I,g,n,t⟩:=(h.below (r.mono v)).OL (k:=j) (by omega);rw[D.out]at g;injection g with g
     injection g with e1 e2
     subst e1;subst e2;have s:j<(l.take k).length:=by rw[zG9];omega
     rw[zFk s,zGq,List.contains_cons,List.getElem_take]at f;obtain⟨y,m⟩:∃y,y=l[j]:=⟨_,rfl⟩
     rw[<-m]at f t;clear m;have E:(j:Int)<(l.length:Int):=by omega
     go_wp2
     ·go_ret
      have q:(y.toList==x.toList)=true:=by assumption
      have m:(x.toList==y.toList)=true:=by rw[zFt]at q⊢;exact q.symm
      refine⟨nR ?_,r⟩;rw[a.out,f.out,m,Bool.true_or];rfl
     have q:(y.toList==x.toList)=false:=by assumption
     have m:(x.toList==y.toList)=false:=by rw[zFz]at q⊢;exact q.symm
     go_round
     case rel=>exact⟨j+1,by omega,by go_num,by rw[f.out,m,zLb];rfl⟩
     case measure=>simp[intOf];omega
    go_wp2
    have m:((l.take k).map (·.toList)).contains x.toList=false:=by
     rw[f.out,zFq (by rw[zG9];omega)];rfl
    have q:=zH m;clear m;go_roundw
    case rel=>
     refine⟨k+1,by omega,by go_num,r,?_⟩;have e:(l.take (k+1)).map (·.toList)=(l.take k).map (·.toList)++[x.toList]:=by rw[zGc p,zGr,<-z.out];rfl
     have h:=a.out;rw[q.out]at h;rw[e];exact h
    case measure=>simp[intOf];omega
  go_wp2
  go_ret
  exact⟨nR (by rw[a.out,zFq (by omega)];rfl),d⟩
end Go.Proofs.YtbjnhllkdilpfaaGreat
namespace Go.Proofs.YtbjnhllkdilpfaaGreat
open Go.RowKit _root_.Go.Proofs.Tryz
@[go_sem] theorem zBc (k b:Int) (w:World):(Instr.field 120 (.agg #[k,.int .u64 b]) 0).run prog w=.ok (.int .i64 k) w:=by kernel_rfl
@[go_sem] theorem zBd (k b:Int) (w:World):(Instr.field 120 (.agg #[k,.int .u64 b]) 1).run prog w=.ok (.int .u64 b) w:=by kernel_rfl
@[go_sem] theorem zBe (k b:Int) (w:World):(Instr.field 160 (.agg #[k,.int .u64 b]) 0).run prog w=.ok (.int .i64 k) w:=by kernel_rfl
@[go_sem] theorem zBf (k b:Int) (w:World):(Instr.field 160 (.agg #[k,.int .u64 b]) 1).run prog w=.ok (.int .u64 b) w:=by kernel_rfl
inductive T
 |mk (op kind:Int) (args:List T) (vk:Int) (vb:Nat) (pos attr:Int)
def eP:Nat->ah->T
 |0,_=>.mk 0 0 [] 0 0 0 0
 |d+1,.mk op kind A c args vk vb pos a=>.mk op kind (args.map (eP d)) vk vb pos a
theorem JK {w:World} {B:Nat}:∀{d:Nat} {n:ah},yT d n w B->eP (d+1) n=eP d n
 |0,_,h=>h.elim
 |d+1,.mk op kind A c b vk vb pos a,h=>by
  show T.mk op kind (b.map (eP (d+1))) vk vb pos a=T.mk op kind (b.map (eP d)) vk vb pos a
  rw[zJw λx e=>JK (h.2.2.2 x e)]
def eG (S:Nat->Prop) (d:Nat) (t:T) (cs:List Value) (w:World):Prop:=∃n:ah,cs=n.cells/\eP d n=t/\okS S d n w
theorem okS.up {w:World} {S:Nat->Prop}:∀{d:Nat} {n:ah},okS S d n w->okS S (d+1) n w
 |0,_,h=>h.elim
 |d+1,.mk ..,h=>⟨h.1,h.2.1,h.2.2.1,λx a=>(h.2.2.2 x a).up⟩
theorem eG.up {S:Nat->Prop} {d:Nat} {t:T} {cs:List Value} {w:World}:eG S d t cs w->eG S (d+1) t cs w:=λ⟨n,b,c,a⟩=>⟨n,b,(JK a.n).trans c,a.up⟩
theorem eG.keep {S S':Nat->Prop} {d:Nat} {t:T} {cs:List Value} {w w':World} (a:∀b,S b->b<w.heap.size->S' b/\b<w'.heap.size/\w'.heap[b]? =w.heap[b]?):eG S d t cs w->eG S' d t cs w':=λ⟨n,e,f,c⟩=>⟨n,e,f,c.keep a⟩
theorem eG.old {S:Nat->Prop} {d:Nat} {t:T} {cs:List Value} {w w':World} (h:eG S d t cs w) (hb:Below w w w'):eG S d t cs w':=h.keep λb c a=>⟨c,zFs a hb.size,hb.block b a⟩
theorem eG.seven {S:Nat->Prop} {d:Nat} {t:T} {cs:List Value} {w:World} (h:eG S d t cs w):∃e k b g j f i,cs=[e,k,b,g,j,f,i]/\∀u∈cs,u.oneCell'=true:=by
 obtain⟨⟨op,kind,A,c,b,vk,vb,pos,a⟩,rfl,_,_⟩:=h;exact⟨_,_,_,_,_,_,_,rfl,by intro u e;simp[ah.cells]at e;rcases e with rfl|rfl|rfl|rfl|rfl|rfl|rfl<;>rfl⟩
theorem eG.leaf (S:Nat->Prop) (w:World) (op kind vk:Int) (vb:Nat) (pos a:Int) (h:vb<18446744073709551616) (d:Nat):eG S (d+1) (.mk op kind [] vk vb pos a) [.int .i64 op,.int .i64 kind,.slice none 0 0,.int .i64 vk,.int .u64 vb,.int .i64 pos,.int .i64 a] w:=
 ⟨.mk op kind none 0 [] vk vb pos a,rfl,rfl,.inl rfl,zFj _,h,λx b=>absurd b (by simp)⟩
theorem Hq {w w2:World} {B C:Nat}:∀{d:Nat} {x y:ah},yT d x w B->yT d y w2 C->Nu d x y->eP d x=eP d y
 |0,_,_,h,_,_=>h.elim
 |d+1,.mk op kind A c f vk vb pos a,.mk l j F c' b v q k E,h,s,m=>by
  obtain⟨n,z,o,D,r,p,u,t⟩:=m
  show T.mk _ _ _ _ _ _ _=T.mk _ _ _ _ _ _ _
  have:f.map (eP d)=b.map (eP d):=by
   apply zLg (by simpa using u)
   intro i g e;simp only[zF5]at g e;rw[zH4,zH4];exact Hq (h.2.2.2 _ (zFe g)) (s.2.2.2 _ (zFe e)) (t i _ _ (zAg g) (zAg e))
  rw[this,n,z,o,D,r,p]
structure qh where
 type:Int
 gs:List T
structure VG where
 branch:Int
 cs:List T
 bars:List qh
structure fQ where
 parent:Int
 type:Int
 many:Bool
 window:Int
 bars:List qh
 lv:List T
 gs:List T
 ends:List VG
structure Z4 where
 aS:Int
 keys:List Int
 states:List fQ
end Go.Proofs.YtbjnhllkdilpfaaGreat
