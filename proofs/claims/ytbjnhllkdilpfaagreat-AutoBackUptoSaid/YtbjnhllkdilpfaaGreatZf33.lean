/- Part 33 of the proof. No conditions. -/
import Derived.Test.YtbjnhllkdilpfaaGreatZf29
set_option linter.unusedVariables false
set_option linter.unusedSimpArgs false
set_option maxRecDepth 100000
set_option maxHeartbeats 8000000
namespace Go.Proofs.YtbjnhllkdilpfaaGreat
open Go.RowKit _root_.Go.Proofs.Tryz
theorem Hg (w:World) {p q:Addr} (u v:Value) (h:p.block≠q.block):(w.setCell p u).setCell q v=(w.setCell q v).setCell p u:=by
 unfold World.setCell;simp only[World.mk.injEq,and_self,and_true,true_and]
 apply zK4
 intro i;simp only[zKm]
 by_cases a:p.block=i
 ·have b:¬q.block=i:=λe=>h (a.trans e.symm)
  simp[a,b]
 simp[a]
def zi (w:World) (g:Nat):Nat->List Value->World
 |_,[]=>w
 |o,v::r=>zi (w.setCell ⟨g,o,none⟩ v) g (o+1) r
theorem FI {g:Nat} {q:Addr} {v:Value} (h:q.block≠g):∀(a:List Value) (o:Nat) (w:World),zi (w.setCell q v) g o a=(zi w g o a).setCell q v
 |[],_,_=>rfl
 |d::r,o,w=>by
  unfold zi;rw[Hg w v d h];exact FI h r (o+1) _
theorem sc_C {g o:Nat} {t:TypeId}:∀(a:List Value) (i:Nat) (cs:Array Value) (w:World),Bk w g t cs->o+i+a.length<=cs.size->a.all Value.oneCell'=true->(storeCells ⟨g,o,none⟩ a i).run prog w=.ok () (zi w g (o+i) a)
 |[],i,cs,w,_,_,_=>by simp[storeCells,zi]
 |v::r,i,cs,w,h,b,a=>by
  simp only[List.all_cons,zFn]at a;simp only[zFh]at b;rw[IL h (by omega) a.1,sc_C r (i+1) _ _ (h.put (o+i) v) (by simp;omega) a.2];rfl
theorem Vd {g o n:Nat} {t d:TypeId} {cs:Array Value} {w:World} (b:∀w,(sizeOf d).run prog w=.ok n w) (h:Bk w g t cs) (a:List Value) (i:a.length=n) (j:o+n<=cs.size) (f:a.all Value.oneCell'=true):
  (Instr.storeAt d (.pointer (some ⟨g,o,none⟩)) (.agg a.toArray)).run prog w=.ok () (zi w g o a)/\qC w g t (BJ cs o a) (zi w g o a):=by
 obtain⟨w',c,k⟩:=BL b h a i j f
 have e:(Instr.storeAt d (.pointer (some ⟨g,o,none⟩)) (.agg a.toArray)).run prog w=.ok () (zi w g o a):=by
  rw[<-Nat.add_zero o,<-sc_C (o:=o) a 0 cs w h (by omega) f];simp[Instr.storeAt,storeVar,Instr.sureAddr,b,Value.cells,i]
 rw[e]at c;injection c with _ c
 exact⟨e,c▸k⟩
theorem zEt:ZL 59 122 7 72:=⟨underlying59,⟨.agg #[(),(),"",(),.int .u64 0,(),()],by kernel_rfl,rfl⟩,by decide⟩
theorem jF {a:Act} {d e:Nat} {v:Value} (h:d≠e):(a.put (some d) v).eval (.tmp e)=a.eval (.tmp e):=by
 simp[Act.put,Act.eval,zGk,zKv,h]
theorem yg {a:Act} {d:Nat} {v:Value} (h:d<a.tmps.size):(a.put (some d) v).eval (.tmp d)=v:=by
 simp[Act.put,Act.eval,zGk,zKv,h]
theorem tV {a:Act} {d:Option Nat} {v:Value}:(a.put d v).tmps.size=a.tmps.size:=by cases d<;>simp[Act.put]
theorem Ku {B g n c:Nat} {xs m b:List Value} {w:World} (h:w.ownsRow B 122 7 (.slice (some ⟨g,0,none⟩) (n+1) c) (n+1) (xs++m)) (s:m.length=7) (f:b.length=7) (t:b.all Value.oneCell'=true):
  (Instr.storeAt 122 (.pointer (some ⟨g,n*7,none⟩)) (.agg b.toArray)).run prog w=.ok () (zi w g (n*7) b)/\(zi w g (n*7) b).ownsRow B 122 7 (.slice (some ⟨g,0,none⟩) (n+1) c) (n+1) (xs++b)/\w.grownBy (zi w g (n*7) b) (some g)/\(zi w g (n*7) b).heap.size=w.heap.size:=by
 have y:=h.1;rw[zFu,s]at y;rcases h.2 with⟨_,D⟩|⟨C,z,d,x,hb,u,q,j,a,l⟩
 ·omega
 injection x with e1 e2 e3
 injection e1 with e1
 injection e1 with e1
 subst e1 e3;have k:Bk w g 122 d:=u;obtain⟨v,p⟩:=Vd (o:=n*7) (n:=7) (aY zEt) k b f (by rw[a];omega) t;refine⟨v,⟨by rw[zFu,f];omega,.inr ⟨g,c,_,rfl,hb,p.bk,q,j,by rw[EJ];exact a,?_⟩⟩,p.grown,p.size⟩;have r:d.toList.length=c*7:=by simp[a]
 have A:xs=d.toList.take (n*7):=by
  have e:(xs++m).take (n*7)=xs:=by rw[List.take_append_of_le_length (by omega),zHv (by omega)]
  rw[<-l,List.take_take]at e;rw[<-e]
  congr 1
  omega
 rw[yL _ _ _ (by rw[f,a];omega),A]
 apply zJ1
 intro i;simp only[zK7,zKs,zFu,zG9,zHd,f]
 (repeat' split)<;>first|rfl|(exfalso;omega)|(congr 1;omega)|exact(zG7 (by omega)).symm|skip
section
variable {P:Program} {ops:Array Oper} {Q:Exit->Act->World->Prop}
theorem yh {i:Nat} {o:Oper} {K:Act->World->Prop} {a:Act} {w:World} (b:ops[i]? =some o) (c:o.guard=none) (h:o.wp P a w K Q):wpOp P ops Q i K a w:=by
 unfold wpOp;rw[b];simp only[Region.wanted,c,if_true];exact .inl h
theorem PR {o:Oper} {K:Act->World->Prop} {a:Act} {w w':World} {t:TypeId} {x y:Operand} {X Y:Value} (b:o.op=.store t x y) (d:a.eval x=X) (c:a.eval y=Y) (e:(Instr.storeAt t X Y).run P w=.ok () w') (h:K (a.put o.dst undef) w'):o.wp P a w K Q:=by
 unfold Oper.wp;simp[execOp,b,d,c,e,Result.andThen];exact h
def tX (ld:Array Bool) (l:List Nat):Array Bool:=l.foldl (λld i=>ld.setIfInBounds i true) ld
def tkB (ops:Array Oper) (ld:Array Bool) (i:Nat):Bool:=Region.free .any ops ld i&&(Region.ready .any ops ld).contains i
def appB (ops:Array Oper) (ld:Array Bool) (k:Nat):Bool:=Region.noSelect ops&&(Region.ready .any ops ld==[k])&&tkB ops (tX ld [k]) (k+1)&&tkB ops (tX ld [k,k+1]) (k+3)&&tkB ops (tX ld [k,k+1,k+3]) (k+4)&&(Region.ready .any ops (tX ld [k,k+1,k+3,k+4])==[k+2,k+5])&&
 (Region.ready .any ops (tX ld [k,k+1,k+3,k+4,k+2])==[k+5])&&(Region.ready .any ops (tX ld [k,k+1,k+3,k+4,k+5])==[k+2])&&(Region.ready .any ops (tX ld [k,k+1,k+3,k+4,k+2,k+5])==[])&&(Region.ready .any ops (tX ld [k,k+1,k+3,k+4,k+5,k+2])==[])
def slB (z d0 d1 d3 d4 dl de dp:Nat):Bool:=decide (d0<z)&&decide (d1<z)&&decide (d3<z)&&decide (d4<z)&&(d0 !=dl)&&(d0 !=de)&&(d0 !=dp)&&(d0 !=d1)&&(d0 !=d3)&&(d0 !=d4)&&(d1 !=de)&&(d1 !=dp)&&(d1 !=d3)&&(d1 !=d4)&&(d3 !=de)&&(d3 !=d4)&&(d4 !=de)
end
theorem Ve {ev:Operand->Value} {d:Option Nat} {x y:Operand} {t:TypeId} {p:String} {a:Array Edge} {g n c:Nat} (e:ev x=.slice (some ⟨g,0,none⟩) (n+1) c) (b:ev y=.int .i64 (n:Nat)) (w:World):
  (execOp ev ⟨d,.indexAddr 59 x y,t,p,a,none⟩).run prog w=.ok (.value (.pointer (some ⟨g,n*7,none⟩))) w:=by
 go_simp;intro h;omega
theorem PU {ev:Operand->Value} {d:Option Nat} {x:Operand} {t:TypeId} {p:String} {a:Array Edge} {A:Addr} (b:ev x=.pointer (some A)) (w:World):
  (execOp ev ⟨d,.nilCheck x,t,p,a,none⟩).run prog w=.ok (.value (.pointer (some A))) w:=by
 go_simp
theorem YE {ev:Operand->Value} {d:Option Nat} {x:Operand} {t:TypeId} {p:String} {a:Array Edge} {g o:Nat} {C:Bool} (b:ev x=.pointer (some ⟨g,o,none⟩)) (w:World):
  (execOp ev ⟨d,.fieldAddr 69 x (bif C then 3 else 2),t,p,a,none⟩).run prog w=.ok (.value (.pointer (some ⟨g,o+bif C then 3 else 2,none⟩))) w:=by
 cases C<;>go_simp
theorem PV {g o n c:Nat} {A:Option Addr} {u:Value} {w:World} (h:w.cell? ⟨g,o,none⟩=some u) (a:w.frozen? ⟨g,o,none⟩=false):
  (Instr.storeAt 59 (.pointer (some ⟨g,o,none⟩)) (.slice A n c)).run prog w=.ok () (w.setCell ⟨g,o,none⟩ (.slice A n c)):=by
 go_simp
def Vf (c:Bool):Nat:=bif c then 3 else 2
abbrev sZ:Spec:=.st (λv w=>∃g,v=.slice (some ⟨g,0,none⟩) 1 1/\Bk w g 122 #[(),(),"",(),.int .u64 0,(),()]) λ_ _ _ hb ⟨g,h1,h2⟩=>⟨g,h1,h2.old hb⟩
section
variable {ops:Array Oper} {Q:Exit->Act->World->Prop} {f:Nat} {ld:Array Bool} {a:Act} {w:World} {k k2 k5 d0 d1 d3 d4 dl de ds dx dp B gz n c gp o g9 c9:Nat} {C:Bool} {A:Option Addr} {xs nd:List Value} {u:Value} {y0 y1 y2 y3 y4 y5:TypeId} {q0 q1 q2 q3 q4 q5:String} {f0 f1 f2 f3 f4 f5:Array Edge}
theorem FK (H:ops[k]? =some ⟨some d0,.call {callee:=.builtin .append,args:=#[.tmp ds,.tmp dx],argTypes:=#[59,59]},y0,q0,f0,none⟩) (b1:Region.ready .any ops ld=[k])
  (K:a.eval (.tmp ds)=.slice A n c) (L:a.eval (.tmp dx)=.slice (some ⟨gz,0,none⟩) 1 1)
  (p:w.ownsRow B 122 7 (.slice A n c) n xs) (y:Bk w gz 122 #[(),(),"",(),.int .u64 0,(),()]) (M:n<=1000000000) (E:B<=w.heap.size)
  (z:w.cell? ⟨gp,o,none⟩=some u) (t:w.frozen? ⟨gp,o,none⟩=false) (q:some gp≠(Value.slice A n c).ownBlock)
  (I:∀(g9 c9:Nat) (j:World),j.ownsRow B 122 7 (.slice (some ⟨g9,0,none⟩) (n+1) c9) (n+1) (xs++[.int .i64 0,.int .i64 0,.slice none 0 0,.int .i64 0,.int .u64 0,.int .i64 0,.int .i64 0])->w.grownBy j (Value.slice A n c).ownBlock->(some g9=(Value.slice A n c).ownBlock\/g9=w.heap.size)->
   gp≠g9->gp<j.heap.size->j.cell? ⟨gp,o,none⟩=some u->j.frozen? ⟨gp,o,none⟩=false->wpAny prog .any ops Q f (ld.setIfInBounds k true) (a.put (some d0) (.slice (some ⟨g9,0,none⟩) (n+1) c9)) j):
  wpAny prog .any ops Q (f+1) ld a w:=by
 obtain⟨F,D,v,x,J⟩:=zG4 (show(prog.info? 122).map (λi=>(i.zero,i.size,i.bytes))=some (some (.agg #[(),(),"",(),.int .u64 0,(),()]),7,72) by kernel_rfl);refine wpAny_all b1 (by simp) λi b=>?_
 rw[zG3]at b;rw[b];clear b i;refine yh H rfl ?_;refine iH (.tmp ds) (.tmp dx) 59 rfl B 122 F _ 7 72 underlying59 D v x J rfl (by decide) _ n _ K p w.heap.size (some ⟨gz,0,none⟩) 1 1 _ L (Rd.bk y y.lt) rfl (by intro u C;simp at C;rcases C with rfl|rfl|rfl|rfl|rfl|rfl|rfl<;>rfl) (by unfold maxLen;omega) (by omega) E ?_;intro G c9 j b l r
 obtain⟨g9,rfl⟩:∃g9,G=some ⟨g9,0,none⟩:=by
  rcases b.2 with⟨_,m⟩|⟨g,h,e,d,_⟩
  ·omega
  injection d with d
  exact⟨g,d⟩
 have s:gp<w.heap.size:=zHs _ _ z
 have m:some g9=(Value.slice A n c).ownBlock\/g9=w.heap.size:=by
  rcases r with h|h
  ·exact .inl h
  have h:some g9=some w.heap.size:=h;injection h with h
  exact .inr h
 have d:=l.block gp s q;exact I g9 c9 j b l m (λe=>m.elim (λh=>q (by rw[e];exact h)) (by omega)) (zFs s l.size) ((zJe d).trans z) ((zJy d).trans t)
theorem FM (F:ops[k2]? =some ⟨none,.store 122 (.tmp d1) (.tmp de),y2,q2,f2,none⟩) (E:ops[k5]? =some ⟨none,.store 59 (.tmp d4) (.tmp d0),y5,q5,f5,none⟩)
  (hb:((Region.ready .any ops ld==[k2,k5])&&(Region.ready .any ops (ld.setIfInBounds k2 true)==[k5])&&(Region.ready .any ops (ld.setIfInBounds k5 true)==[k2])&&(Region.ready .any ops ((ld.setIfInBounds k2 true).setIfInBounds k5 true)==[])&&(Region.ready .any ops ((ld.setIfInBounds k5 true).setIfInBounds k2 true)==[]))=true)
  (u0:a.eval (.tmp d0)=.slice (some ⟨g9,0,none⟩) (n+1) c9) (u1:a.eval (.tmp d1)=.pointer (some ⟨g9,n*7,none⟩)) (A:a.eval (.tmp de)=.agg nd.toArray) (u4:a.eval (.tmp d4)=.pointer (some ⟨gp,o,none⟩))
  (c:w.ownsRow B 122 7 (.slice (some ⟨g9,0,none⟩) (n+1) c9) (n+1) (xs++[.int .i64 0,.int .i64 0,.slice none 0 0,.int .i64 0,.int .u64 0,.int .i64 0,.int .i64 0])) (q:nd.length=7) (C:nd.all Value.oneCell'=true)
  (g:gp≠g9) (z:gp<w.heap.size) (D:w.cell? ⟨gp,o,none⟩=some u) (m:w.frozen? ⟨gp,o,none⟩=false)
  (H:∀b:World,b.ownsRow B 122 7 (.slice (some ⟨g9,0,none⟩) (n+1) c9) (n+1) (xs++nd)->w.grownBy b (some g9)->b.heap.size=w.heap.size->Q .normal a (b.setCell ⟨gp,o,none⟩ (.slice (some ⟨g9,0,none⟩) (n+1) c9))):
  wpAny prog .any ops Q (f+2) ld a w:=by
 simp only[zFn,zFt]at hb;obtain⟨⟨⟨⟨I,G⟩,y⟩,v⟩,r⟩:=hb;obtain⟨t,x,p,s⟩:=Ku c rfl q C;have d:=H _ x p s;refine wpAny_all I (by simp) λi k=>?_
 simp only[zF6,zGi,zHt]at k;rcases k with k|k
 ·rw[k];refine yh F rfl (PR rfl u1 A t ?_);refine wpAny_all G (by simp) λj l=>?_
  rw[zG3]at l;rw[l];have b:=p.block gp z (λe=>g (by injection e));exact yh E rfl (PR rfl u4 u0 (PV ((zJe b).trans D) ((zJy b).trans m)) (wpAny_done v d _))
 rw[k];refine yh E rfl (PR rfl u4 u0 (PV D m) ?_);refine wpAny_all y (by simp) λj l=>?_
 rw[zG3]at l;rw[l];have h:=zGw c (λe=>g (by injection e with e;exact e.symm)) (.slice (some ⟨g9,0,none⟩) (n+1) c9) (a:=⟨gp,o,none⟩);obtain⟨e,_,_,_⟩:=Ku h rfl q C;rw[FI g]at e;exact yh F rfl (PR rfl u1 A e (wpAny_done r d _))
theorem qZ
  (hs:ops.toList.drop k=[⟨some d0,.call {callee:=.builtin .append,args:=#[.tmp ds,.tmp dx],argTypes:=#[59,59]},y0,q0,f0,none⟩,⟨some d1,.indexAddr 59 (.tmp d0) (.tmp dl),y1,q1,f1,none⟩,⟨none,.store 122 (.tmp d1) (.tmp de),y2,q2,f2,none⟩,
   ⟨some d3,.nilCheck (.tmp dp),y3,q3,f3,none⟩,⟨some d4,.fieldAddr 69 (.tmp d3) (bif C then 3 else 2),y4,q4,f4,none⟩,⟨none,.store 59 (.tmp d4) (.tmp d0),y5,q5,f5,none⟩])
  (hb:appB ops ld k=true) (P:slB a.tmps.size d0 d1 d3 d4 dl de dp=true) (q:∀c (b:Act) (d:Nat) v w,Q (.panic c) (b.put (some d) v) w->Q (.panic c) b w)
  (es:a.eval (.tmp ds)=.slice A n c) (ex:a.eval (.tmp dx)=.slice (some ⟨gz,0,none⟩) 1 1) (el:a.eval (.tmp dl)=.int .i64 (n:Nat)) (ee:a.eval (.tmp de)=.agg nd.toArray) (ep:a.eval (.tmp dp)=.pointer (some ⟨gp,o,none⟩))
  (p:w.ownsRow B 122 7 (.slice A n c) n xs) (hz:Bk w gz 122 #[(),(),"",(),.int .u64 0,(),()]) (E:nd.length=7) (h1:nd.all Value.oneCell'=true) (hn:n<=1000000000) (hB:B<=w.heap.size)
  (hc:w.cell? ⟨gp,o+Vf C,none⟩=some u) (z:w.frozen? ⟨gp,o+Vf C,none⟩=false) (G:some gp≠(Value.slice A n c).ownBlock)
  (hK:∀(g9 c9:Nat) (l m:World),l.ownsRow B 122 7 (.slice (some ⟨g9,0,none⟩) (n+1) c9) (n+1) (xs++[.int .i64 0,.int .i64 0,.slice none 0 0,.int .i64 0,.int .u64 0,.int .i64 0,.int .i64 0])->w.grownBy l (Value.slice A n c).ownBlock->(some g9=(Value.slice A n c).ownBlock\/g9=w.heap.size)->
   m.ownsRow B 122 7 (.slice (some ⟨g9,0,none⟩) (n+1) c9) (n+1) (xs++nd)->l.grownBy m (some g9)->m.heap.size=l.heap.size->
   Q .normal ((((a.put (some d0) (.slice (some ⟨g9,0,none⟩) (n+1) c9)).put (some d1) (.pointer (some ⟨g9,n*7,none⟩))).put (some d3) (.pointer (some ⟨gp,o,none⟩))).put (some d4) (.pointer (some ⟨gp,o+Vf C,none⟩))) (m.setCell ⟨gp,o+Vf C,none⟩ (.slice (some ⟨g9,0,none⟩) (n+1) c9))):
  wpAny prog .any ops Q (f+6) ld a w:=by
 have j:∀i,ops[k+i]? =(ops.toList.drop k)[i]? :=λi=>by simp
 rw[hs]at j;have X:=j 0;have Z:=j 1;have Y:=j 2;have S:=j 3;have U:=j 4;have W:=j 5;simp only[Nat.add_zero,zGe,zGg]at X Z Y S U W;simp only[appB,tkB,tX,List.foldl_cons,List.foldl_nil,zFn,zFt]at hb;obtain⟨⟨⟨⟨⟨⟨⟨⟨⟨s,b1⟩,b2,b3⟩,b4,b5⟩,b6,b7⟩,b8⟩,b9⟩,J⟩,F⟩,x⟩:=hb;simp only[slB,zFn,zF9,zG1,ne_eq]at P;obtain⟨⟨⟨⟨⟨⟨⟨⟨⟨⟨⟨⟨⟨⟨⟨⟨R,z1⟩,z3⟩,z4⟩,n1⟩,n2⟩,n3⟩,n4⟩,n5⟩,n6⟩,n7⟩,n8⟩,n9⟩,I⟩,r⟩,a0⟩,y⟩:=P;refine FK X b1 es ex p hz hn hB hc z G λg9 c9 l g K t yX M L N=>?_
 refine zLj (i:=k+1) (v:=.pointer (some ⟨g9,n*7,none⟩)) Z s b2 b3 (λc' O w' h=>q _ _ _ _ _ h) (Or.inl ⟨by simp[Region.wanted],Ve (yg R) ((jF n1).trans el)⟩) ?_;refine zLj (i:=k+3) (v:=.pointer (some ⟨gp,o,none⟩)) S s b4 b5 (λc' O w' h=>q _ _ _ _ _ h) (Or.inl ⟨by simp[Region.wanted],PU (by rw[jF n8,jF n3];exact ep)⟩) ?_;refine zLj (i:=k+4) (v:=.pointer (some ⟨gp,o+Vf C,none⟩)) U s b6 b7 (λc' O w' h=>q _ _ _ _ _ h) (Or.inl ⟨by simp[Region.wanted],YE (yg (by simp only[tV];exact z3))⟩) ?_
 exact FM Y W (by simp only[b8,b9,J,F,x,zKp,Bool.and_self])
  (by rw[jF (λe=>n6 e.symm),jF (λe=>n5 e.symm),jF (λe=>n4 e.symm)];exact yg R)
  (by rw[jF (λe=>I e.symm),jF (λe=>n9 e.symm)];exact yg (by simp only[tV];exact z1))
  (by rw[jF y,jF r,jF n7,jF n2];exact ee)
  (yg (by simp only[tV];exact z4)) g E h1 yX M L N λm H D e=>hK g9 c9 l m g K t H D e
def ZM (ops:Array Oper) (ld:Array Bool) (k:Nat):Bool:=Region.noSelect ops&&(Region.ready .any ops ld==[k])&&tkB ops (tX ld [k]) (k+1)&&tkB ops (tX ld [k,k+1]) (k+3)&&(Region.ready .any ops (tX ld [k,k+1,k+3])==[k+2,k+4])&&
 (Region.ready .any ops (tX ld [k,k+1,k+3,k+2])==[k+4])&&(Region.ready .any ops (tX ld [k,k+1,k+3,k+4])==[k+2])&&(Region.ready .any ops (tX ld [k,k+1,k+3,k+2,k+4])==[])&&(Region.ready .any ops (tX ld [k,k+1,k+3,k+4,k+2])==[])
theorem NV
  (Y:ops.toList.drop k=[⟨some d0,.call {callee:=.builtin .append,args:=#[.tmp ds,.tmp dx],argTypes:=#[59,59]},y0,q0,f0,none⟩,⟨some d1,.indexAddr 59 (.tmp d0) (.tmp dl),y1,q1,f1,none⟩,⟨none,.store 122 (.tmp d1) (.tmp de),y2,q2,f2,none⟩,
   ⟨some d4,.nilCheck (.tmp dp),y3,q3,f3,none⟩,⟨none,.store 59 (.tmp d4) (.tmp d0),y5,q5,f5,none⟩])
  (hb:ZM ops ld k=true) (K:(decide (d0<a.tmps.size)&&decide (d1<a.tmps.size)&&decide (d4<a.tmps.size)&&(d0 !=dl)&&(d0 !=de)&&(d0 !=dp)&&(d0 !=d1)&&(d0 !=d4)&&(d1 !=de)&&(d1 !=dp)&&(d1 !=d4)&&(d4 !=de))=true) (I:∀c (b:Act) (d:Nat) v w,Q (.panic c) (b.put (some d) v) w->Q (.panic c) b w)
  (es:a.eval (.tmp ds)=.slice A n c) (ex:a.eval (.tmp dx)=.slice (some ⟨gz,0,none⟩) 1 1) (el:a.eval (.tmp dl)=.int .i64 (n:Nat)) (ee:a.eval (.tmp de)=.agg nd.toArray) (ep:a.eval (.tmp dp)=.pointer (some ⟨gp,o,none⟩))
  (p:w.ownsRow B 122 7 (.slice A n c) n xs) (X:Bk w gz 122 #[(),(),"",(),.int .u64 0,(),()]) (x:nd.length=7) (h1:nd.all Value.oneCell'=true) (hn:n<=1000000000) (hB:B<=w.heap.size)
  (hc:w.cell? ⟨gp,o,none⟩=some u) (s:w.frozen? ⟨gp,o,none⟩=false) (z:some gp≠(Value.slice A n c).ownBlock)
  (hK:∀(g9 c9:Nat) (j m:World),j.ownsRow B 122 7 (.slice (some ⟨g9,0,none⟩) (n+1) c9) (n+1) (xs++[.int .i64 0,.int .i64 0,.slice none 0 0,.int .i64 0,.int .u64 0,.int .i64 0,.int .i64 0])->w.grownBy j (Value.slice A n c).ownBlock->(some g9=(Value.slice A n c).ownBlock\/g9=w.heap.size)->
   m.ownsRow B 122 7 (.slice (some ⟨g9,0,none⟩) (n+1) c9) (n+1) (xs++nd)->j.grownBy m (some g9)->m.heap.size=j.heap.size->
   Q .normal (((a.put (some d0) (.slice (some ⟨g9,0,none⟩) (n+1) c9)).put (some d1) (.pointer (some ⟨g9,n*7,none⟩))).put (some d4) (.pointer (some ⟨gp,o,none⟩))) (m.setCell ⟨gp,o,none⟩ (.slice (some ⟨g9,0,none⟩) (n+1) c9))):
  wpAny prog .any ops Q (f+5) ld a w:=by
 have l:∀i,ops[k+i]? =(ops.toList.drop k)[i]? :=λi=>by simp
 rw[Y]at l;have O:=l 0;have R:=l 1;have P:=l 2;have M:=l 3;have N:=l 4;simp only[Nat.add_zero,zGe,zGg]at O R P M N;simp only[ZM,tkB,tX,List.foldl_cons,List.foldl_nil,zFn,zFt]at hb;obtain⟨⟨⟨⟨⟨⟨⟨⟨J,b1⟩,b2,Z⟩,b4,b5⟩,b8⟩,b9⟩,D⟩,y⟩,r⟩:=hb;simp only[zFn,zF9,zG1,ne_eq]at K;obtain⟨⟨⟨⟨⟨⟨⟨⟨⟨⟨⟨L,U⟩,z4⟩,n1⟩,W⟩,n3⟩,n4⟩,n5⟩,n6⟩,S⟩,n8⟩,n9⟩:=K;refine FK O b1 es ex p X hn hB hc s z λg9 c9 j g E q yX G F H=>?_
 refine zLj (i:=k+1) (v:=.pointer (some ⟨g9,n*7,none⟩)) R J b2 Z (λc' b' w' h=>I _ _ _ _ _ h) (Or.inl ⟨by simp[Region.wanted],Ve (yg L) ((jF n1).trans el)⟩) ?_;refine zLj (i:=k+3) (v:=.pointer (some ⟨gp,o,none⟩)) M J b4 b5 (λc' b' w' h=>I _ _ _ _ _ h) (Or.inl ⟨by simp[Region.wanted],PU (by rw[jF S,jF n3];exact ep)⟩) ?_
 exact FM P N (by simp only[b8,b9,D,y,r,zKp,Bool.and_self])
  (by rw[jF (λe=>n5 e.symm),jF (λe=>n4 e.symm)];exact yg L)
  (by rw[jF (λe=>n8 e.symm)];exact yg (by simp only[tV];exact U))
  (by rw[jF n9,jF n6,jF W];exact ee)
  (yg (by simp only[tV];exact z4)) g x h1 yX G F H λm C t e=>hK g9 c9 j m g E q C t e
end
theorem zE1 {d N:Nat} {S:Nat->Prop} {ax:Int} {ks:List Int} {bs:List dL} {cs:List Value} {w:World} (h:dO d S ax ks bs cs w) (hG:qy N bs) (hN:N<=1048576):Calls prog 18 #[.agg cs.toArray] w (Ol d N ax ks w):=by
 have e:=h;obtain⟨kv,bv,rfl,hk,hb⟩:=h;obtain⟨Ak,ck,rfl⟩:=hk.form;obtain⟨Ab,cb,rfl⟩:=hb.form;clear hk hb
 go_enter func18,ntmps18
 go_upto_region 1 with fail
 have F:=(Bk.new w 29 #[ax,.slice Ak ks.length ck,.slice Ab bs.length cb]).alloc (.cells #[(),"",""] 29);have k2:=Bk.newAt (w:=w.alloc (.cells #[ax,.slice Ak ks.length ck,.slice Ab bs.length cb] 29)) (g:=w.heap.size+1) (by simp) 29 #[(),"",""];have l:=bel2 w (.cells #[ax,.slice Ak ks.length ck,.slice Ab bs.length cb] 29) (.cells #[(),"",""] 29);generalize(w.alloc (.cells #[ax,.slice Ak ks.length ck,.slice Ab bs.length cb] 29)).alloc (.cells #[(),"",""] 29)=X at *;have D:=zH (Qb (e.old l));have HG:=zH hG;have Tm:=k2.lt;clear e hG;go_wp2_with (refine aV aP eF rfl (.tmp 1) rfl rfl [.int .i64 ax,.slice Ak ks.length ck,.slice Ab bs.length cb] rfl (λj u hu=>by rw[zFr,F.cell j];simpa using hu) ?_)
 refine D.mono ?_;rintro e w2 ⟨kv,bv,jq,B,rfl,o,b2,b7,f,y,t⟩;obtain⟨qm,E,rfl⟩:=f.form;obtain⟨zD,m,rfl,_⟩:=aK y.dJ;obtain⟨n,A⟩:=zN jq.length
 rw[A]at y⊢;have Bj:=zH A;have k2:=k2.old t;have r:=zH (l.trans (t.mono l.size));have qM:=zH (zA o (zA f y));clear o f y t l F D A;go_upto_region 2 with(refine ae aP rfl _ _ rfl rfl [.int .i64 ax,.slice qm ks.length E,.slice zD n m] rfl (Bk.new _ _ _) rfl rfl rfl ?_;intro W p;go_frame)
 have f:Below w2 w2 W:=p.below _ _ (ba _ _) zL;have b3:W.heap.size=w2.heap.size+1:=by rw[p.size];simp
 have HW:=zH (zA (r.trans (f.mono r.size)) (zA (k2.old f) (zA p.bk (zA (qM.2.1.keep (.old f)) (qM.2.2.old f)))));have x2:=p.bk.cell 2;have av:n<=4:=by have:=HG.nb;rw[<-qM.1]at this;simpa[Bj.out]using this
 clear p f k2 r;go_wp2_with fail
 go_loopw[12] (λi wr=>∃k:Nat,k<=n/\i=.int .i64 k/\Hid (Below B W wr/\W.heap.size<=wr.heap.size/\Bk wr w2.heap.size 29 #[ax,.slice qm ks.length E,.slice zD n m]/\∃xs,iC B d (.slice zD n m) xs wr/\mX xs=mX jq/\Gx N xs)) (λi _=>n-(intOf i).toNat)
 case atStart=>exact⟨0,zFj _,rfl,zH ⟨zGp _ _,zFv _,HW.2.2.1,jq,HW.2.2.2.2,rfl,.of (by rw[qM.1];exact HG.out)⟩⟩
 case round=>
  obtain⟨k,hk,rfl,R⟩:=hrel;obtain⟨P,rfl⟩:∃z:World,z=wr:=⟨_,rfl⟩
  have Nb:=R.2.1
  by_cases a0:k<n
  ·obtain⟨xs,y,o,rY⟩:=R.2.2.2;have a2:k<jq.length:=by rw[Bj.out];exact a0
   obtain⟨l,s1,I,s3,s4,_⟩:=wR o a2;obtain⟨g,cs,f,b6,ar,⟨rfl,_⟩,G⟩:=(y.bd (S:=λ_=>True)).elem l;subst f;obtain⟨J,D⟩:=zN (jq[k].ps.length)
   obtain⟨Ap,r,F,_⟩:=aK (y.prt _ (zFe l));rw[s4,D]at F;have an:=zH (s3.symm.trans F);have A:xs[k].cells=[.int .i64 xs[k].id,.int .i64 xs[k].window,.slice Ap J r]:=by unfold bQ.cells;rw[F]
   rw[A]at G
   have b0:J<=8:=by
    have:=(HG.ps (b:=fJ d jq[k]) (by rw[<-qM.1];exact zGa.2 ⟨_,zFe a2,rfl⟩)).2;rw[<-D]
    simpa[fJ]using this
   have P5:=zH D;obtain⟨kL,H⟩:∃z:Nat,xs[k].id=z:=⟨_,rfl⟩
   obtain⟨win,t⟩:=zN (xs[k].window)
   rw[H,t]at G;go_upto_region 5 with(first|(refine aj gW rfl _ rfl rfl [.int .i64 kL,.int .i64 win,.slice Ap J r] rfl G ?_)|(refine ae (aY gW.1) rfl _ _ rfl rfl [.int .i64 kL,.int .i64 win,.slice Ap J r] rfl (Bk.new _ _ _) rfl rfl rfl ?_;intro W1 p1;go_frame))
   have f:Below P P W1:=p1.below _ _ (ba _ _) zL;have aw:W1.heap.size=P.heap.size+1:=by rw[p1.size];simp
   have Qk:B<=P.heap.size:=by omega
   have ab:Hid (Below B W W1/\W1.heap.size<=W1.heap.size/\Bk W1 w2.heap.size 29 #[ax,.slice qm ks.length E,.slice (some ⟨g,0,none⟩) n m]/\Bk W1 P.heap.size 67 #[kL,win,.slice Ap J r]/\∃xs,iC B d (.slice (some ⟨g,0,none⟩) n m) xs W1/\mX xs=mX jq/\Gx N xs):=zH ⟨R.1.trans (f.mono Qk),zFv _,R.2.2.1.old f,p1.bk,xs,y.old f,o,rY⟩;have y2:=p1.bk.cell 2;clear p1 G y rY A F f H t s1 I s3 s4 o D;go_wp2_with fail
   go_loopw[19] (λi wr=>∃j:Nat,j<=J/\i=.int .i64 j/\Hid (Below B W wr/\W1.heap.size<=wr.heap.size/\Bk wr w2.heap.size 29 #[ax,.slice qm ks.length E,.slice (some ⟨g,0,none⟩) n m]/\Bk wr P.heap.size 67 #[kL,win,.slice Ap J r]/\∃xs,iC B d (.slice (some ⟨g,0,none⟩) n m) xs wr/\mX xs=mX jq/\Gx N xs)) (λi _=>J-(intOf i).toNat)
   case atStart=>exact⟨0,zFj _,rfl,ab⟩
   case round=>
    obtain⟨j,hj,rfl,O⟩:=hrel;obtain⟨wl,rfl⟩:∃z:World,z=wr:=⟨_,rfl⟩
    have aq:=O.2.1
    by_cases a4:j<J
    ·obtain⟨xs,y,o,rY⟩:=O.2.2.2.2;obtain⟨l,_,_,s3,s4,_⟩:=wR o a2;have H:j<xs[k].ps.length:=by rw[s4,P5.out];exact a4
     obtain⟨gp,cp,F,a6,am,t,ag,I⟩:=y.s.part l H;have al:=(s3.trans an.out).symm.trans F;injection al with e1 L e3
     subst e1 e3;have G:xs[k].parts.ownBlock=some gp:=by rw[F];rfl
     obtain⟨Y,U,q3⟩:=rY _ (zFe l) _ (zFe H);have f:=y.nd l H false (zFi Y hN);have Z:=y.nd l H true (zFi U hN);obtain⟨gv,D⟩:=zN (xs[k].ps[j].g)
     obtain⟨cv,A⟩:=zN (xs[k].ps[j].c)
     obtain⟨pf,Lm⟩:=zN (xs[k].ps[j].form)
     obtain⟨pt,Q⟩:=zN (xs[k].ps[j].type)
     have K:xs[k].ps[j].cells=[.int .i64 pf,.int .i64 pt,gv,cv]:=by unfold aZ.cells;rw[D,A,Lm,Q]
     simp only[rowA,cond_false,cond_true,D]at f;simp only[rowA,cond_false,cond_true,A]at Z;rw[K]at t;have z2:=t 2 _ rfl;have z3:=t 3 _ rfl;have y2:=O.2.2.2.1.cell 2;have mJ:=zH (zA f Z);have Az:=zH (zA y (zA o (zA rY (zA Y (zA U q3)))));have Oh:=zH (zA I G);obtain⟨M,hM⟩:∃M:Nat->Nat,M=λk'=>if k'=12 then xs[k].ps[j].gs.length else xs[k].ps[j].cs.length:=⟨_,rfl⟩
     have HM:=zH hM;have a3:P.heap.size≠gp:=λe=>aN (y.prt _ (zFe l)) O.2.2.2.1 (by decide) (by rw[G,e])
     have Wv:gp<wl.heap.size:=am;clear t f Z y o rY Y U q3 D A Lm Q K hM s3 s4 F G I L;go_upto_region 8 with fail
     refine wj ⟨λk => k == 12 || k == 19, λb k' lo hi v w => wl.heap.size ≤ lo ∧ ∃ (A : Option Addr) (c : Nat) (ns : List ah), v = .slice A ns.length c ∧ ns.length ≤ (if k' = 12 then xs[k].ps[j].gs.length else xs[k].ps[j].cs.length) ∧ Sj (λq => B ≤ q ∧ q < wl.heap.size ∧ aJ (.slice (some ⟨g, 0, none⟩) n m) xs q) d lo hi ns v w ∧ (k' = 12 → b = true → ∃ X, Below wl wl X ∧ Sj (λq => B ≤ q ∧ q < wl.heap.size ∧ aJ (.slice (some ⟨g, 0, none⟩) n m) xs q) d lo hi ns v X ∧ Below X.heap.size (X.setCell ⟨gp, j * 4 + 2, none⟩ v) w),
       λhb ⟨K,A,c,ns,U,Z,h4,h5⟩=>⟨K,A,c,ns,U,Z,h4.old hb,λe1 L=>by obtain⟨X,t,i2,f⟩:=h5 e1 L;exact⟨X,t,i2,f.trans (hb.mono (by have:=f.size;simpa using this))⟩⟩⟩ 22 (some gp)
      [.is (.pointer (some ⟨P.heap.size,2,none⟩)),.is (.slice (some ⟨gp,0,none⟩) J r),.is (.int .i64 j),.is (.pointer (some ⟨P.heap.size,2,none⟩)),.is (.slice (some ⟨gp,0,none⟩) J r),.is (.int .i64 j),.is (.pointer (some ⟨P.heap.size,2,none⟩)),.is (.slice (some ⟨gp,0,none⟩) J r),.is (.int .i64 j),.is (.pointer (some ⟨gp,j*4,none⟩)),.is (.pointer (some ⟨gp,j*4+2,none⟩)),.is gv,sF,.is (.pointer (some ⟨P.heap.size,2,none⟩)),.is (.slice (some ⟨gp,0,none⟩) J r),.is (.int .i64 j),.is (.pointer (some ⟨gp,j*4,none⟩)),.is (.pointer (some ⟨gp,j*4+3,none⟩)),.is cv,sF,.is (.pointer (some ⟨gp,j*4,none⟩)),.is (.pointer (some ⟨gp,j*4+2,none⟩)),.any] [9,10,12,16,17,19,20,21,22,4] (by kernel_rfl) (by kernel_rfl) (by kernel_rfl)
      (λC=>.c (.x (rG _) C rfl (λ_ _=>rfl)) <| .c (.b (rG _) C rfl (λ_ h=>bH (pX (bc h y2)))) <| .c (.x (rG _) C rfl (λ_ _=>rfl)) <| .c (.x (rG _) C rfl (λ_ _=>rfl)) <| .c (.a (rG _) [3] [] (by kernel_rfl) λY I Q hG D f t=>?_) <| .c (.x (rG _) C rfl (λ_ _=>rfl)) <| .c (.x (rG _) C rfl (λ_ _=>rfl)) <| .c (.b (rG _) C rfl (λ_ h=>bH (pX (bc h y2)))) <| .c (.x (rG _) C rfl (λ_ _=>rfl)) <| .c (.z (rG _) [7,8] [] (by kernel_rfl) λY I Q G D f t=>?_) <| .c (.z (rG _) [9] [] (by kernel_rfl) λY I Q G D f t=>?_) <| .c (.b (rG _) C rfl (λ_ h=>bH (jD (bc h z2)))) <| .c (.fj (rG _) [11] [] (by kernel_rfl) λY I Q G D f t=>?_) <| .c (.x (rG _) C rfl (λ_ _=>rfl)) <| .c (.b (rG _) C rfl (λ_ h=>bH (pX (bc h y2)))) <| .c (.x (rG _) C rfl (λ_ _=>rfl)) <| .c (.z (rG _) [14,15] [] (by kernel_rfl) λY I Q G D f t=>?_) <| .c (.z (rG _) [16] [] (by kernel_rfl) λY I Q G D f t=>?_) <| .c (.b (rG _) C rfl (λ_ h=>bH (jD (bc h z3)))) <| .c (.fj (rG _) [18] [] (by kernel_rfl) λY I Q G D f t=>?_) <| .c (.z (rG _) [1,2] [] (by kernel_rfl) λY I Q G D f t=>?_) <| .c (.z (rG _) [20] [] (by kernel_rfl) λY I Q G D f t=>?_) <| .c (.gj [21,12] [] (by kernel_rfl) λY I Q G D f t=>?_) .nil) ?_
     ·obtain⟨b,f⟩:=f;have a7:=QG f.1 rfl rfl;have yy:=(O.2.2.2.1.grown hG (λe=>a3 (by injection e))).cell 2;clear D f;go_simp;exact t _ zR
     ·have L:=aA f.1 rfl rfl;have e3:=aA f.2.1 rfl rfl;clear D f;go_simp;exact t _ _ zR rfl
     ·have L:=aA f.1 rfl rfl;clear D f;go_simp;exact t _ _ zR rfl
     ·have L:=aA f.1 rfl rfl;clear D f;go_simp
      go_at_call 47
      refine(Qe (mJ.1.old G)).mono ?_;intro e w2 h;obtain⟨A,c,ns,rfl,K,U,Z⟩:=h.own;exact t _ _ Z ⟨_,_,_,rfl⟩ ⟨G.size,A,c,ns,rfl,K,U,λ_ h=>by cases h⟩
     ·have L:=aA f.1 rfl rfl;have e3:=aA f.2.1 rfl rfl;clear D f;go_simp;exact t _ _ zR rfl
     ·have L:=aA f.1 rfl rfl;clear D f;go_simp;exact t _ _ zR rfl
     ·have L:=aA f.1 rfl rfl;clear D f;go_simp
      go_at_call 47
      refine(Qe (mJ.2.old G)).mono ?_;intro e w2 h;obtain⟨A,c,ns,rfl,K,U,Z⟩:=h.own;exact t _ _ Z ⟨_,_,_,rfl⟩ ⟨G.size,A,c,ns,rfl,K,U,λ_ h=>by cases h⟩
     ·have L:=aA f.1 rfl rfl;have e3:=aA f.2.1 rfl rfl;clear D f;go_simp;exact t _ _ zR rfl
     ·have L:=aA f.1 rfl rfl;clear D f;go_simp;exact t _ _ zR rfl
     ·have a8:=aA f.1 rfl rfl;obtain⟨u,a1,A,nn,c,rfl⟩:=f.2.1;have a1:I.tmps[34]? =some (.slice A nn c):=a1;have c2:=bc G z2;have f2:Q.frozen? ⟨gp,j*4+2,none⟩=false:=by rw[<-ag (j*4+2)];simp only[World.frozen?,G.block gp Wv]
      clear D f;go_simp;refine t undef _ (eu (below_grown G (some gp))) (by simp) (λ_ e=>by cases e) ?_ trivial;rintro k' lo hi u hF hs ⟨K,A',c',ns,U,Z,h4,h5⟩;refine⟨K,A',c',ns,U,Z,h4.setA K Wv Oh.1,λa5 _=>⟨Q,G,h4,?_⟩⟩;subst a5;have hs:I.tmps[34]? =some u:=hs;rw[a1]at hs;injection hs with hs
      rw[<-hs];exact zGp _ _
     intro qx w3 a9 f;obtain⟨I,A,hD⟩:=f;obtain⟨i2,l2,Q,c2,f,r2,m2,_,t⟩:=A 12 (by simp) rfl;obtain⟨i5,l5,A5,c5,Iy,G,m5,o5,_⟩:=A 19 (by simp) rfl;obtain⟨b1,a8,o2,D⟩:=t rfl rfl;clear t;have Y:=hD 12 19 (by simp) (by simp) (by decide) rfl rfl;clear hD;clear A;simp only[bJ,List.length,List.take,List.drop,zFd]
     go_frame
     generalize qx 12=b5 at r2 o2 D⊢;generalize qx 19=b4 at G o5⊢;subst r2 G;have s1:=Az.1.one (c:=false) a8 D l H Oh.2 (by omega) o2 l2;obtain⟨Wx,a7,Wy⟩:=Hz (c:=false) (v:=.slice Q f.length c2) (ns:=f) l H;obtain⟨G,_,ad,_,_,af,ak,_⟩:=s1.part Wx Wy
     have t:G=gp:=by
      have:=Oh.2;rw[<-a7,ad]at this;injection this
     subst t;have ao:=af 3 xs[k].ps[j].c (by simp[fZ,updB,uZ,aZ.cells,zJj]);have ap:=ak (j*4+3);have a5:∀q,(Value.slice Q f.length c2).ownBlock=some q->(I 12).1<=q/\q<(I 12).2:=λq hq=>⟨(o2.1.lt q hq).1,o2.2.1 q hq⟩
     have A:=Az.1.two s1 l H Oh.2 (by omega) a5 o5 l2 l5 Y
     have a1:Gx N (fZ (fZ xs k j false (.slice Q f.length c2) f) k j true (.slice A5 Iy.length c5) Iy):=(Az.2.2.1.upd (zFi m2 Az.2.2.2.1) (λh=>by cases h)).upd (zFi m5 Az.2.2.2.2.1) λ_ b p K U Z=>by
      have e1:(fZ xs k j false (.slice Q f.length c2) f)[k].ps[j]=p:=by
       rw[zAg Wx]at K;injection K with K
       subst K;rw[zAg Wy]at U;injection U
      have L:p.form=xs[k].ps[j].form:=by rw[<-e1];simp[fZ,updB,uZ,zJj]
      have e3:=Az.2.2.2.2.2 (by rw[<-L];exact Z);have m5:Iy.length<=xs[k].ps[j].cs.length:=m5;rw[e3]at m5;exact zHa (Nat.le_zero.1 m5)
     have L:=(rE (fZ xs k j false (.slice Q f.length c2) f) k j true (.slice A5 Iy.length c5) Iy).trans ((rE xs k j false (.slice Q f.length c2) f).trans Az.2.1)
     have a6:B<=G:=by
      have:=(Az.1.prt _ (zFe l)).lt G Oh.2;omega
     have aa:G≠w2.heap.size:=λe=>aN (Az.1.prt _ (zFe l)) O.2.2.1 (by decide) (by rw[Oh.2,e])
     have t:=zH (zA A (zA L (zA a1 (zA a9 (zA a6 aa)))));clear A L a1 s1 o2 o5 a8 D Y;go_wp2_with fail
     go_roundw
     case rel=>exact⟨j+1,a4,by go_num,zH ⟨(O.1.grown t.2.2.2.1 (by omega) λk hk=>by injection hk with hk;omega).setCell t.2.2.2.2.1 _,by have:=t.2.2.2.1.size;simp;omega,(O.2.2.1.grown t.2.2.2.1 (λe=>t.2.2.2.2.2 (by injection e with e;exact e.symm))).far (p:=⟨G,j*4+3,none⟩) (λe=>t.2.2.2.2.2 e.symm) _,(O.2.2.2.1.grown t.2.2.2.1 (λe=>a3 (by injection e))).far (p:=⟨G,j*4+3,none⟩) a3 _,_,t.1,t.2.1,t.2.2.1⟩⟩
     case measure=>simp[intOf];omega
    obtain rfl:j=J:=by omega
    go_wp2_with fail
    go_roundw
    case rel=>exact⟨k+1,a0,by go_num,zH ⟨O.1,by omega,O.2.2.1,O.2.2.2.2⟩⟩
    case measure=>simp[intOf];omega
  obtain rfl:k=n:=by omega
  obtain⟨xs,y,o,rY⟩:=R.2.2.2;have L:=R.2.2.1.cell 0;have G:=HW.2.1.below (B:=B) R.1 (by omega);have t:=zH (zA y (zA o rY));clear y o rY;go_wp2_with (first|(refine aV aP eF rfl (.tmp 3) rfl rfl [.int .i64 ax,.slice qm ks.length E,.slice zD k m] rfl (λj u hu=>by rw[zFr,R.2.2.1.cell j];simpa using hu) ?_)|(refine ae aP rfl _ _ rfl rfl [.int .i64 ax,.slice qm ks.length E,.slice zD k m] rfl G rfl rfl rfl ?_;intro V p))
  obtain⟨I,K,H⟩:=zc3 p.bk;have A:Below w.heap.size w P:=HW.1.trans (R.1.mono (by omega));have f:Sl gK (λq=>X.heap.size<=q/\q<B) ks (.slice qm ks.length E) V:=(HW.2.2.2.1.keep (S':=λq=>X.heap.size<=q/\q<B) λb hb a0=>⟨hb,by omega,R.1.block b hb.2⟩).keep (dB.fE p λb hb=>by omega);have D:=(t.1.grown p.grown (by omega)).plan (ax:=ax) (S':=λq=>w.heap.size<=q) f (λq hq=>by omega) (λq hq=>by omega) (.of (by rw[qM.1];exact HG.out) t.2.1 t.2.2) hN;exact zFg (v:=.agg #[ax,.slice qm ks.length E,.slice zD k m]) (by simp[results,results18,go_sem,I,K,H]) rfl ⟨[_,_,_],_,rfl,D,.of (by rw[qM.1];exact HG.out) t.2.1 t.2.2,p.below _ _ A (by omega)⟩
end Go.Proofs.YtbjnhllkdilpfaaGreat
