/- Part 22 of the proof. No conditions. -/
import Derived.Test.YtbjnhllkdilpfaaZb20
import Derived.Test.YtbjnhllkdilpfaaZb21
namespace Go.Proofs.Ytbjnhllkdilpfaa
open Go.RowKit
set_option linter.unusedSimpArgs false
set_option linter.unusedVariables false
set_option maxHeartbeats 16000000
set_option maxRecDepth 100000
structure cO where
 name:Str
 br:Nat
 part:Nat
 pos:Nat
 form:Nat
 kind:Int
def Ig:cO:=⟨[],0,0,0,0,0⟩
def cO.cells (x:cO):List Value:=[.string (bytes x.name),.int .i64 x.br,.int .i64 x.part,.int .i64 x.pos,.int .i64 x.form,.int .i64 x.kind]
theorem mi (x:cO):x.cells.length=6:=rfl
def dW (name:Str):List cO->cO×Bool
 |[]=>(Ig,false)
 |x::l=>if x.name=name then(x,true)else dW name l
structure MS where
 items:List cO
 err:Nat
 pos:Nat
def dI (e p:Nat) (m:MS):MS:=if m.err=0 then⟨m.items,e,p⟩else m
theorem ah.ok.iZ {s:ah} {w w':World} {b:Nat} (h:s.ok w b) (hb:Below b w w'):s.ok w' b:=
 ⟨h.rd.below hb,h.len,fun t ht=>⟨(h.each t ht).rd.below hb,(h.each t ht).len,(h.each t ht).N8,(h.each t ht).N9⟩,h.syms.below hb,h.slen,h.ssize⟩
structure ja (b B:Nat) (s:ah) (iv:Value) (m:MS) (W:World):Prop where
 bk:Bk W b 111 #[.slice s.ta s.types.length s.tc,.slice s.sa s.syms.length s.sc,iv,.int .i64 m.err,.int .i64 m.pos]
 Bf:s.ok W b
 own:W.ownsRow B 141 6 iv m.items.length (m.items.flatMap cO.cells)
theorem Dv:(Try.prog.info? 141).map (fun i=>(i.zero,i.size,i.bytes))=some (some (.agg #[.string ⟨#[]⟩,.int .i64 0,.int .i64 0,.int .i64 0,.int .i64 0,.int .i64 0]),6,56):=by kernel_rfl
theorem fQ (w:World):(sizeOf 141).run Try.prog w=.ok 6 w:=by
 obtain⟨i,hi,h0,h1,h2⟩:=info_parts Dv;simp[sizeOf,typeInfo,hi,h1]
section
variable {b B:Nat} {s:ah} {iv:Value} {m:MS} {W W':World}
theorem ja.old (h:ja b B s iv m W) (hb:Below W.heap.size W W'):ja b B s iv m W':=
 ⟨h.bk.old hb,h.Bf.iZ (hb.mono (Nat.le_of_lt h.bk.lt)),aP h.own hb⟩
theorem ja.c3 (h:ja b B s iv m W):W.cell? ⟨b,3,none⟩=some (.int .i64 m.err):=h.bk.cell 3
theorem ja.c4 (h:ja b B s iv m W):W.cell? ⟨b,4,none⟩=some (.int .i64 m.pos):=h.bk.cell 4
theorem ja.Zm (h:ja b B s iv m W) (hbB:b<B) (e p:Nat):ja b B s iv ⟨m.items,e,p⟩ ((W.setCell ⟨b,3,none⟩ (.int .i64 e)).setCell ⟨b,4,none⟩ (.int .i64 p)):=
 have hg:W.grownBy ((W.setCell ⟨b,3,none⟩ (.int .i64 e)).setCell ⟨b,4,none⟩ (.int .i64 p)) (some b):=aY (aY (World.grownBy.refl _ _))
 ⟨by simpa using(h.bk.put 3 (.int .i64 e)).put 4 (.int .i64 p),h.Bf.iZ (pW hg (Nat.le_of_lt h.bk.lt)),fP h.own hg hbB⟩
end
structure gJ (b B:Nat) (s:ah) (iv:Value) (m:MS) (w w':World):Prop where
 st:ja b B s iv m w'
 grown:w.grownBy w' (some b)
section
variable (b B:Nat) (s:ah) (iv:Value) (m:MS) (w:World)
theorem jk (e p : Nat) (h : ja b B s iv m w) (hbB : b < B) :
  Calls Try.prog 67 #[.pointer (some ⟨b,0,none⟩),.int .i64 e,.int .i64 p] w fun r w'=>r=.returned (.tuple #[])/\gJ b B s iv (dI e p m) w w':=by
 have c3:=h.c3;unfold dI
 by_cases h0:m.err=0
 ·rw[if_pos h0];have iQ:((m.err:Int)==0)=true:=by rw[beq_iff_eq];omega
  have f3:=h.bk.frozen 3;have HF:=zH (h.Zm hbB e p);have k3:=h.bk.put 3 (.int .i64 e);have d4:=(k3.cell 4)
  have f4:=k3.frozen 4;clear k3 h h0
  go_enter Try.func67,Try.ntmps67
  go_wp2
  first|go_end0|refine bodyPost_end (v:=.tuple #[]) (by simp[results,Try.results67,go_sem]) rfl ?_
  exact⟨rfl,HF.out,aY (aY (World.grownBy.refl _ _))⟩
 ·rw[if_neg h0];have iQ:((m.err:Int)==0)=false:=by rw[beq_eq_false_iff_ne];omega
  clear h0
  go_enter Try.func67,Try.ntmps67
  go_wp2
  first|go_end0|refine bodyPost_end (v:=.tuple #[]) (by simp[results,Try.results67,go_sem]) rfl ?_
  exact⟨rfl,h,World.grownBy.refl _ _⟩
theorem uy (S : ByteArray) (h : ja b B s iv m w) (hn : m.items.length ≤ 1000) :
  Calls Try.prog 66 #[.pointer (some ⟨b,0,none⟩),.string S] w fun r w'=>r=.returned (.tuple #[.agg (dW S.toList m.items).1.cells.toArray,.bool (dW S.toList m.items).2])/\Below w.heap.size w w':=by
 obtain⟨A,c,rfl,-⟩:=bF h.own;have hrd:=bP h.own;have c2:w.cell? ⟨b,2,none⟩=some (.slice A m.items.length c):=h.bk.cell 2;have hbl:=h.bk.lt;obtain⟨RES,hres⟩:∃R,dW S.toList m.items=R:=⟨_,rfl⟩
 rw[hres];have H0:Hid (dW S.toList (m.items.drop 0)=RES):=zH hres;have vS:=zH hrd;obtain⟨items,hi⟩:∃l,m.items=l:=⟨_,rfl⟩
 rw[hi]at c2 H0 vS hn;clear h hrd hres hi
 go_enter Try.func66,Try.ntmps66
 go_upto_region 1 with fail
 have k0:=Bk.new w 141 #[.string ⟨#[]⟩,.int .i64 0,.int .i64 0,.int .i64 0,.int .i64 0,.int .i64 0];have hb0:Below w.heap.size w (w.alloc (.cells #[.string ⟨#[]⟩,.int .i64 0,.int .i64 0,.int .i64 0,.int .i64 0,.int .i64 0] 141)):=zR.alloc zL _;replace c2:=(aU hb0 b 2 hbl).trans c2;generalize w.alloc (.cells #[.string ⟨#[]⟩,.int .i64 0,.int .i64 0,.int .i64 0,.int .i64 0,.int .i64 0] 141)=w0 at *;have hz0:=k0.lt;have hsz0:=hb0.size;have Ef:=zH k0;have HB0:=zH hb0;generalize hgr:w.heap.size=gr at *;have Ih:=zH hgr;clear k0 hb0 hgr;go_wp2_with fail
 clear c2
 go_loopw[13] (fun i wr=>∃k:Nat,k<=items.length/\i=.int .i64 k/\Hid (dW S.toList (items.drop k)=RES)/\Hid (Below w0.heap.size w0 wr)) (fun i _=>items.length-(intOf i).toNat)
 case atStart=>exact⟨0,Nat.zero_le _,rfl,H0,zH zR⟩
 case round=>
  clear H0;obtain⟨k,hk,rfl,HR,HB⟩:=hrel;obtain⟨wo,rfl⟩:∃wo:World,wo=wr:=⟨_,rfl⟩
  by_cases hlt:k<items.length
  ·as_aux_lemma=>
   obtain⟨g,o,rfl,hg,hc⟩:=vS.out.elem (n:=6) mi (by omega) hlt;have hr:=HR.out;rw[List.drop_eq_getElem_cons hlt]at hr;obtain⟨⟨nm,xb,xp,xo,xf,xk⟩,hx⟩:∃z,items[k]=z:=⟨_,rfl⟩
   rw[hx]at hc hr;have hr2:(if nm=S.toList then((⟨nm,xb,xp,xo,xf,xk⟩:cO),true)else dW S.toList (items.drop (k+1)))=RES:=hr;have kR:Below gr w wo:=HB0.out.trans (HB.out.mono hsz0);have hcc:∀(j:Nat) (u:Value),(cO.cells ⟨nm,xb,xp,xo,xf,xk⟩)[j]? =some u->wo.cell? ⟨g,o+k*6+j,none⟩=some u:=fun j u h=>(aU kR g _ (by first|exact hg|(rw[<-Ih.out];exact hg))).trans (hc j u h)
   obtain⟨M,hM⟩:∃M,bytes nm=M:=⟨_,rfl⟩
   have r0:wo.cell? ⟨g,o+k*6,none⟩=some (.string M):=(hcc 0 _ rfl).trans (by rw[hM]);have r1:wo.cell? ⟨g,o+k*6+1,none⟩=some (.int .i64 xb):=hcc 1 _ rfl;have r2:wo.cell? ⟨g,o+k*6+2,none⟩=some (.int .i64 xp):=hcc 2 _ rfl;have r3:wo.cell? ⟨g,o+k*6+3,none⟩=some (.int .i64 xo):=hcc 3 _ rfl;have r4:wo.cell? ⟨g,o+k*6+4,none⟩=some (.int .i64 xf):=hcc 4 _ rfl;have r5:wo.cell? ⟨g,o+k*6+5,none⟩=some (.int .i64 xk):=hcc 5 _ rfl;have hms:(M.toList==S.toList)=decide (nm=S.toList):=by rw[<-hM,aJ,Bool.eq_iff_iff];simp
   obtain⟨eq,heq⟩:∃z,decide (nm=S.toList)=z:=⟨_,rfl⟩
   rw[heq]at hms;have XP:=zH heq;have HR2:=zH hr2;have HM:=zH hM;have KE:gr<wo.heap.size:=by have:=HB.out.size;omega
   clear hcc hc hr hr2 hx kR heq hM hg HR;go_upto_region 4 with(first|(refine ae fQ rfl _ _ rfl rfl [.string M,.int .i64 xb,.int .i64 xp,.int .i64 xo,.int .i64 xf,.int .i64 xk] rfl (Bk.new wo _ _) rfl rfl rfl ?_;intro wA pA;go_frame))
   have Eg:=zH (pA.below _ _ (HB.out.alloc HB.out.size _) (by have:=HB.out.size;omega));obtain⟨q0,q1,q2,q3,q4,q5⟩:=zc6 pA.bk;have KA:=zH (Ef.out.below Eg.out hz0);clear pA r0 r1 r2 r3 r4 r5 HB;cases eq
   case false=>
    as_aux_lemma=>
    have HR3:Hid (dW S.toList (items.drop (k+1))=RES):=zH (by rw[<-HR2.out,if_neg (by simpa using XP.out)]);clear HR2 XP;go_wp2
    go_roundw
    case rel=>exact⟨k+1,by omega,by go_num,HR3,Eg⟩
    case measure=>simp[intOf];omega
   case true=>
    as_aux_lemma=>
    have hR:RES=(⟨nm,xb,xp,xo,xf,xk⟩,true):=by rw[<-HR2.out,if_pos (by simpa using XP.out)]
    subst hR;clear HR2 XP;go_wp2_with (first|(refine ae fQ rfl _ _ rfl rfl [.string M,.int .i64 xb,.int .i64 xp,.int .i64 xo,.int .i64 xf,.int .i64 xk] rfl KA.out rfl rfl rfl ?_;intro w9 p9))
    obtain⟨u0,u1,u2,u3,u4,u5⟩:=zc6 p9.bk;have HF:=zH (p9.below _ _ (HB0.out.trans (Eg.out.mono hsz0)) zL);clear p9;refine bodyPost_ret (v:=.tuple #[.agg #[.string M,.int .i64 xb,.int .i64 xp,.int .i64 xo,.int .i64 xf,.int .i64 xk],.bool true]) (by simp[results,Try.results66,go_sem,u0,u1,u2,u3,u4,u5]) rfl ?_;exact⟨by rw[<-HM.out];rfl,by first|exact HF.out|(rw[Ih.out];exact HF.out)⟩
  ·as_aux_lemma=>
   obtain rfl:k=items.length:=by omega
   have hr:=HR.out;rw[List.drop_eq_nil_of_le zL]at hr;have hR:RES=(Ig,false):=hr.symm;subst hR;have KA:=zH (Ef.out.below HB.out hz0);clear hr HR;go_wp2_with (first|(refine ae fQ rfl _ _ rfl rfl [.string ⟨#[]⟩,.int .i64 0,.int .i64 0,.int .i64 0,.int .i64 0,.int .i64 0] rfl KA.out rfl rfl rfl ?_;intro w9 p9))
   obtain⟨u0,u1,u2,u3,u4,u5⟩:=zc6 p9.bk;have HF:=zH (p9.below _ _ (HB0.out.trans (HB.out.mono hsz0)) zL);clear p9;refine bodyPost_ret (v:=.tuple #[.agg #[.string ⟨#[]⟩,.int .i64 0,.int .i64 0,.int .i64 0,.int .i64 0,.int .i64 0],.bool false]) (by simp[results,Try.results66,go_sem,u0,u1,u2,u3,u4,u5]) rfl ?_;exact⟨rfl,by first|exact HF.out|(rw[Ih.out];exact HF.out)⟩
end
def xh (its:List cO) (w:World) (e:Ending) (w':World):Prop:=∃(A:Option Addr) (c:Nat),e=.returned (.slice A its.length c)/\w'.ownsRow w.heap.size 141 6 (.slice A its.length c) its.length (its.flatMap cO.cells)/\Below w.heap.size w w'
structure Zn (b:Nat) (plain:Bool) (w:World) (A:Option Addr) (j:Nat) (its:List cO):Prop where
 ex:∃(g:Nat) (d0 d1 d2 d3 d4 d5 d6:Value),A=some ⟨g,0,none⟩/\g<w.heap.size/\(∀(q:Nat) (u:Value),[d0,d1,d2,d3,d4,d5,d6][q]? =some u->w.cell? ⟨g,j*7+q,none⟩=some u)/\
  ∀W:World,Below w.heap.size w W->Calls Try.prog 71 #[.pointer (some ⟨b,0,none⟩),.agg #[d0,d1,d2,d3,d4,d5,d6],.bool plain] W (xh its W)
def Dw (op:Nat) (plain:Bool):Bool:=decide (op=24)||(decide (24<op)&& !plain)
def eH (items:List cO) (op:Nat) (nm:Str) (plain:Bool):List cO:=if Dw op plain then[(dW nm items).1]else[]
def dA (items:List cO) (plain:Bool):au->List cO
 |.leaf op _ _ nm _ _=>eH items op nm plain
 |.un op x _=>eH items op [] plain++dA items plain x
 |.bin op x y _=>eH items op [] plain++(dA items plain x++dA items plain y)
theorem kF (items:List cO) (plain:Bool):∀e:au,(dA items plain e).length<=aG e
 |.leaf op _ _ nm _ _=>by show(eH items op nm plain).length<=1;unfold eH;split<;>simp
 |.un op x _=>by
  have:=kF items plain x;have h1:(eH items op [] plain).length<=1:=by unfold eH;split<;>simp
  show(eH items op [] plain++dA items plain x).length<=1+aG x
  rw[List.length_append];omega
 |.bin op x y _=>by
  have hx:=kF items plain x;have hy:=kF items plain y;have h1:(eH items op [] plain).length<=1:=by unfold eH;split<;>simp
  show(eH items op [] plain++(dA items plain x++dA items plain y)).length<=1+aG x+aG y
  rw[List.length_append,List.length_append];omega
theorem Ii (c0 c1 c2 c3 c4 c5:Value) (w:World):(Instr.buildSlice 109 1 #[(0,.agg #[c0,c1,c2,c3,c4,c5])]).run Try.prog w=.ok (.slice (some ⟨w.heap.size,0,none⟩) 1 1) (w.alloc (.cells #[c0,c1,c2,c3,c4,c5] 141)):=by kernel_rfl
theorem Bg {w : World} {ops : Array Oper} {rest : List Oper} {o : Oper} {a : Act} {Q : Exit → Act → World → Prop} {c0 c1 c2 c3 c4 c5 : Value} (hgd : o.guard = none) (x : Operand) (ho : o.op = .buildSlice 109 1 #[(0, x)]) (hx : a.eval x = .agg #[c0, c1, c2, c3, c4, c5])
  (h:wpList Try.prog ops Q rest (a.put o.dst (.slice (some ⟨w.heap.size,0,none⟩) 1 1)) (w.alloc (.cells #[c0,c1,c2,c3,c4,c5] 141))):wpList Try.prog ops Q (o::rest) a w:=
 wpList_plain hgd fun _ hK=>by
  unfold Oper.wp execOp;simp only[ho,List.map_toArray,List.map_cons,List.map_nil,hx,Sem.run_bind,Ii,Result.andThen_ok,Sem.run_pure];exact hK _ _ h
theorem cells_one (x:cO):∀u∈x.cells,u.oneCell'=true:=by intro u hu;simp[cO.cells]at hu;rcases hu with rfl|rfl|rfl|rfl|rfl|rfl<;>rfl
theorem KF (l:List cO):∀u∈l.flatMap cO.cells,u.oneCell'=true:=by
 intro u hu;obtain⟨x,_,hx⟩:=List.mem_flatMap.1 hu;exact cells_one x u hx
structure NmI (b bx n:Nat) (w0:World) (A:Option Addr) (c:Nat) (acc:List cO) (W:World):Prop where
 hb:Below w0.heap.size w0 W
 own:W.ownsRow w0.heap.size 141 6 (.slice A n c) n (acc.flatMap cO.cells)
theorem sQ (b B : Nat) (s : ah) (iv : Value) (m : MS) (op p : Nat) (c2 c3 c5 : Value) (S : ByteArray) (plain : Bool) (A0 : Option Addr) (k cc : Nat) (al : List (List cO)) (hk : al.length = k) (hk2 : k ≤ 2) (w : World) (h : ja b B s iv m w) (hn : m.items.length ≤ 1000)
  (hs:al.flatten.length<=100000) (hcall:∀j (hj:j<al.length),Zn b plain w A0 j al[j]):
  Calls Try.prog 71 #[.pointer (some ⟨b,0,none⟩),.agg #[.int .i64 op,.slice A0 k cc,c2,c3,.string S,c5,.int .i64 p],.bool plain] w (xh (eH m.items op S.toList plain++al.flatten) w):=by
 have HC:=zH hcall;have HKK:=zH hk;have xK:Hid (∀W:World,Below w.heap.size w W->Calls Try.prog 66 #[.pointer (some ⟨b,0,none⟩),.string S] W fun r w'=>r=.returned (.tuple #[.agg (dW S.toList m.items).1.cells.toArray,.bool (dW S.toList m.items).2])/\Below W.heap.size W w'):=zH fun W hW=>uy b B s iv m W S (h.old hW) hn
 obtain⟨iT,hT,hT0,hT1,hT2⟩:=info_parts Dv;obtain⟨TOT,htot⟩:∃z,eH m.items op S.toList plain++al.flatten=z:=⟨_,rfl⟩
 have Zo:=zH htot
 have htl:TOT.length<=100001:=by
  rw[<-htot,List.length_append];have:(eH m.items op S.toList plain).length<=1:=by unfold eH;split<;>simp
  omega
 unfold xh;rw[htot];clear hcall hk htot h hs hn
 go_enter Try.func71,Try.ntmps71
 have kb:=Bk.new w 118 #[.int .i64 op,.slice A0 k cc,c2,c3,.string S,c5,.int .i64 p];have hb0:Below w.heap.size w (w.alloc (.cells #[.int .i64 op,.slice A0 k cc,c2,c3,.string S,c5,.int .i64 p] 118)):=zR.alloc zL _;go_upto_region 2 with fail
 generalize w.alloc (.cells #[.int .i64 op,.slice A0 k cc,c2,c3,.string S,c5,.int .i64 p] 118)=w0 at *;have hbx:=kb.lt;obtain⟨bx,eP⟩:∃z,w.heap.size=z:=⟨_,rfl⟩
 rw[eP]at kb hb0 hbx⊢;have q0:=kb.cell 0;have HKB:=zH kb;have HB0:=zH hb0;have jl:=zH eP;clear kb hb0 eP;obtain⟨hit,hhit⟩:∃z,Dw op plain=z:=⟨_,rfl⟩
 have Bd:=zH hhit;clear hhit
 go_cut[22] (fun v wx=>v=.bool hit/\w0=wx)
 case first=>
  as_aux_lemma=>
  have hh:=Bd.out;unfold Dw at hh
  by_cases XZ:op=24
  ·have e24:((op:Int)==24)=true:=by rw[beq_iff_eq];omega
   have hst:hit=true:=by rw[<-hh];simp[XZ]
   subst hst;clear XZ hh;go_wp2_with fail
   go_meet
   exact⟨rfl,rfl⟩
  ·have e24:((op:Int)==24)=false:=by rw[beq_eq_false_iff_ne];omega
   by_cases hgt:24<op
   ·have gI:(24:Int)<(op:Int):=by omega
    have hst:hit= !plain:=by rw[<-hh];simp[XZ,hgt]
    subst hst;clear XZ hh hgt;cases plain
    all_goals
     go_wp2_with fail
     go_meet
     exact⟨rfl,rfl⟩
   ·have gI:¬(24:Int)<(op:Int):=by omega
    have hst:hit=false:=by rw[<-hh];simp[XZ,hgt]
    subst hst;clear XZ hh hgt;go_wp2_with fail
    go_meet
    exact⟨rfl,rfl⟩
 case rest=>
 obtain⟨rfl,hwc⟩:=hcut;subst hwc;go_upto_if 22 with fail
 go_cut[7] (fun v wx=>∃(A:Option Addr) (c:Nat) (acc:List cO),v=.slice A acc.length c/\acc.length<=1/\Hid (acc=eH m.items op S.toList plain)/\Hid (NmI b bx acc.length w0 A c acc wx))
 case first=>
  as_aux_lemma=>
  cases hit
  case false=>
   have hacc:eH m.items op S.toList plain=[]:=by unfold eH;rw[Bd.out];rfl
   have Ij:=zH hacc;clear hacc q0;go_wp2_with fail
   go_meet
   exact⟨none,0,[],rfl,by simp,zH Ij.out.symm,zH ⟨Below.refl _ _,World.ownsRow_nil _ _ _ _⟩⟩
  case true=>
   have hacc:eH m.items op S.toList plain=[(dW S.toList m.items).1]:=by unfold eH;rw[Bd.out];rfl
   have Ij:=zH hacc;have hfc:=xK.out w0 (by rw[jl.out];exact HB0.out);obtain⟨⟨⟨nm,xb,xp,xo,xf,xk⟩,fb⟩,hx⟩:∃z,dW S.toList m.items=z:=⟨_,rfl⟩
   rw[hx]at hfc;have Oj:=Ij.out;rw[hx]at Oj;have Zp:=zH Oj;simp only[cO.cells]at hfc;have Qu:=zH hfc;have q4:=HKB.out.cell 4;clear hacc hfc Oj Ij hx q0 xK;go_wp2_with fail
   refine Qu.out.mono ?_;rintro r w2 ⟨rfl,hb2⟩;have hz2:=hb2.size;have HB2:=zH hb2;clear hb2 Qu q4;obtain⟨M,hM⟩:∃M,bytes nm=M:=⟨_,rfl⟩
   have HM:=zH hM;rw[hM];clear hM;go_upto_region 4 with(first|(refine ae fQ rfl _ _ rfl rfl [.string M,.int .i64 xb,.int .i64 xp,.int .i64 xo,.int .i64 xf,.int .i64 xk] rfl (Bk.new w2 _ _) rfl rfl rfl ?_;intro wA pA;go_frame))
   have Eg:=zH (pA.below _ _ (HB2.out.alloc HB2.out.size _) (by have:=HB2.out.size;omega));obtain⟨r0,r1,r2,r3,r4,r5⟩:=zc6 pA.bk;have hzA:=Eg.out.size;clear pA HB2;have hown0:(wA.alloc (.cells #[.string M,.int .i64 xb,.int .i64 xp,.int .i64 xo,.int .i64 xf,.int .i64 xk] 141)).ownsRow w0.heap.size 141 6 (.slice none 0 0) 0 []:=World.ownsRow_nil _ _ _ _;have kK:w0.heap.size<=(wA.alloc (.cells #[.string M,.int .i64 xb,.int .i64 xp,.int .i64 xo,.int .i64 xf,.int .i64 xk] 141)).heap.size:=by simp;omega
   go_wp2_with (first|(refine Bg rfl _ rfl rfl ?_)|at_builtin;(refine az (by rfl) _ _ 109 (by rfl) w0.heap.size 141 iT _ 6 56 Try.underlying109 hT hT0 hT1 hT2 rfl (by decide) (.slice none 0 0) 0 _ (by rfl) hown0 (wA.heap.size+1) (some ⟨wA.heap.size,0,none⟩) 1 1 [.string M,.int .i64 xb,.int .i64 xp,.int .i64 xo,.int .i64 xf,.int .i64 xk] (by rfl) (Rd.lit rfl _ _) (by rfl) ?c2 ?c3 ?c4 kK ?_))
   case c2=>intro u hu;simp at hu;rcases hu with rfl|rfl|rfl|rfl|rfl|rfl<;>rfl
   case c3=>unfold maxLen;omega
   case c4=>omega
   intro A6 c6 w6 hown6 iy _;have hb6:Below w0.heap.size w0 w6:=gU (Eg.out.alloc hzA _) hown0 zL iy kK
   have HN6:Hid (NmI b bx 1 w0 A6 c6 [⟨nm,xb,xp,xo,xf,xk⟩] w6):=zH ⟨hb6,by
    have:[(⟨nm,xb,xp,xo,xf,xk⟩:cO)].flatMap cO.cells=[.string M,.int .i64 xb,.int .i64 xp,.int .i64 xo,.int .i64 xf,.int .i64 xk]:=by rw[<-HM.out];rfl
    rw[this]
    exact hown6⟩
   clear hown6 iy hb6 hown0 kK r0 r1 r2 r3 r4 r5 Eg;go_wp2_with fail
   go_meet
   exact⟨A6,c6,[⟨nm,xb,xp,xo,xf,xk⟩],rfl,by simp,zH Zp.out.symm,HN6⟩
 case rest=>
 obtain⟨A,c,acc,rfl,hac,Ij,HN⟩:=hcut;have H0:Hid (acc++(al.drop 0).flatten=TOT):=zH (by rw[List.drop_zero,Ij.out];exact Zo.out);clear q0 Zo Bd xK Ij;have q1:=(HKB.out.below HN.out.hb hbx).cell 1;go_wp2_with fail
 clear q1
 go_loopw[7,37] (fun l i wr=>∃(j:Nat) (A:Option Addr) (c:Nat) (acc:List cO),j<=k/\l=.slice A acc.length c/\i=.int .i64 j/\Hid (acc++(al.drop j).flatten=TOT)/\Hid (NmI b bx acc.length w0 A c acc wr)) (fun _ i _=>k-(intOf i).toNat)
 case atStart=>exact⟨0,A,c,acc,Nat.zero_le _,rfl,rfl,H0,HN⟩
 case round=>
  clear H0 HN hac;obtain⟨j,A,c,acc,hj,rfl,rfl,HR,HN⟩:=hrel;obtain⟨wo,rfl⟩:∃wo:World,wo=wr:=⟨_,rfl⟩
  by_cases hlt:j<k
  ·as_aux_lemma=>
   have hjl:j<al.length:=by rw[HKK.out];exact hlt
   obtain⟨g,d0,d1,d2,d3,d4,d5,d6,rfl,hg,hc,hq⟩:=(HC.out j hjl).ex;have hr:=HR.out;rw[List.drop_eq_getElem_cons hjl,List.flatten_cons,<-List.append_assoc]at hr
   have kR:Below w.heap.size w wo:=by
    rw[jl.out];exact HB0.out.trans (HN.out.hb.mono (by have:=HB0.out.size;have:=jl.out;omega))
   have q1:=(HKB.out.below HN.out.hb hbx).cell 1;have hcc:∀(q:Nat) (u:Value),[d0,d1,d2,d3,d4,d5,d6][q]? =some u->wo.cell? ⟨g,j*7+q,none⟩=some u:=fun q u h=>(aU kR g _ hg).trans (hc q u h)
   have r0:wo.cell? ⟨g,j*7,none⟩=some d0:=hcc 0 _ rfl;have r1:wo.cell? ⟨g,j*7+1,none⟩=some d1:=hcc 1 _ rfl;have r2:wo.cell? ⟨g,j*7+2,none⟩=some d2:=hcc 2 _ rfl;have r3:wo.cell? ⟨g,j*7+3,none⟩=some d3:=hcc 3 _ rfl;have r4:wo.cell? ⟨g,j*7+4,none⟩=some d4:=hcc 4 _ rfl;have r5:wo.cell? ⟨g,j*7+5,none⟩=some d5:=hcc 5 _ rfl;have r6:wo.cell? ⟨g,j*7+6,none⟩=some d6:=hcc 6 _ rfl;have HQ:=zH (hq wo kR);unfold xh at HQ;obtain⟨its,hits⟩:∃z,al[j]=z:=⟨_,rfl⟩
   rw[hits]at hr HQ
   have hln:acc.length+its.length<=100001:=by
    have:=congrArg List.length hr;rw[List.length_append,List.length_append]at this;omega
   have HR2:=zH hr;clear hc hq hcc hr hits kR hg HR HC HKK;go_wp2_with fail
   refine HQ.out.mono ?_;rintro r w2 ⟨Ai,ci,rfl,hi,hb2⟩;have hown2:=aP HN.out.own hb2;have Zq:=bP hi;have HB2:=zH (HN.out.hb.trans (hb2.mono HN.out.hb.size));have hz2:=HB2.out.size;clear HQ hb2 r0 r1 r2 r3 r4 r5 r6 q1 HN;go_wp2_with (first|at_builtin;(refine az (by rfl) _ _ 109 (by rfl) w0.heap.size 141 iT _ 6 56 Try.underlying109 hT hT0 hT1 hT2 rfl (by decide) (.slice A acc.length c) acc.length _ (by rfl) hown2 w2.heap.size Ai its.length ci (its.flatMap cO.cells) (by rfl) Zq ?c1 ?c2 ?c3 ?c4 hz2 ?_))
   case c1=>rw[yK cO.cells mi]
   case c2=>exact KF its
   case c3=>unfold maxLen;omega
   case c4=>omega
   intro A6 c6 w6 hown6 iy _;have hb6:Below w0.heap.size w0 w6:=gU HB2.out hown2 zL iy hz2;have hal:(acc++its).length=acc.length+its.length:=List.length_append;have HN6:Hid (NmI b bx (acc++its).length w0 A6 c6 (acc++its) w6):=zH ⟨hb6,by rw[hal,List.flatMap_append];exact hown6⟩;clear hown6 iy hb6 hown2 Zq hi HB2;go_wp2
   go_roundw
   case rel=>exact⟨j+1,A6,c6,acc++its,by omega,by rw[hal],by go_num,HR2,HN6⟩
   case measure=>simp[intOf];omega
  ·as_aux_lemma=>
   obtain rfl:j=k:=by omega
   have hr:=HR.out;rw[List.drop_eq_nil_of_le (by rw[HKK.out];exact Nat.le_refl _),List.flatten_nil,List.append_nil]at hr;subst hr;have q1:=(HKB.out.below HN.out.hb hbx).cell 1
   have HF:Hid (Below w.heap.size w wo):=zH (by
    rw[jl.out]
    exact HB0.out.trans (HN.out.hb.mono (by have:=HB0.out.size;have:=jl.out;omega)))
   have HO:Hid (wo.ownsRow w.heap.size 141 6 (.slice A acc.length c) acc.length (acc.flatMap cO.cells)):=zH (dF HN.out.own (by have:=HB0.out.size;have:=jl.out;omega));clear HR HN;go_wp2
   go_ret
   exact⟨A,c,rfl,by first|exact HO.out|(rw[<-jl.out];exact HO.out),by first|exact HF.out|(rw[<-jl.out];exact HF.out)⟩
end Go.Proofs.Ytbjnhllkdilpfaa
