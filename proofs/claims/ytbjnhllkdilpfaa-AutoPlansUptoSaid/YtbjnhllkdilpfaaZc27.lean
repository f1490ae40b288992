/- Part 27 of the proof. No conditions. -/
import Derived.Test.YtbjnhllkdilpfaaZc18
import Derived.Test.YtbjnhllkdilpfaaZc26
namespace Go.Proofs.Ytbjnhllkdilpfaa
open Go.RowKit
set_option maxRecDepth 100000
set_option maxHeartbeats 16000000
set_option linter.unusedVariables false
set_option linter.unusedSimpArgs false
structure bP where
 name:Str
 br:Nat
 part:Nat
 pos:Nat
 form:Nat
 kind:Int
def Kr:bP:=⟨[],0,0,0,0,0⟩
def bP.cells (x:bP):List Value:=[.string (bytes x.name),.int .i64 x.br,.int .i64 x.part,.int .i64 x.pos,.int .i64 x.form,.int .i64 x.kind]
theorem mW (x:bP):x.cells.length=6:=rfl
def dV (name:Str):List bP->bP×Bool
 |[]=>(Kr,false)
 |x::l=>if x.name=name then(x,true)else dV name l
structure MS where
 items:List bP
 err:Nat
 pos:Nat
def dC (e p:Nat) (m:MS):MS:=if m.err=0 then⟨m.items,e,p⟩else m
theorem ai.ok.jf {s:ai} {w w':World} {b:Nat} (h:s.ok w b) (hb:Below b w w'):s.ok w' b:=
 ⟨h.rd.below hb,h.len,fun t ht=>⟨(h.each t ht).rd.below hb,(h.each t ht).len,(h.each t ht).Rh,(h.each t ht).Ri⟩,h.syms.below hb,h.slen,h.ssize⟩
structure jg (b B:Nat) (s:ai) (iv:Value) (m:MS) (W:World):Prop where
 bk:Bk W b 111 #[.slice s.ta s.types.length s.tc,.slice s.sa s.syms.length s.sc,iv,.int .i64 m.err,.int .i64 m.pos]
 CG:s.ok W b
 own:W.ownsRow B 141 6 iv m.items.length (m.items.flatMap bP.cells)
theorem EG:(Try.prog.info? 141).map (fun i=>(i.zero,i.size,i.bytes))=some (some (.agg #[.string ⟨#[]⟩,.int .i64 0,.int .i64 0,.int .i64 0,.int .i64 0,.int .i64 0]),6,56):=by kernel_rfl
theorem gm (w:World):(sizeOf 141).run Try.prog w=.ok 6 w:=by
 obtain⟨i,hi,h0,h1,h2⟩:=info_parts EG;simp[sizeOf,typeInfo,hi,h1]
section
variable {b B:Nat} {s:ai} {iv:Value} {m:MS} {W W':World}
theorem jg.old (h:jg b B s iv m W) (hb:Below W.heap.size W W'):jg b B s iv m W':=
 ⟨h.bk.old hb,h.CG.jf (hb.mono (Nat.le_of_lt h.bk.lt)),aQ h.own hb⟩
theorem jg.c3 (h:jg b B s iv m W):W.cell? ⟨b,3,none⟩=some (.int .i64 m.err):=h.bk.cell 3
theorem jg.c4 (h:jg b B s iv m W):W.cell? ⟨b,4,none⟩=some (.int .i64 m.pos):=h.bk.cell 4
theorem jg.zA1 (h:jg b B s iv m W) (hbB:b<B) (e p:Nat):jg b B s iv ⟨m.items,e,p⟩ ((W.setCell ⟨b,3,none⟩ (.int .i64 e)).setCell ⟨b,4,none⟩ (.int .i64 p)):=
 have hg:W.grownBy ((W.setCell ⟨b,3,none⟩ (.int .i64 e)).setCell ⟨b,4,none⟩ (.int .i64 p)) (some b):=bF (bF (World.grownBy.refl _ _))
 ⟨by simpa using(h.bk.put 3 (.int .i64 e)).put 4 (.int .i64 p),h.CG.jf (qQ hg (Nat.le_of_lt h.bk.lt)),fV h.own hg hbB⟩
end
structure gW (b B:Nat) (s:ai) (iv:Value) (m:MS) (w w':World):Prop where
 st:jg b B s iv m w'
 grown:w.grownBy w' (some b)
section
variable (b B:Nat) (s:ai) (iv:Value) (m:MS) (w:World)
theorem jr (e p : Nat) (h : jg b B s iv m w) (hbB : b < B) :
  Calls Try.prog 67 #[.pointer (some ⟨b,0,none⟩),.int .i64 e,.int .i64 p] w fun r w'=>r=.returned (.tuple #[])/\gW b B s iv (dC e p m) w w':=by
 have c3:=h.c3;unfold dC
 by_cases h0:m.err=0
 ·rw[if_pos h0];have iV:((m.err:Int)==0)=true:=by rw[beq_iff_eq];omega
  have f3:=h.bk.frozen 3;have HF:=zH (h.zA1 hbB e p);have k3:=h.bk.put 3 (.int .i64 e);have d4:=(k3.cell 4)
  have f4:=k3.frozen 4;clear k3 h h0
  go_enter Try.func67,Try.ntmps67
  go_wp2
  first|go_end0|refine bodyPost_end (v:=.tuple #[]) (by simp[results,Try.results67,go_sem]) rfl ?_
  exact⟨rfl,HF.out,bF (bF (World.grownBy.refl _ _))⟩
 ·rw[if_neg h0];have iV:((m.err:Int)==0)=false:=zB (by omega)
  clear h0
  go_enter Try.func67,Try.ntmps67
  go_wp2
  first|go_end0|refine bodyPost_end (v:=.tuple #[]) (by simp[results,Try.results67,go_sem]) rfl ?_
  exact⟨rfl,h,World.grownBy.refl _ _⟩
theorem vZ (S : ByteArray) (h : jg b B s iv m w) (hn : m.items.length ≤ 1000) :
  Calls Try.prog 66 #[.pointer (some ⟨b,0,none⟩),.string S] w fun r w'=>r=.returned (.tuple #[.agg (dV S.toList m.items).1.cells.toArray,.bool (dV S.toList m.items).2])/\Below w.heap.size w w':=by
 obtain⟨A,c,rfl,-⟩:=bg h.own;have hrd:=dG h.own;have c2:w.cell? ⟨b,2,none⟩=some (.slice A m.items.length c):=h.bk.cell 2;have hbl:=h.bk.lt;obtain⟨RES,hres⟩:∃R,dV S.toList m.items=R:=⟨_,rfl⟩
 rw[hres];have H0:Hid (dV S.toList (m.items.drop 0)=RES):=zH hres;have vg:=zH hrd;obtain⟨items,hi⟩:∃l,m.items=l:=⟨_,rfl⟩
 rw[hi]at c2 H0 vg hn;clear h hrd hres hi
 go_enter Try.func66,Try.ntmps66
 go_upto_region 1 with fail
 have k0:=Bk.new w 141 #[.string ⟨#[]⟩,.int .i64 0,.int .i64 0,.int .i64 0,.int .i64 0,.int .i64 0];have hb0:Below w.heap.size w (w.alloc (.cells #[.string ⟨#[]⟩,.int .i64 0,.int .i64 0,.int .i64 0,.int .i64 0,.int .i64 0] 141)):=zR.alloc zL _;replace c2:=(aT hb0 b 2 hbl).trans c2;generalize w.alloc (.cells #[.string ⟨#[]⟩,.int .i64 0,.int .i64 0,.int .i64 0,.int .i64 0,.int .i64 0] 141)=w0 at *;have hz0:=k0.lt;have hsz0:=hb0.size;have Vx:=zH k0;have HB0:=zH hb0;generalize hgr:w.heap.size=gr at *;have o6:=zH hgr;clear k0 hb0 hgr;go_wp2_with fail
 clear c2
 go_loopw[13] (fun i wr=>∃k:Nat,k<=items.length/\i=.int .i64 k/\Hid (dV S.toList (items.drop k)=RES)/\Hid (Below w0.heap.size w0 wr)) (fun i _=>items.length-(intOf i).toNat)
 case atStart=>exact⟨0,Nat.zero_le _,rfl,H0,zH zR⟩
 case round=>
  clear H0;obtain⟨k,hk,rfl,HR,HB⟩:=hrel;obtain⟨wo,rfl⟩:∃wo:World,wo=wr:=⟨_,rfl⟩
  by_cases hlt:k<items.length
  ·as_aux_lemma=>
   obtain⟨g,o,rfl,hg,hc⟩:=vg.out.elem (n:=6) mW (by omega) hlt;have hr:=HR.out;rw[List.drop_eq_getElem_cons hlt]at hr;obtain⟨⟨nm,xb,xp,xo,xf,xk⟩,hx⟩:∃z,items[k]=z:=⟨_,rfl⟩
   rw[hx]at hc hr;have hr2:(if nm=S.toList then((⟨nm,xb,xp,xo,xf,xk⟩:bP),true)else dV S.toList (items.drop (k+1)))=RES:=hr;have lF:Below gr w wo:=HB0.out.trans (HB.out.mono hsz0);have hcc:∀(j:Nat) (u:Value),(bP.cells ⟨nm,xb,xp,xo,xf,xk⟩)[j]? =some u->wo.cell? ⟨g,o+k*6+j,none⟩=some u:=fun j u h=>(aT lF g _ (by first|exact hg|(rw[<-o6.out];exact hg))).trans (hc j u h)
   obtain⟨M,hM⟩:∃M,bytes nm=M:=⟨_,rfl⟩
   have r0:wo.cell? ⟨g,o+k*6,none⟩=some (.string M):=(hcc 0 _ rfl).trans (by rw[hM]);have r1:wo.cell? ⟨g,o+k*6+1,none⟩=some (.int .i64 xb):=hcc 1 _ rfl;have r2:wo.cell? ⟨g,o+k*6+2,none⟩=some (.int .i64 xp):=hcc 2 _ rfl;have r3:wo.cell? ⟨g,o+k*6+3,none⟩=some (.int .i64 xo):=hcc 3 _ rfl;have r4:wo.cell? ⟨g,o+k*6+4,none⟩=some (.int .i64 xf):=hcc 4 _ rfl;have r5:wo.cell? ⟨g,o+k*6+5,none⟩=some (.int .i64 xk):=hcc 5 _ rfl;have hms:(M.toList==S.toList)=decide (nm=S.toList):=by rw[<-hM,aF,Bool.eq_iff_iff];simp
   obtain⟨eq,heq⟩:∃z,decide (nm=S.toList)=z:=⟨_,rfl⟩
   rw[heq]at hms;have HEQ:=zH heq;have HR2:=zH hr2;have HM:=zH hM;have YL:gr<wo.heap.size:=by have:=HB.out.size;omega
   clear hcc hc hr hr2 hx lF heq hM hg HR;go_upto_region 4 with(first|(refine ae gm rfl _ _ rfl rfl [.string M,.int .i64 xb,.int .i64 xp,.int .i64 xo,.int .i64 xf,.int .i64 xk] rfl (Bk.new wo _ _) rfl rfl rfl ?_;intro wA pA;go_frame))
   have FB:=zH (pA.below _ _ (HB.out.alloc HB.out.size _) (by have:=HB.out.size;omega));obtain⟨q0,q1,q2,q3,q4,q5⟩:=zc6 pA.bk;have KA:=zH (Vx.out.below FB.out hz0);clear pA r0 r1 r2 r3 r4 r5 HB;cases eq
   case false=>
    as_aux_lemma=>
    have HR3:Hid (dV S.toList (items.drop (k+1))=RES):=zH (by rw[<-HR2.out,if_neg (by simpa using HEQ.out)]);clear HR2 HEQ;go_wp2
    go_roundw
    case rel=>exact⟨k+1,by omega,by go_num,HR3,FB⟩
    case measure=>simp[intOf];omega
   case true=>
    as_aux_lemma=>
    have hR:RES=(⟨nm,xb,xp,xo,xf,xk⟩,true):=by rw[<-HR2.out,if_pos (by simpa using HEQ.out)]
    subst hR;clear HR2 HEQ;go_wp2_with (first|(refine ae gm rfl _ _ rfl rfl [.string M,.int .i64 xb,.int .i64 xp,.int .i64 xo,.int .i64 xf,.int .i64 xk] rfl KA.out rfl rfl rfl ?_;intro w9 p9))
    obtain⟨u0,u1,u2,u3,u4,u5⟩:=zc6 p9.bk;have HF:=zH (p9.below _ _ (HB0.out.trans (FB.out.mono hsz0)) zL);clear p9;refine bodyPost_ret (v:=.tuple #[.agg #[.string M,.int .i64 xb,.int .i64 xp,.int .i64 xo,.int .i64 xf,.int .i64 xk],.bool true]) (by simp[results,Try.results66,go_sem,u0,u1,u2,u3,u4,u5]) rfl ?_;exact⟨by rw[<-HM.out];rfl,by first|exact HF.out|(rw[o6.out];exact HF.out)⟩
  ·as_aux_lemma=>
   obtain rfl:k=items.length:=by omega
   have hr:=HR.out;rw[List.drop_eq_nil_of_le zL]at hr;have hR:RES=(Kr,false):=hr.symm;subst hR;have KA:=zH (Vx.out.below HB.out hz0);clear hr HR;go_wp2_with (first|(refine ae gm rfl _ _ rfl rfl [.string ⟨#[]⟩,.int .i64 0,.int .i64 0,.int .i64 0,.int .i64 0,.int .i64 0] rfl KA.out rfl rfl rfl ?_;intro w9 p9))
   obtain⟨u0,u1,u2,u3,u4,u5⟩:=zc6 p9.bk;have HF:=zH (p9.below _ _ (HB0.out.trans (HB.out.mono hsz0)) zL);clear p9;refine bodyPost_ret (v:=.tuple #[.agg #[.string ⟨#[]⟩,.int .i64 0,.int .i64 0,.int .i64 0,.int .i64 0,.int .i64 0],.bool false]) (by simp[results,Try.results66,go_sem,u0,u1,u2,u3,u4,u5]) rfl ?_;exact⟨rfl,by first|exact HF.out|(rw[o6.out];exact HF.out)⟩
end
def yL (its:List bP) (w:World) (e:Ending) (w':World):Prop:=∃(A:Option Addr) (c:Nat),e=.returned (.slice A its.length c)/\w'.ownsRow w.heap.size 141 6 (.slice A its.length c) its.length (its.flatMap bP.cells)/\Below w.heap.size w w'
structure zA2 (b:Nat) (plain:Bool) (w:World) (A:Option Addr) (j:Nat) (its:List bP):Prop where
 ex:∃(g:Nat) (d0 d1 d2 d3 d4 d5 d6:Value),A=some ⟨g,0,none⟩/\g<w.heap.size/\(∀(q:Nat) (u:Value),[d0,d1,d2,d3,d4,d5,d6][q]? =some u->w.cell? ⟨g,j*7+q,none⟩=some u)/\
  ∀W:World,Below w.heap.size w W->Calls Try.prog 71 #[.pointer (some ⟨b,0,none⟩),.agg #[d0,d1,d2,d3,d4,d5,d6],.bool plain] W (yL its W)
def EH (op:Nat) (plain:Bool):Bool:=decide (op=24)||(decide (24<op)&& !plain)
def eQ (items:List bP) (op:Nat) (nm:Str) (plain:Bool):List bP:=if EH op plain then[(dV nm items).1]else[]
def cO (items:List bP) (plain:Bool):ax->List bP
 |.leaf op _ _ nm _ _=>eQ items op nm plain
 |.un op x _=>eQ items op [] plain++cO items plain x
 |.bin op x y _=>eQ items op [] plain++(cO items plain x++cO items plain y)
theorem kW (items:List bP) (plain:Bool):∀e:ax,(cO items plain e).length<=aB e
 |.leaf op _ _ nm _ _=>by show(eQ items op nm plain).length<=1;unfold eQ;split<;>simp
 |.un op x _=>by
  have:=kW items plain x;have h1:(eQ items op [] plain).length<=1:=by unfold eQ;split<;>simp
  show(eQ items op [] plain++cO items plain x).length<=1+aB x
  rw[List.length_append];omega
 |.bin op x y _=>by
  have hx:=kW items plain x;have hy:=kW items plain y;have h1:(eQ items op [] plain).length<=1:=by unfold eQ;split<;>simp
  show(eQ items op [] plain++(cO items plain x++cO items plain y)).length<=1+aB x+aB y
  rw[List.length_append,List.length_append];omega
theorem Kt (c0 c1 c2 c3 c4 c5:Value) (w:World):(Instr.buildSlice 109 1 #[(0,.agg #[c0,c1,c2,c3,c4,c5])]).run Try.prog w=.ok (.slice (some ⟨w.heap.size,0,none⟩) 1 1) (w.alloc (.cells #[c0,c1,c2,c3,c4,c5] 141)):=by kernel_rfl
theorem CJ {w : World} {ops : Array Oper} {rest : List Oper} {o : Oper} {a : Act} {Q : Exit → Act → World → Prop} {c0 c1 c2 c3 c4 c5 : Value} (hgd : o.guard = none) (x : Operand) (ho : o.op = .buildSlice 109 1 #[(0, x)]) (hx : a.eval x = .agg #[c0, c1, c2, c3, c4, c5])
  (h:wpList Try.prog ops Q rest (a.put o.dst (.slice (some ⟨w.heap.size,0,none⟩) 1 1)) (w.alloc (.cells #[c0,c1,c2,c3,c4,c5] 141))):wpList Try.prog ops Q (o::rest) a w:=
 wpList_plain hgd fun _ hK=>by
  unfold Oper.wp execOp;simp only[ho,List.map_toArray,List.map_cons,List.map_nil,hx,Sem.run_bind,Kt,Result.andThen_ok,Sem.run_pure];exact hK _ _ h
theorem cells_one (x:bP):∀u∈x.cells,u.oneCell'=true:=by intro u hu;simp[bP.cells]at hu;rcases hu with rfl|rfl|rfl|rfl|rfl|rfl<;>rfl
theorem Om (l:List bP):∀u∈l.flatMap bP.cells,u.oneCell'=true:=by
 intro u hu;obtain⟨x,_,hx⟩:=List.mem_flatMap.1 hu;exact cells_one x u hx
structure NmI (b bx n:Nat) (w0:World) (A:Option Addr) (c:Nat) (acc:List bP) (W:World):Prop where
 hb:Below w0.heap.size w0 W
 own:W.ownsRow w0.heap.size 141 6 (.slice A n c) n (acc.flatMap bP.cells)
theorem uO (b B : Nat) (s : ai) (iv : Value) (m : MS) (op p : Nat) (c2 c3 c5 : Value) (S : ByteArray) (plain : Bool) (A0 : Option Addr) (k cc : Nat) (al : List (List bP)) (hk : al.length = k) (hk2 : k ≤ 2) (w : World) (h : jg b B s iv m w) (hn : m.items.length ≤ 1000)
  (hs:al.flatten.length<=100000) (hcall:∀j (hj:j<al.length),zA2 b plain w A0 j al[j]):
  Calls Try.prog 71 #[.pointer (some ⟨b,0,none⟩),.agg #[.int .i64 op,.slice A0 k cc,c2,c3,.string S,c5,.int .i64 p],.bool plain] w (yL (eQ m.items op S.toList plain++al.flatten) w):=by
 have HC:=zH hcall;have HKK:=zH hk;have zC:Hid (∀W:World,Below w.heap.size w W->Calls Try.prog 66 #[.pointer (some ⟨b,0,none⟩),.string S] W fun r w'=>r=.returned (.tuple #[.agg (dV S.toList m.items).1.cells.toArray,.bool (dV S.toList m.items).2])/\Below W.heap.size W w'):=zH fun W hW=>vZ b B s iv m W S (h.old hW) hn
 obtain⟨iT,hT,hT0,hT1,hT2⟩:=info_parts EG;obtain⟨TOT,htot⟩:∃z,eQ m.items op S.toList plain++al.flatten=z:=⟨_,rfl⟩
 have HTOT:=zH htot
 have htl:TOT.length<=100001:=by
  rw[<-htot,List.length_append];have:(eQ m.items op S.toList plain).length<=1:=by unfold eQ;split<;>simp
  omega
 unfold yL;rw[htot];clear hcall hk htot h hs hn
 go_enter Try.func71,Try.ntmps71
 have kb:=Bk.new w 118 #[.int .i64 op,.slice A0 k cc,c2,c3,.string S,c5,.int .i64 p];have hb0:Below w.heap.size w (w.alloc (.cells #[.int .i64 op,.slice A0 k cc,c2,c3,.string S,c5,.int .i64 p] 118)):=zR.alloc zL _;go_upto_region 2 with fail
 generalize w.alloc (.cells #[.int .i64 op,.slice A0 k cc,c2,c3,.string S,c5,.int .i64 p] 118)=w0 at *;have hbx:=kb.lt;obtain⟨bx,eU⟩:∃z,w.heap.size=z:=⟨_,rfl⟩
 rw[eU]at kb hb0 hbx⊢;have q0:=kb.cell 0;have HKB:=zH kb;have HB0:=zH hb0;have jw:=zH eU;clear kb hb0 eU;obtain⟨hit,hhit⟩:∃z,EH op plain=z:=⟨_,rfl⟩
 have CB:=zH hhit;clear hhit
 go_cut[22] (fun v wx=>v=.bool hit/\w0=wx)
 case first=>
  as_aux_lemma=>
  have hh:=CB.out;unfold EH at hh
  by_cases h24:op=24
  ·have e24:((op:Int)==24)=true:=by rw[beq_iff_eq];omega
   have hst:hit=true:=by rw[<-hh];simp[h24]
   subst hst;clear h24 hh;go_wp2_with fail
   go_meet
   exact⟨rfl,rfl⟩
  ·have e24:((op:Int)==24)=false:=zB (by omega)
   by_cases hgt:24<op
   ·have gI:(24:Int)<(op:Int):=by omega
    have hst:hit= !plain:=by rw[<-hh];simp[h24,hgt]
    subst hst;clear h24 hh hgt;cases plain
    all_goals
     go_wp2_with fail
     go_meet
     exact⟨rfl,rfl⟩
   ·have gI:¬(24:Int)<(op:Int):=by omega
    have hst:hit=false:=by rw[<-hh];simp[h24,hgt]
    subst hst;clear h24 hh hgt;go_wp2_with fail
    go_meet
    exact⟨rfl,rfl⟩
 case rest=>
 obtain⟨rfl,hwc⟩:=hcut;subst hwc;go_upto_if 22 with fail
 go_cut[7] (fun v wx=>∃(A:Option Addr) (c:Nat) (acc:List bP),v=.slice A acc.length c/\acc.length<=1/\Hid (acc=eQ m.items op S.toList plain)/\Hid (NmI b bx acc.length w0 A c acc wx))
 case first=>
  as_aux_lemma=>
  cases hit
  case false=>
   have hacc:eQ m.items op S.toList plain=[]:=by unfold eQ;rw[CB.out];rfl
   have Ku:=zH hacc;clear hacc q0;go_wp2_with fail
   go_meet
   exact⟨none,0,[],rfl,by simp,zH Ku.out.symm,zH ⟨Below.refl _ _,World.ownsRow_nil _ _ _ _⟩⟩
  case true=>
   have hacc:eQ m.items op S.toList plain=[(dV S.toList m.items).1]:=by unfold eQ;rw[CB.out];rfl
   have Ku:=zH hacc;have hfc:=zC.out w0 (by rw[jw.out];exact HB0.out);obtain⟨⟨⟨nm,xb,xp,xo,xf,xk⟩,fb⟩,hx⟩:∃z,dV S.toList m.items=z:=⟨_,rfl⟩
   rw[hx]at hfc;have Rz:=Ku.out;rw[hx]at Rz;have zA3:=zH Rz;simp only[bP.cells]at hfc;have UG:=zH hfc;have q4:=HKB.out.cell 4;clear hacc hfc Rz Ku hx q0 zC;go_wp2_with fail
   refine UG.out.mono ?_;rintro r w2 ⟨rfl,hb2⟩;have hz2:=hb2.size;have HB2:=zH hb2;clear hb2 UG q4;obtain⟨M,hM⟩:∃M,bytes nm=M:=⟨_,rfl⟩
   have HM:=zH hM;rw[hM];clear hM;go_upto_region 4 with(first|(refine ae gm rfl _ _ rfl rfl [.string M,.int .i64 xb,.int .i64 xp,.int .i64 xo,.int .i64 xf,.int .i64 xk] rfl (Bk.new w2 _ _) rfl rfl rfl ?_;intro wA pA;go_frame))
   have FB:=zH (pA.below _ _ (HB2.out.alloc HB2.out.size _) (by have:=HB2.out.size;omega));obtain⟨r0,r1,r2,r3,r4,r5⟩:=zc6 pA.bk;have hzA:=FB.out.size;clear pA HB2;have hown0:(wA.alloc (.cells #[.string M,.int .i64 xb,.int .i64 xp,.int .i64 xo,.int .i64 xf,.int .i64 xk] 141)).ownsRow w0.heap.size 141 6 (.slice none 0 0) 0 []:=World.ownsRow_nil _ _ _ _;have oU:w0.heap.size<=(wA.alloc (.cells #[.string M,.int .i64 xb,.int .i64 xp,.int .i64 xo,.int .i64 xf,.int .i64 xk] 141)).heap.size:=by simp;omega
   go_wp2_with (first|(refine CJ rfl _ rfl rfl ?_)|at_builtin;(refine aH (by rfl) _ _ 109 (by rfl) w0.heap.size 141 iT _ 6 56 Try.underlying109 hT hT0 hT1 hT2 rfl (by decide) (.slice none 0 0) 0 _ (by rfl) hown0 (wA.heap.size+1) (some ⟨wA.heap.size,0,none⟩) 1 1 [.string M,.int .i64 xb,.int .i64 xp,.int .i64 xo,.int .i64 xf,.int .i64 xk] (by rfl) (Rd.lit rfl _ _) (by rfl) ?c2 ?c3 ?c4 oU ?_))
   case c2=>intro u hu;simp at hu;rcases hu with rfl|rfl|rfl|rfl|rfl|rfl<;>rfl
   case c3=>unfold maxLen;omega
   case c4=>omega
   intro A6 c6 w6 hown6 jK _;have hb6:Below w0.heap.size w0 w6:=dY (FB.out.alloc hzA _) hown0 zL jK oU
   have Vy:Hid (NmI b bx 1 w0 A6 c6 [⟨nm,xb,xp,xo,xf,xk⟩] w6):=zH ⟨hb6,by
    have:[(⟨nm,xb,xp,xo,xf,xk⟩:bP)].flatMap bP.cells=[.string M,.int .i64 xb,.int .i64 xp,.int .i64 xo,.int .i64 xf,.int .i64 xk]:=by rw[<-HM.out];rfl
    rw[this]
    exact hown6⟩
   clear hown6 jK hb6 hown0 oU r0 r1 r2 r3 r4 r5 FB;go_wp2_with fail
   go_meet
   exact⟨A6,c6,[⟨nm,xb,xp,xo,xf,xk⟩],rfl,by simp,zH zA3.out.symm,Vy⟩
 case rest=>
 obtain⟨A,c,acc,rfl,hac,Ku,HN⟩:=hcut;have H0:Hid (acc++(al.drop 0).flatten=TOT):=zH (by rw[List.drop_zero,Ku.out];exact HTOT.out);clear q0 HTOT CB zC Ku;have q1:=(HKB.out.below HN.out.hb hbx).cell 1;go_wp2_with fail
 clear q1
 go_loopw[7,37] (fun l i wr=>∃(j:Nat) (A:Option Addr) (c:Nat) (acc:List bP),j<=k/\l=.slice A acc.length c/\i=.int .i64 j/\Hid (acc++(al.drop j).flatten=TOT)/\Hid (NmI b bx acc.length w0 A c acc wr)) (fun _ i _=>k-(intOf i).toNat)
 case atStart=>exact⟨0,A,c,acc,Nat.zero_le _,rfl,rfl,H0,HN⟩
 case round=>
  clear H0 HN hac;obtain⟨j,A,c,acc,hj,rfl,rfl,HR,HN⟩:=hrel;obtain⟨wo,rfl⟩:∃wo:World,wo=wr:=⟨_,rfl⟩
  by_cases hlt:j<k
  ·as_aux_lemma=>
   have hjl:j<al.length:=by rw[HKK.out];exact hlt
   obtain⟨g,d0,d1,d2,d3,d4,d5,d6,rfl,hg,hc,hq⟩:=(HC.out j hjl).ex;have hr:=HR.out;rw[List.drop_eq_getElem_cons hjl,List.flatten_cons,<-List.append_assoc]at hr
   have lF:Below w.heap.size w wo:=by
    rw[jw.out];exact HB0.out.trans (HN.out.hb.mono (by have:=HB0.out.size;have:=jw.out;omega))
   have q1:=(HKB.out.below HN.out.hb hbx).cell 1;have hcc:∀(q:Nat) (u:Value),[d0,d1,d2,d3,d4,d5,d6][q]? =some u->wo.cell? ⟨g,j*7+q,none⟩=some u:=fun q u h=>(aT lF g _ hg).trans (hc q u h)
   have r0:wo.cell? ⟨g,j*7,none⟩=some d0:=hcc 0 _ rfl;have r1:wo.cell? ⟨g,j*7+1,none⟩=some d1:=hcc 1 _ rfl;have r2:wo.cell? ⟨g,j*7+2,none⟩=some d2:=hcc 2 _ rfl;have r3:wo.cell? ⟨g,j*7+3,none⟩=some d3:=hcc 3 _ rfl;have r4:wo.cell? ⟨g,j*7+4,none⟩=some d4:=hcc 4 _ rfl;have r5:wo.cell? ⟨g,j*7+5,none⟩=some d5:=hcc 5 _ rfl;have r6:wo.cell? ⟨g,j*7+6,none⟩=some d6:=hcc 6 _ rfl;have HQ:=zH (hq wo lF);unfold yL at HQ;obtain⟨its,hits⟩:∃z,al[j]=z:=⟨_,rfl⟩
   rw[hits]at hr HQ
   have hln:acc.length+its.length<=100001:=by
    have:=congrArg List.length hr;rw[List.length_append,List.length_append]at this;omega
   have HR2:=zH hr;clear hc hq hcc hr hits lF hg HR HC HKK;go_wp2_with fail
   refine HQ.out.mono ?_;rintro r w2 ⟨Ai,ci,rfl,hi,hb2⟩;have hown2:=aQ HN.out.own hb2;have hrdi:=dG hi;have HB2:=zH (HN.out.hb.trans (hb2.mono HN.out.hb.size));have hz2:=HB2.out.size;clear HQ hb2 r0 r1 r2 r3 r4 r5 r6 q1 HN;go_wp2_with (first|at_builtin;(refine aH (by rfl) _ _ 109 (by rfl) w0.heap.size 141 iT _ 6 56 Try.underlying109 hT hT0 hT1 hT2 rfl (by decide) (.slice A acc.length c) acc.length _ (by rfl) hown2 w2.heap.size Ai its.length ci (its.flatMap bP.cells) (by rfl) hrdi ?c1 ?c2 ?c3 ?c4 hz2 ?_))
   case c1=>rw[FH bP.cells mW]
   case c2=>exact Om its
   case c3=>unfold maxLen;omega
   case c4=>omega
   intro A6 c6 w6 hown6 jK _;have hb6:Below w0.heap.size w0 w6:=dY HB2.out hown2 zL jK hz2;have hal:(acc++its).length=acc.length+its.length:=List.length_append;have Vy:Hid (NmI b bx (acc++its).length w0 A6 c6 (acc++its) w6):=zH ⟨hb6,by rw[hal,List.flatMap_append];exact hown6⟩;clear hown6 jK hb6 hown2 hrdi hi HB2;go_wp2
   go_roundw
   case rel=>exact⟨j+1,A6,c6,acc++its,by omega,by rw[hal],by go_num,HR2,Vy⟩
   case measure=>simp[intOf];omega
  ·as_aux_lemma=>
   obtain rfl:j=k:=by omega
   have hr:=HR.out;rw[List.drop_eq_nil_of_le (by rw[HKK.out];exact Nat.le_refl _),List.flatten_nil,List.append_nil]at hr;subst hr;have q1:=(HKB.out.below HN.out.hb hbx).cell 1
   have HF:Hid (Below w.heap.size w wo):=zH (by
    rw[jw.out]
    exact HB0.out.trans (HN.out.hb.mono (by have:=HB0.out.size;have:=jw.out;omega)))
   have HO:Hid (wo.ownsRow w.heap.size 141 6 (.slice A acc.length c) acc.length (acc.flatMap bP.cells)):=zH (di HN.out.own (by have:=HB0.out.size;have:=jw.out;omega));clear HR HN;go_wp2
   go_ret
   exact⟨A,c,rfl,by first|exact HO.out|(rw[<-jw.out];exact HO.out),by first|exact HF.out|(rw[<-jw.out];exact HF.out)⟩
theorem sD {P : Nat → Prop} (b B : Nat) (s : ai) (iv : Value) (m : MS) (plain : Bool) (hn : m.items.length ≤ 1000) : ∀ (e : ax) (cs : List Value) (w : World), jg b B s iv m w → kZ P w e cs → aB e ≤ 100000 →
  Calls Try.prog 71 #[.pointer (some ⟨b,0,none⟩),.agg cs.toArray,.bool plain] w (yL (cO m.items plain e) w)
 |.leaf op n sc nm a p,cs,w,hm,h,hs=>by
  obtain rfl:cs=gK op n sc nm a p:=h;have:=uO b B s iv m op p (.int .i64 n) (.int .i64 sc) (.string (bytes a)) (bytes nm) plain none 0 0 [] rfl (by omega) w hm hn (by simp) (fun j hj=>absurd hj (by simp));rw[aF,List.flatten_nil,List.append_nil]at this;exact this
 |.un op x p,cs,w,hm,h,hs=>by
  obtain⟨g,xs,rfl,hP,hk,hx⟩:=h;obtain⟨y0,y1,y2,y3,y4,y5,y6,rfl,hy⟩:=hx.seven;have hs:1+aB x<=100000:=hs;have hle:=kW m.items plain x
  have:=uO b B s iv m op p (.int .i64 0) (.int .i64 0) (.string ⟨#[]⟩) ⟨#[]⟩ plain (some ⟨g,0,none⟩) 1 1 [cO m.items plain x] rfl (by omega) w hm hn (by simp;omega) (fun j hj=>by
   match j,hj with
   |0,_=>exact⟨g,y0,y1,y2,y3,y4,y5,y6,rfl,hk.lt,fun q u hu=>by rw[hk.cell];simpa using hu,fun W hW=>sD b B s iv m plain hn x _ W (hm.old hW) (hx.old hW) (by omega)⟩)
  rw[show(⟨#[]⟩:ByteArray).toList=[] by rw[ByteArray.toList_eq]]at this;have e:cO m.items plain (.un op x p)=eQ m.items op [] plain++[cO m.items plain x].flatten:=by simp[cO]
  rw[e];exact this
 |.bin op x y p,cs,w,hm,h,hs=>by
  obtain⟨g,xs,ys,rfl,hP,hk,hx,hy⟩:=h;obtain⟨x0,x1,x2,x3,x4,x5,x6,rfl,_⟩:=hx.seven;obtain⟨y0,y1,y2,y3,y4,y5,y6,rfl,_⟩:=hy.seven;have hs:1+aB x+aB y<=100000:=hs;have hlx:=kW m.items plain x;have Ji:=kW m.items plain y
  have:=uO b B s iv m op p (.int .i64 0) (.int .i64 0) (.string ⟨#[]⟩) ⟨#[]⟩ plain (some ⟨g,0,none⟩) 2 2 [cO m.items plain x,cO m.items plain y] rfl (by omega) w hm hn (by simp;omega) (fun j hj=>by
   match j,hj with
   | 0, _ => exact ⟨g, x0, x1, x2, x3, x4, x5, x6, rfl, hk.lt, fun q u hu => by
     rw[hk.cell];have hq:q<7:=(List.getElem?_eq_some_iff.1 hu).1;rw[List.getElem?_toArray]
     rw[List.getElem?_append_left (by simp;omega),Nat.zero_mul,Nat.zero_add,hu],fun W hW=>sD b B s iv m plain hn x _ W (hm.old hW) (hx.old hW) (by omega)⟩
   | 1, _ => exact ⟨g, y0, y1, y2, y3, y4, y5, y6, rfl, hk.lt, fun q u hu => by
     rw[hk.cell];rw[List.getElem?_toArray];rw[List.getElem?_append_right (by simp)]
     simpa using hu,fun W hW=>sD b B s iv m plain hn y _ W (hm.old hW) (hy.old hW) (by omega)⟩)
  rw[show(⟨#[]⟩:ByteArray).toList=[] by rw[ByteArray.toList_eq]]at this;have e:cO m.items plain (.bin op x y p)=eQ m.items op [] plain++[cO m.items plain x,cO m.items plain y].flatten:=by simp[cO]
  rw[e];exact this
def Ia (s:ai) (op:Nat) (nm a:Str) (items:List bP):Bool×Int:=
 if op≠25/\a≠iH then((dV nm items).2&&decide (0<=bM s (dV nm items).1.kind a),fZ s (dV nm items).1.kind (bM s (dV nm items).1.kind a))else((dV nm items).2,1)
def badM (op:Nat) (form:Nat) (k:Int):Bool:=((decide (24<op)&&form !=2)||(((decide (28<=op)&&decide (op<=30))&&k !=1)&&k !=4))||(op==31&&k !=4)
def nM (s:ai) (op:Nat) (nm a:Str) (p:Nat) (m:MS):Int×MS:=
 if(Ia s op nm a m.items).1=false then(0,dC 10 p m)
 else if badM op (dV nm m.items).1.form (Ia s op nm a m.items).2=true then((Ia s op nm a m.items).2,dC 11 p m)
 else((Ia s op nm a m.items).2,m)
theorem ai.ok.more {s:ai} {w:World} {b b':Nat} (h:s.ok w b) (hb:b<=b'):s.ok w b':=
 ⟨h.rd.more hb,h.len,fun t ht=>⟨(h.each t ht).rd.more hb,(h.each t ht).len,(h.each t ht).Rh,(h.each t ht).Ri⟩,h.syms.more hb,h.slen,h.ssize⟩
theorem Kv (b B : Nat) (s : ai) (iv : Value) (m : MS) (op p : Nat) (c1 c2 c3 : Value) (S1 S2 : ByteArray) (w : World) (h : jg b B s iv m w) (hbB : b < B) (hn : m.items.length ≤ 1000) :
  Calls Try.prog 86 #[.pointer (some ⟨b,0,none⟩),.agg #[.int .i64 op,c1,c2,c3,.string S1,.string S2,.int .i64 p]] w fun r w'=>r=.returned (.int .i64 (nM s op S1.toList S2.toList p m).1)/\gW b B s iv (nM s op S1.toList S2.toList p m).2 w w':=by
 have zC:Hid (∀W:World,Below w.heap.size w W->Calls Try.prog 66 #[.pointer (some ⟨b,0,none⟩),.string S1] W fun r w'=>r=.returned (.tuple #[.agg (dV S1.toList m.items).1.cells.toArray,.bool (dV S1.toList m.items).2])/\Below W.heap.size W w'):=zH fun W hW=>vZ b B s iv m W S1 (h.old hW) hn
 have jR:Hid (∀(e:Nat) (W:World),Below w.heap.size w W->Calls Try.prog 67 #[.pointer (some ⟨b,0,none⟩),.int .i64 e,.int .i64 p] W fun r w'=>r=.returned (.tuple #[])/\gW b B s iv (dC e p m) W w'):=zH fun e W hW=>jr b B s iv m W e p (h.old hW) hbB
 have HAT:Hid (∀(t:Int) (W:World),Below w.heap.size w W->Calls Try.prog 69 #[.agg #[.slice s.ta s.types.length s.tc,.slice s.sa s.syms.length s.sc],.int .i64 t,.string S2] W fun e w'=>e=.returned (.int .i64 (bM s t S2.toList))/\Below W.heap.size W w'):=zH fun t W hW=>uN s t S2 W ((h.old hW).CG.more (Nat.le_of_lt (h.old hW).bk.lt))
 have MN:Hid (∀(t a:Int) (W:World),Below w.heap.size w W->Calls Try.prog 68 #[.agg #[.slice s.ta s.types.length s.tc,.slice s.sa s.syms.length s.sc],.int .i64 t,.int .i64 a] W fun e w'=>e=.returned (.int .i64 (fZ s t a))/\Below W.heap.size W w'):=zH fun t a W hW=>Hy s t a W ((h.old hW).CG.more (Nat.le_of_lt (h.old hW).bk.lt))
 obtain⟨RES,hres⟩:∃R,nM s op S1.toList S2.toList p m=R:=⟨_,rfl⟩
 rw[hres];unfold nM Ia at hres;obtain⟨⟨⟨nm,xb,xp,xo,xf,xk⟩,fb⟩,hx⟩:∃z,dV S1.toList m.items=z:=⟨_,rfl⟩
 rw[hx]at hres zC;simp only[bP.cells]at hres zC;have aG:=zH hres;have HM:=zH h;have hbl:=h.bk.lt;obtain⟨M,hM⟩:∃M,bytes nm=M:=⟨_,rfl⟩
 rw[hM]at zC;clear hres h hx hM
 go_enter Try.func86,Try.ntmps86
 have kb:=Bk.new w 118 #[.int .i64 op,c1,c2,c3,.string S1,.string S2,.int .i64 p];have hb0:Below w.heap.size w (w.alloc (.cells #[.int .i64 op,c1,c2,c3,.string S1,.string S2,.int .i64 p] 118)):=zR.alloc zL _;go_upto_region 1 with fail
 generalize w.alloc (.cells #[.int .i64 op,c1,c2,c3,.string S1,.string S2,.int .i64 p] 118)=w0 at *;have hgx:=kb.lt;obtain⟨gx,YM⟩:∃z,w.heap.size=z:=⟨_,rfl⟩
 rw[YM]at kb hgx hbl⊢;have q4:=kb.cell 4;have HKB:=zH kb;have HB0:=zH hb0;have CO:=zH YM;clear kb hb0 YM;go_wp2_with fail
 refine(zC.out w0 HB0.out).mono ?_;rintro r w2 ⟨rfl,hb2⟩;have hz2:=hb2.size;have HB2:=zH hb2;clear hb2 zC q4;go_upto_region 2 with(first|(refine ae gm rfl _ _ rfl rfl [.string M,.int .i64 xb,.int .i64 xp,.int .i64 xo,.int .i64 xf,.int .i64 xk] rfl (Bk.new w2 _ _) rfl rfl rfl ?_;intro wA pA;go_frame))
 have FB:=zH (pA.below _ _ (HB2.out.alloc HB2.out.size _) (by have:=HB2.out.size;omega));have Xu:=zH pA.bk;have L8:w2.heap.size<wA.heap.size:=pA.bk.lt;generalize w2.heap.size=gy at *;clear pA HB2;obtain⟨lk,hlk⟩:∃z,(decide (op≠25)&& !(S2.toList==iH))=z:=⟨_,rfl⟩
 have hres:=aG.out;have hcond:(op≠25/\S2.toList≠iH)<->lk=true:=by rw[<-hlk];simp
 obtain⟨⟨Vz,kk⟩,hpr⟩:∃z,(if op≠25/\S2.toList≠iH then(fb&&decide (0<=bM s xk S2.toList),fZ s xk (bM s xk S2.toList))else(fb,1):Bool×Int)=z:=⟨_,rfl⟩
 rw[hpr]at hres;simp only at hres
 have Oo:(Vz,kk)=if lk=true then(fb&&decide (0<=bM s xk S2.toList),fZ s xk (bM s xk S2.toList))else(fb,1):=by
  rw[<-hpr]
  by_cases hc:lk=true
  ·rw[if_pos hc,if_pos (hcond.2 hc)]
  ·rw[if_neg hc,if_neg (fun h=>hc (hcond.1 h))]
 have BU:=zH Oo;have WY:=zH hlk;clear aG;have aG:=zH hres;clear hres hcond hpr Oo hlk;go_upto_region 3 with fail
 have kq:=HKB.out.below FB.out hgx;have q0:=kq.cell 0;have q5:=kq.cell 5;clear kq
 go_cut[23] (fun v wx=>v=.bool lk/\wA=wx)
 case first=>
  have hl:=WY.out
  by_cases h25:op=25
  ·have e25:((op:Int) !=25)=false:=by rw[bne_eq_false_iff_eq];omega
   have hst:lk=false:=by rw[<-hl];simp[h25]
   subst hst;clear h25 hl;go_wp2_with fail
   go_meet
   exact⟨rfl,rfl⟩
  ·have e25:((op:Int) !=25)=true:=by rw[bne_iff_ne];omega
   obtain⟨tm,FC⟩:∃z,(S2.toList==[84,73,77,69])=z:=⟨_,rfl⟩
   have htn:(S2.toList !=[84,73,77,69])= !tm:=by rw[bne,FC]
   have hst:lk= !tm:=by
    rw[<-hl,show(S2.toList==iH)=tm from FC];simp[h25]
   subst hst;clear h25 hl;cases tm
   all_goals
    go_wp2_with fail
    go_meet
    exact⟨rfl,rfl⟩
 case rest=>
 obtain⟨rfl,hwc⟩:=hcut;subst hwc;clear q0 q5;go_upto_if 23 with fail
 go_cut[6,7] (fun v6 v7 wx=>v6=.bool Vz/\v7=.int .i64 kk/\Hid (Below wA.heap.size wA wx))
 case first=>
  cases lk
  case false=>
   have hp:=BU.out;rw[if_neg (by decide)]at hp;injection hp with h1 h2
   subst h1;subst h2;go_wp2_with fail
   go_meet
   exact⟨rfl,rfl,zH zR⟩
  case true=>
   have hp:=BU.out;rw[if_pos rfl]at hp;injection hp with h1 h2
   obtain⟨aa,haa⟩:∃z,bM s xk S2.toList=z:=⟨_,rfl⟩
   rw[haa]at h1 h2;have HAA:=zH haa;have H1:=zH h1;have H2:=zH h2;clear h1 h2 haa BU WY aG;go_upto_region 4 with fail
   have yH:Hid (Below w.heap.size w wA):=zH (HB0.out.trans (FB.out.mono HB0.out.size));have hmw:=HM.out.old yH.out;have s0:wA.cell? ⟨b,0,none⟩=some (.slice s.ta s.types.length s.tc):=hmw.bk.cell 0;have s1:wA.cell? ⟨b,1,none⟩=some (.slice s.sa s.syms.length s.sc):=hmw.bk.cell 1;have y5:wA.cell? ⟨gy,5,none⟩=some (.int .i64 xk):=Xu.out.cell 5;have x5:wA.cell? ⟨gx,5,none⟩=some (.string S2):=(HKB.out.below FB.out hgx).cell 5;clear hmw;obtain⟨W,hW⟩:∃W,wA=W:=⟨_,rfl⟩
   rw[hW]at yH s0 s1 y5 x5 Xu FB L8⊢;have HWA:=zH hW;clear hW
   refine wx (fun k => false) [.is (.pointer (some ⟨b, 0, none⟩)),
     .is (.pointer (some ⟨b,0,none⟩)),
     .is (.pointer (some ⟨b,0,none⟩)),
     .is (.agg #[.slice s.ta s.types.length s.tc,.slice s.sa s.syms.length s.sc]),
     .is (.pointer (some ⟨gy,5,none⟩)),
     .is (.int .i64 xk),
     .is (.pointer (some ⟨gx,5,none⟩)),
     .is (.string S2),
     .is (.int .i64 (bM s xk S2.toList)),
     .is (.int .i64 (bM s xk S2.toList))] [3,8] (by kernel_rfl) (by kernel_rfl) (by kernel_rfl)
     (fun C=>.c (px C rfl (fun _ _=>rfl)) <|
     .c (px C rfl (fun _ _=>rfl)) <|
     .c (px C rfl (fun _ _=>rfl)) <|
     .c (pz [2] [] (by kernel_rfl) fun qK qa wr hB qO qF hK=>?_) <|
     .c (px C rfl (fun _ _=>rfl)) <|
     .c (px C rfl (fun _ h=>bW (lJ (bc h y5)))) <|
     .c (px C rfl (fun _ _=>rfl)) <|
     .c (px C rfl (fun _ h=>bW (Gf (bc h x5)))) <|
     .c (pz [3,5,7] [] (by kernel_rfl) fun qK qa wr hB qO qF hK=>?_) <|
     .c (px C rfl (fun _ _=>rfl)) <| .nil) ?_
   ·have e26:=ay qF.1 rfl rfl;clear qO qF;have hs0:=zE hB s0;have hs1:=zE hB s1;go_simp;exact hK _ _ zR rfl
   ·have e27:=ay qF.1 rfl rfl;have e29:=ay qF.2.1 rfl rfl;have e31:=ay qF.2.2.1 rfl rfl;clear qO qF;go_simp
    go_at_call 69
    refine(HAT.out xk wr (yH.out.trans (hB.mono yH.out.size))).mono ?_;rintro r w9 ⟨rfl,dO⟩;exact hK _ _ dO rfl
   intro qx wr hB hR hS;clear hR hS;simp only[bJ,List.take_succ_cons,List.take_zero,List.drop_succ_cons,List.drop_zero,List.toList_toArray,List.length_cons,List.length_nil,Act.put,List.setIfInBounds_toArray,List.set_cons_zero,List.set_cons_succ];refine zn ?_;rw[HAA.out];have HB4:=zH hB;have HBW4:=zH (yH.out.trans (hB.mono yH.out.size));have y5:=(aT hB gy 5 L8).trans y5;have hs0:=(aT hB b 0 (by have:=yH.out.size;have:=CO.out;have:=HM.out.bk.lt;omega)).trans s0;have hs1:=(aT hB b 1 (by have:=yH.out.size;have:=CO.out;have:=HM.out.bk.lt;omega)).trans s1;clear hB s0 s1 x5 yH;have yH:=HBW4;clear HBW4;go_upto_region 5 with fail
   go_cut[6] (fun v wx=>v=.bool Vz/\wr=wx)
   case first=>
    have h1:=H1.out;cases fb
    case false=>
     have hst:Vz=false:=by rw[h1];rfl
     subst hst;clear h1;go_wp2_with fail
     go_meet
     exact⟨rfl,rfl⟩
    case true=>
     replace h1:Vz=decide (0<=aa):=by rw[h1];rfl
     by_cases h0:0<=aa
     ·have hst:Vz=true:=h1.trans (decide_eq_true h0);have hd:decide ((0:Int)<=aa)=true:=decide_eq_true h0;subst hst;clear h1 h0;go_wp2_with fail
      go_meet
      exact⟨rfl,rfl⟩
     ·have hst:Vz=false:=h1.trans (decide_eq_false h0);have hd:decide ((0:Int)<=aa)=false:=decide_eq_false h0;subst hst;clear h1 h0;go_wp2_with fail
      go_meet
      exact⟨rfl,rfl⟩
   case rest=>
   obtain⟨rfl,hwc⟩:=hcut;subst hwc;go_upto_region 6 with fail
   obtain⟨W2,hW⟩:∃W2,wr=W2:=⟨_,rfl⟩
   have s0:=hs0;have s1:=hs1;rw[hW]at yH HB4 s0 s1 y5⊢;clear hW hs0 hs1 L8;obtain⟨W,hW⟩:∃W,W2=W:=⟨_,rfl⟩
   rw[hW]at yH HB4 s0 s1 y5⊢;clear hW
   refine wx (fun k => false) [.is (.pointer (some ⟨b, 0, none⟩)),
     .is (.pointer (some ⟨b,0,none⟩)),
     .is (.pointer (some ⟨b,0,none⟩)),
     .is (.agg #[.slice s.ta s.types.length s.tc,.slice s.sa s.syms.length s.sc]),
     .is (.pointer (some ⟨gy,5,none⟩)),
     .is (.int .i64 xk),
     .is (.int .i64 aa),
     .is (.int .i64 (fZ s xk aa)),
     .is (.int .i64 (fZ s xk aa))] [3,7] (by kernel_rfl) (by kernel_rfl) (by kernel_rfl)
     (fun C=>.c (px C rfl (fun _ _=>rfl)) <|
     .c (px C rfl (fun _ _=>rfl)) <|
     .c (px C rfl (fun _ _=>rfl)) <|
     .c (pz [2] [] (by kernel_rfl) fun qK qa wr hB qO qF hK=>?_) <|
     .c (px C rfl (fun _ _=>rfl)) <|
     .c (px C rfl (fun _ h=>bW (lJ (bc h y5)))) <|
     .c (px C rfl (fun _ _=>rfl)) <|
     .c (pz [3,5,6] [] (by kernel_rfl) fun qK qa wr hB qO qF hK=>?_) <|
     .c (px C rfl (fun _ _=>rfl)) <| .nil) ?_
   ·have e40:=ay qF.1 rfl rfl;clear qO qF;have hs0:=zE hB s0;have hs1:=zE hB s1;go_simp;exact hK _ _ zR rfl
   ·have e41:=ay qF.1 rfl rfl;have e43:=ay qF.2.1 rfl rfl;have e44:=ay qF.2.2.1 rfl rfl;clear qO qF;go_simp
    go_at_call 68
    refine(MN.out xk aa wr (yH.out.trans (hB.mono yH.out.size))).mono ?_;rintro r w9 ⟨rfl,dO⟩;exact hK _ _ dO rfl
   intro qx wr hB hR hS;clear hR hS;simp only[bJ,List.take_succ_cons,List.take_zero,List.drop_succ_cons,List.drop_zero,List.toList_toArray,List.length_cons,List.length_nil,Act.put,List.setIfInBounds_toArray,List.set_cons_zero,List.set_cons_succ];refine zn ?_;have HBF:=zH (HB4.out.trans (hB.mono HB4.out.size));clear hB s0 s1 y5 yH HB4;go_wp2_with fail
   go_meet
   exact⟨rfl,by rw[H2.out],zH (by rw[HWA.out];exact HBF.out)⟩
 case rest=>
 obtain⟨rfl,rfl,HB⟩:=hcut;have Oq:Hid (Below w.heap.size w wc):=zH ((HB0.out.trans (FB.out.mono HB0.out.size)).trans (HB.out.mono (Nat.le_trans HB0.out.size FB.out.size)));have q6:=((HKB.out.below FB.out hgx).below HB.out (by have:=FB.out.size;omega)).cell 6;cases Vz
 case false=>
  have hR:=aG.out;rw[if_pos rfl]at hR;subst hR;have HF:=zH (jR.out 10 wc Oq.out);clear aG BU WY;go_wp2_with fail
  refine HF.out.mono ?_;rintro r w5 ⟨rfl,hs5⟩;have HG:=zH (And.intro hs5.st ((below_grown Oq.out (some b)).trans hs5.grown));clear hs5 HF q6;go_wp2_with fail
  go_ret
  exact⟨rfl,HG.out.1,HG.out.2⟩
 case true=>
  have hR:=aG.out;rw[if_neg (by decide)]at hR;obtain⟨bad,hbad⟩:∃z,badM op xf kk=z:=⟨_,rfl⟩
  rw[hbad]at hR;have HR:=zH hR;have Fz:=zH hbad;have q0:=((HKB.out.below FB.out hgx).below HB.out (by have:=FB.out.size;omega)).cell 0;have y4:=(Xu.out.old HB.out).cell 4;clear aG hR hbad BU WY;go_upto_region 10 with fail
  go_cut[86] (fun v wx=>v=.bool bad/\wc=wx)
  case first=>
   have hb:=Fz.out;unfold badM at hb;obtain⟨f2,hf2⟩:∃z,((xf:Int) !=2)=z:=⟨_,rfl⟩
   obtain⟨k1,hk1⟩:∃z,(kk !=1)=z:=⟨_,rfl⟩
   obtain⟨k4,hk4⟩:∃z,(kk !=4)=z:=⟨_,rfl⟩
   have hf2':(xf !=2)=f2:=by rw[<-hf2,Bool.eq_iff_iff,bne_iff_ne,bne_iff_ne];omega
   rw[hf2',hk1,hk4]at hb;clear hf2';have hcl:op<=24\/(25<=op/\op<=27)\/(28<=op/\op<=30)\/op=31\/32<=op:=by omega
   rcases hcl with hc|hc|hc|hc|hc
   ·have l1:¬(24:Int)<(op:Int):=by omega
    have l2:¬(28:Int)<=(op:Int):=by omega
    have e31:((op:Int)==31)=false:=zB (by omega)
    have hst:bad=false:=by
     rw[<-hb];have a1:decide (24<op)=false:=by simp;omega
     have a2:decide (28<=op)=false:=by simp;omega
     have a3:(op==31)=false:=zB (by omega)
     rw[a1,a2,a3];rfl
    subst hst;clear hc hb;go_wp2_with fail
    go_meet
    exact⟨rfl,rfl⟩
   ·have l1:(24:Int)<(op:Int):=by omega
    have l2:¬(28:Int)<=(op:Int):=by omega
    have e31:((op:Int)==31)=false:=zB (by omega)
    have hst:bad=f2:=by
     rw[<-hb];have a1:decide (24<op)=true:=by simp;omega
     have a2:decide (28<=op)=false:=by simp;omega
     have a3:(op==31)=false:=zB (by omega)
     rw[a1,a2,a3];cases f2<;>rfl
    subst hst;clear hc hb;cases bad
    all_goals
     go_wp2_with fail
     go_meet
     exact⟨rfl,rfl⟩
   ·have l1:(24:Int)<(op:Int):=by omega
    have l2:(28:Int)<=(op:Int):=by omega
    have l3:(op:Int)<=(30:Int):=by omega
    have e31:((op:Int)==31)=false:=zB (by omega)
    have hst:bad=(f2||(k1&&k4)):=by
     rw[<-hb];have a1:decide (24<op)=true:=by simp;omega
     have a2:decide (28<=op)=true:=by simp;omega
     have a4:decide (op<=30)=true:=by simp;omega
     have a3:(op==31)=false:=zB (by omega)
     rw[a1,a2,a3,a4];cases f2<;>cases k1<;>cases k4<;>rfl
    subst hst;clear hc hb;cases f2<;>cases k1<;>cases k4
    all_goals
     go_wp2_with fail
     go_meet
     exact⟨rfl,rfl⟩
   ·have l1:(24:Int)<(op:Int):=by omega
    have l2:(28:Int)<=(op:Int):=by omega
    have l3:¬(op:Int)<=(30:Int):=by omega
    have e31:((op:Int)==31)=true:=by rw[beq_iff_eq];omega
    have hst:bad=(f2||k4):=by
     rw[<-hb];have a1:decide (24<op)=true:=by simp;omega
     have a2:decide (28<=op)=true:=by simp;omega
     have a4:decide (op<=30)=false:=by simp;omega
     have a3:(op==31)=true:=by rw[beq_iff_eq];omega
     rw[a1,a2,a3,a4];cases f2<;>cases k1<;>cases k4<;>rfl
    subst hst;clear hc hb;cases f2<;>cases k4
    all_goals
     go_wp2_with fail
     go_meet
     exact⟨rfl,rfl⟩
   ·have l1:(24:Int)<(op:Int):=by omega
    have l2:(28:Int)<=(op:Int):=by omega
    have l3:¬(op:Int)<=(30:Int):=by omega
    have e31:((op:Int)==31)=false:=zB (by omega)
    have hst:bad=f2:=by
     rw[<-hb];have a1:decide (24<op)=true:=by simp;omega
     have a2:decide (28<=op)=true:=by simp;omega
     have a4:decide (op<=30)=false:=by simp;omega
     have a3:(op==31)=false:=zB (by omega)
     rw[a1,a2,a3,a4];cases f2<;>cases k1<;>cases k4<;>rfl
    subst hst;clear hc hb;cases bad
    all_goals
     go_wp2_with fail
     go_meet
     exact⟨rfl,rfl⟩
  case rest=>
  obtain⟨rfl,hwc⟩:=hcut;subst hwc;clear q0 y4;cases bad
  case true=>
   have hR:=HR.out;rw[if_pos rfl]at hR;subst hR;have HF:=zH (jR.out 11 wc Oq.out);clear HR;go_wp2_with fail
   refine HF.out.mono ?_;rintro r w5 ⟨rfl,hs5⟩;have HG:=zH (And.intro hs5.st ((below_grown Oq.out (some b)).trans hs5.grown));clear hs5 HF q6;go_wp2_with fail
   go_ret
   exact⟨rfl,HG.out.1,HG.out.2⟩
  case false=>
   have hR:=HR.out;rw[if_neg (by decide)]at hR;subst hR;clear HR q6;go_wp2_with fail
   go_ret
   exact⟨rfl,HM.out.old Oq.out,below_grown Oq.out _⟩
def mg (s:ai) (op:Nat) (nm a:Str) (p:Nat) (ks:List Int) (m:MS):Int×MS:=
 if m.err≠0 then(0,m)
 else if op=20 then(1,m)
 else if op=21 then(4,m)
 else if op=22 then(2,m)
 else if op=23 then(3,if fC nm 0 (s.syms.map (·.toList))<0 then dC 10 p m else m)
 else if 24<=op then nM s op nm a p m
 else(FK op ks,if FK op ks=0 then dC 11 p m else m)
def dW (s:ai):ax->MS->Int×MS
 |.leaf op _ _ nm a p,m=>mg s op nm a p [] m
 |.un op x p,m=>mg s op [] [] p [(dW s x m).1] (dW s x m).2
 |.bin op x y p,m=>mg s op [] [] p [(dW s x m).1,(dW s y (dW s x m).2).1] (dW s y (dW s x m).2).2
theorem bU (e p:Nat) (m:MS):(dC e p m).items=m.items:=by unfold dC;split<;>rfl
theorem EI (s:ai) (op:Nat) (nm a:Str) (p:Nat) (m:MS):(nM s op nm a p m).2.items=m.items:=by
 unfold nM
 (repeat' split)<;>first|rfl|exact bU _ _ _
theorem qW (s:ai) (op:Nat) (nm a:Str) (p:Nat) (ks:List Int) (m:MS):(mg s op nm a p ks m).2.items=m.items:=by
 unfold mg
 (repeat' split)<;>first|rfl|exact bU _ _ _|exact EI _ _ _ _ _ _|(simp only[];split<;>first|rfl|exact bU _ _ _)
theorem gQ (s:ai):∀(e:ax) (m:MS),(dW s e m).2.items=m.items
 |.leaf ..,m=>qW _ _ _ _ _ _ _
 |.un op x p,m=>(qW _ _ _ _ _ _ _).trans (gQ s x m)
 |.bin op x y p,m=>(qW _ _ _ _ _ _ _).trans ((gQ s y _).trans (gQ s x m))
def wF:List (MS->Int×MS)->List Int->MS->List Int×MS
 |[],ks,m=>(ks,m)
 |f::fs,ks,m=>wF fs (ks++[(f m).1]) (f m).2
structure zA4 (b B:Nat) (s:ai) (iv:Value) (items:List bP) (w:World) (A:Option Addr) (j:Nat) (f:MS->Int×MS):Prop where
 ex:∃(g:Nat) (d0 d1 d2 d3 d4 d5 d6:Value),A=some ⟨g,0,none⟩/\g<w.heap.size/\g≠b/\(∀(q:Nat) (u:Value),[d0,d1,d2,d3,d4,d5,d6][q]? =some u->w.cell? ⟨g,j*7+q,none⟩=some u)/\
  ∀(m:MS) (W:World),w.grownBy W (some b)->jg b B s iv m W->m.items=items->Calls Try.prog 70 #[.pointer (some ⟨b,0,none⟩),.agg #[d0,d1,d2,d3,d4,d5,d6]] W fun r W'=>r=.returned (.int .i64 (f m).1)/\gW b B s iv (f m).2 W W'
 items:∀m,(f m).2.items=m.items
structure KdI (b B bx:Nat) (s:ai) (iv:Value) (items:List bP) (cells:Array Value) (w w0:World) (A:Option Addr) (n c:Nat) (ks:List Int) (m:MS) (W:World):Prop where
 st:jg b B s iv m W
 gw:w.grownBy W (some b)
 kx:Bk W bx 118 cells
 own:W.ownsRow w0.heap.size 3 1 (.slice A n c) n (aU ks)
 it:m.items=items
 sz:w0.heap.size<=W.heap.size
theorem jg.RD {b B:Nat} {s:ai} {iv:Value} {m:MS} {W W':World} {v:Value} {e:TypeId} {base size n:Nat} {xs:List Value} (h:jg b B s iv m W) (hr:W.ownsRow base e size v n xs) (hb:b<base) (hBb:∀k,iv.ownBlock=some k->k<base) (hg:W.grownBy W' v.ownBlock):jg b B s iv m W':=by
 have hne:some b≠v.ownBlock:=by
  intro he;have:=(hr.lt b he.symm).1;omega
 refine⟨h.bk.grown hg hne,h.CG.jf (je zR hr (Nat.le_of_lt hb) hg (Nat.le_of_lt h.bk.lt)),h.own.kept hg ?_⟩;rcases hv:iv.ownBlock with _|k
 ·exact .inl rfl
 ·right
  intro he;have h1:=hBb k hv;have h2:=(hr.lt k he.symm).1;omega
theorem DL {b B:Nat} {w wo w':World} {e:TypeId} {size n:Nat} {v:Value} {xs:List Value} (hg:w.grownBy wo (some b)) (h:wo.ownsRow B e size v n xs) (hB:w.heap.size<=B) (h2:wo.grownBy w' v.ownBlock):w.grownBy w' (some b):=He hg (di h hB) h2
theorem EJ:(Try.prog.info? 3).map (fun i=>(i.zero,i.size,i.bytes))=some (some (.int .i64 0),1,8):=by kernel_rfl
theorem xR (b B : Nat) (s : ai) (iv : Value) (m0 : MS) (op p : Nat) (c2 c3 : Value) (S1 S2 : ByteArray) (A0 : Option Addr) (k cc : Nat) (fs : List (MS → Int × MS)) (hk : fs.length = k) (hk2 : k ≤ 2) (w : World) (h : jg b B s iv m0 w) (hbB : b < B) (hn : m0.items.length ≤ 1000)
  (hcall:∀j (hj:j<fs.length),zA4 b B s iv m0.items w A0 j fs[j]):
  Calls Try.prog 70 #[.pointer (some ⟨b,0,none⟩),.agg #[.int .i64 op,.slice A0 k cc,c2,c3,.string S1,.string S2,.int .i64 p]] w fun r w'=>
   r=.returned (.int .i64 (mg s op S1.toList S2.toList p (wF fs [] m0).1 (wF fs [] m0).2).1)/\gW b B s iv (mg s op S1.toList S2.toList p (wF fs [] m0).1 (wF fs [] m0).2).2 w w':=by
 have HC:=zH hcall;have HKK:=zH hk;have HN:=zH hn;obtain⟨iT,hT,hT0,hT1,hT2⟩:=info_parts EJ;obtain⟨⟨KS,MF⟩,hfold⟩:∃z,wF fs [] m0=z:=⟨_,rfl⟩
 rw[hfold];simp only[];have H0:Hid (wF (fs.drop 0) [] m0=(KS,MF)):=zH (by rw[List.drop_zero];exact hfold);obtain⟨RES,hres⟩:∃z,mg s op S1.toList S2.toList p KS MF=z:=⟨_,rfl⟩
 rw[hres];have aG:=zH hres;have HM:=zH h;have hbl:=h.bk.lt;clear hcall hk hfold hres h hn
 go_enter Try.func70,Try.ntmps70
 have kb:=Bk.new w 118 #[.int .i64 op,.slice A0 k cc,c2,c3,.string S1,.string S2,.int .i64 p];have hb0:Below w.heap.size w (w.alloc (.cells #[.int .i64 op,.slice A0 k cc,c2,c3,.string S1,.string S2,.int .i64 p] 118)):=zR.alloc zL _;go_upto_region 1 with fail
 obtain⟨w0,hw0⟩:∃z,w.alloc (.cells #[.int .i64 op,.slice A0 k cc,c2,c3,.string S1,.string S2,.int .i64 p] 118)=z:=⟨_,rfl⟩
 rw[hw0]at kb hb0⊢;clear hw0;obtain⟨bx,hbx⟩:∃z,w.heap.size=z:=⟨_,rfl⟩
 have jw:=zH hbx;rw[hbx]at kb⊢;have hbb:b<bx:=by omega
 have hbxl:=kb.lt;have VA:b<w0.heap.size:=by omega
 have q1:=kb.cell 1;have HIV:Hid (∀j,iv.ownBlock=some j->j<w0.heap.size):=zH fun j hj=>Nat.lt_of_lt_of_le (HM.out.own.lt j hj).2 hb0.size
 have V0:Hid (KdI b B bx s iv m0.items #[.int .i64 op,.slice A0 k cc,c2,c3,.string S1,.string S2,.int .i64 p] w w0 none 0 0 [] m0 w0):=zH ⟨HM.out.old hb0,below_grown hb0 _,kb,World.ownsRow_nil _ _ _ _,rfl,Nat.le_refl _⟩;clear kb hb0 hbx;go_wp2_with fail
 clear q1
 go_loopw[5,11] (fun l i wr=>∃(j:Nat) (A:Option Addr) (c:Nat) (ks:List Int) (m:MS),j<=k/\l=.slice A j c/\i=.int .i64 j/\ks.length=j/\Hid (wF (fs.drop j) ks m=(KS,MF))/\Hid (KdI b B bx s iv m0.items #[.int .i64 op,.slice A0 k cc,c2,c3,.string S1,.string S2,.int .i64 p] w w0 A j c ks m wr)) (fun _ i _=>k-(intOf i).toNat)
 case atStart=>exact⟨0,none,0,[],m0,Nat.zero_le _,rfl,rfl,rfl,H0,V0⟩
 case round=>
  clear H0 V0;obtain⟨j,A,c,ks,m,hj,rfl,rfl,hkl,HR,HV⟩:=hrel;have RF:=zH hkl;clear hkl;obtain⟨wo,rfl⟩:∃wo:World,wo=wr:=⟨_,rfl⟩
  by_cases hlt:j<k
  ·as_aux_lemma=>
   have hjl:j<fs.length:=by rw[HKK.out];exact hlt
   obtain⟨g,d0,d1,d2,d3,d4,d5,d6,rfl,hg,hgb,hc,hq⟩:=(HC.out j hjl).ex;have hit:=(HC.out j hjl).items m;have hr:=HR.out;rw[List.drop_eq_getElem_cons hjl]at hr;have hr2:wF (fs.drop (j+1)) (ks++[(fs[j] m).1]) (fs[j] m).2=(KS,MF):=hr;have q1:=HV.out.kx.cell 1
   have hcc:∀(q:Nat) (u:Value),[d0,d1,d2,d3,d4,d5,d6][q]? =some u->wo.cell? ⟨g,j*7+q,none⟩=some u:=fun q u h=>by
    rw[<-hc q u h];exact World.cell?_of_block (w:=w) (HV.out.gw.block g hg (aA hgb))
   have r0:wo.cell? ⟨g,j*7,none⟩=some d0:=hcc 0 _ rfl;have r1:wo.cell? ⟨g,j*7+1,none⟩=some d1:=hcc 1 _ rfl;have r2:wo.cell? ⟨g,j*7+2,none⟩=some d2:=hcc 2 _ rfl;have r3:wo.cell? ⟨g,j*7+3,none⟩=some d3:=hcc 3 _ rfl;have r4:wo.cell? ⟨g,j*7+4,none⟩=some d4:=hcc 4 _ rfl;have r5:wo.cell? ⟨g,j*7+5,none⟩=some d5:=hcc 5 _ rfl;have r6:wo.cell? ⟨g,j*7+6,none⟩=some d6:=hcc 6 _ rfl;have HQ:=zH (hq m wo HV.out.gw HV.out.st HV.out.it);obtain⟨⟨kk,m2⟩,hfm⟩:∃z,fs[j] m=z:=⟨_,rfl⟩
   rw[hfm]at hr2 HQ hit;simp only at hr2 HQ hit;have HR2:=zH hr2;have HIT:=zH hit;clear hc hq hcc hr hr2 hfm hg hgb hit HR HC aG;go_wp2_with fail
   refine HQ.out.mono ?_;rintro r w2 ⟨rfl,hs2⟩;have hown2:=fV HV.out.own hs2.grown VA;have hz2:w0.heap.size<=w2.heap.size:=Nat.le_trans HV.out.sz hs2.grown.size;have jc:Below w2.heap.size w2 (w2.alloc (.cells #[.int .i64 kk] 3)):=zR.alloc zL _;have dD:=aQ hown2 jc;have oU:w0.heap.size<=(w2.alloc (.cells #[.int .i64 kk] 3)).heap.size:=by simp;omega
   have V2:jg b B s iv m2 (w2.alloc (.cells #[.int .i64 kk] 3))/\w.grownBy (w2.alloc (.cells #[.int .i64 kk] 3)) (some b)/\Bk (w2.alloc (.cells #[.int .i64 kk] 3)) bx 118 #[.int .i64 op,.slice (some ⟨g,0,none⟩) k cc,c2,c3,.string S1,.string S2,.int .i64 p]:=
    ⟨hs2.st.old jc,(HV.out.gw.trans hs2.grown).trans (below_grown jc _),(HV.out.kx.grown hs2.grown (aA (by omega))).old jc⟩
   have iy:=zH V2;have hkl:=RF.out;have hj2:j<=2:=by omega
   have RG:Hid (m2.items=m0.items):=zH (HIT.out.trans HV.out.it);clear HQ hs2 hown2 V2 hkl r0 r1 r2 r3 r4 r5 r6 q1 HV HIT;go_wp2_with (first|at_builtin;(refine aH (by rfl) _ _ 22 (by rfl) w0.heap.size 3 iT _ 1 8 Try.underlying22 hT hT0 hT1 hT2 rfl (by decide) (.slice A j c) j _ (by rfl) dD (w2.heap.size+1) (some ⟨w2.heap.size,0,none⟩) 1 1 [.int .i64 kk] (by rfl) (Rd.lit rfl _ _) (by rfl) ?c2 ?c3 ?c4 oU ?_))
   case c2=>intro u hu;simp at hu;subst hu;rfl
   case c3=>unfold maxLen;omega
   case c4=>omega
   intro A6 c6 w6 hown6 jK _
   have hneb:some bx≠(Value.slice A j c).ownBlock:=by
    intro he;have:=(dD.lt bx he.symm).1;omega
   have fM:Hid (KdI b B bx s iv m0.items #[.int .i64 op,.slice (some ⟨g,0,none⟩) k cc,c2,c3,.string S1,.string S2,.int .i64 p] w w0 A6 (j+1) c6 (ks++[kk]) m2 w6):=zH
    ⟨iy.out.1.RD dD VA HIV.out jK,by
     have hwl:w.heap.size<=w0.heap.size:=by have:=jw.out;omega
     exact DL iy.out.2.1 dD hwl jK,iy.out.2.2.grown jK hneb,by unfold aU;rw[List.map_append];exact hown6,RG.out,by have:=jK.size;omega⟩
   have HKL2:Hid ((ks++[kk]).length=j+1):=zH (by rw[List.length_append,RF.out];rfl);clear hown6 jK dD oU iy hneb jc RF;go_wp2
   go_roundw
   case rel=>exact⟨j+1,A6,c6,ks++[kk],m2,by omega,rfl,by go_num,HKL2.out,HR2,fM⟩
   case measure=>simp[intOf];omega
  ·obtain rfl:j=k:=by omega
   have hr:=HR.out;rw[List.drop_eq_nil_of_le (by rw[HKK.out];exact Nat.le_refl _)]at hr;have hr:(ks,m)=(KS,MF):=hr;injection hr with h1 h2
   subst h1;subst h2;have c3':=HV.out.st.c3;clear HR HC HKK hlt hj
   by_cases her:m.err=0
   case neg=>
    as_aux_lemma=>
    have iV:((m.err:Int) !=0)=true:=by rw[bne_iff_ne];omega
    have hR:=aG.out;unfold mg at hR;rw[if_pos her]at hR;subst hR;have q1:=HV.out.kx.cell 1;clear her aG;go_wp2
    go_ret
    exact⟨rfl,HV.out.st,HV.out.gw⟩
   case pos=>
   have iV:((m.err:Int) !=0)=false:=by rw[bne_eq_false_iff_eq];omega
   have hR:=aG.out;unfold mg at hR;rw[if_neg (by omega)]at hR;have HR2:=zH hR;have q0:=HV.out.kx.cell 0;have q1:=HV.out.kx.cell 1;clear aG hR her;have hcl:op=20\/op=21\/op=22\/op=23\/24<=op\/op<20:=by omega
   rcases hcl with hc|hc|hc|hc|hc|hc
   ·as_aux_lemma=>
    have e20:((op:Int)==20)=true:=by rw[beq_iff_eq];omega
    have hR:=HR2.out;rw[if_pos hc]at hR;subst hR;clear hc HR2;go_wp2
    go_ret
    exact⟨rfl,HV.out.st,HV.out.gw⟩
   ·as_aux_lemma=>
    have e20:((op:Int)==20)=false:=zB (by omega)
    have e21:((op:Int)==21)=true:=by rw[beq_iff_eq];omega
    have hR:=HR2.out;rw[if_neg (by omega),if_pos hc]at hR;subst hR;clear hc HR2;go_wp2
    go_ret
    exact⟨rfl,HV.out.st,HV.out.gw⟩
   ·as_aux_lemma=>
    have e20:((op:Int)==20)=false:=zB (by omega)
    have e21:((op:Int)==21)=false:=zB (by omega)
    have e22:((op:Int)==22)=true:=by rw[beq_iff_eq];omega
    have hR:=HR2.out;rw[if_neg (by omega),if_neg (by omega),if_pos hc]at hR;subst hR;clear hc HR2;go_wp2
    go_ret
    exact⟨rfl,HV.out.st,HV.out.gw⟩
   ·
    have e20:((op:Int)==20)=false:=zB (by omega)
    have e21:((op:Int)==21)=false:=zB (by omega)
    have e22:((op:Int)==22)=false:=zB (by omega)
    have e23:((op:Int)==23)=true:=by rw[beq_iff_eq];omega
    have hR:=HR2.out;rw[if_neg (by omega),if_neg (by omega),if_neg (by omega),if_pos hc]at hR;obtain⟨sa,hsa⟩:∃z,fC S1.toList 0 (s.syms.map (·.toList))=z:=⟨_,rfl⟩
    rw[hsa]at hR;obtain⟨neg,hneg⟩:∃z,decide (sa<0)=z:=⟨_,rfl⟩
    have hR2:RES=(3,if neg=true then dC 10 p m else m):=by
     rw[<-hR,<-hneg]
     by_cases h:sa<0<;>simp[h]
    have HR3:=zH hR2
    have HAT:Hid (∀W:World,Below wo.heap.size wo W->Calls Try.prog 85 #[.slice s.sa s.syms.length s.sc,.string S1] W fun e w'=>e=.returned (.int .i64 sa)/\W=w'):=zH fun W hW=>by
     have:=Rf s.sa s.sc s.syms S1 b W ((HV.out.st.old hW).CG.syms) (by have:=HV.out.st.CG.slen;unfold maxLen;omega)
     rwa [hsa]at this
    have s1:wo.cell? ⟨b,1,none⟩=some (.slice s.sa s.syms.length s.sc):=HV.out.st.bk.cell 1;have x4:wo.cell? ⟨bx,4,none⟩=some (.string S1):=HV.out.kx.cell 4;have jR:Hid (∀W:World,Below wo.heap.size wo W->Calls Try.prog 67 #[.pointer (some ⟨b,0,none⟩),.int .i64 10,.int .i64 p] W fun r w'=>r=.returned (.tuple #[])/\gW b B s iv (dC 10 p m) W w'):=zH fun W hW=>jr b B s iv m W 10 p (HV.out.st.old hW) hbB
    clear hc HR2 hR hR2 hsa;go_upto_region 16 with fail
    clear q0;obtain⟨W,hW⟩:∃W,wo=W:=⟨_,rfl⟩
    subst hW
    refine wx (fun k => false) [.is (.pointer (some ⟨b, 0, none⟩)),
      .is (.pointer (some ⟨b,0,none⟩)),
      .is (.pointer (some ⟨b,0,none⟩)),
      .is (.pointer (some ⟨b,1,none⟩)),
      .is (.slice s.sa s.syms.length s.sc),
      .is (.pointer (some ⟨bx,4,none⟩)),
      .is (.string S1),
      .is (.int .i64 sa),
      .is (.bool neg)] [7,8] (by kernel_rfl) (by kernel_rfl) (by kernel_rfl)
      (fun C=>.c (px C rfl (fun _ _=>rfl)) <|
      .c (px C rfl (fun _ _=>rfl)) <|
      .c (px C rfl (fun _ _=>rfl)) <|
      .c (px C rfl (fun _ _=>rfl)) <|
      .c (px C rfl (fun _ h=>bW (ld59 (bc h s1)))) <|
      .c (px C rfl (fun _ _=>rfl)) <|
      .c (px C rfl (fun _ h=>bW (Gf (bc h x4)))) <|
      .c (pz [4,6] [] (by kernel_rfl) fun qK qa wr hB qO qF hK=>?_) <|
      .c (pz [7] [] (by kernel_rfl) fun qK qa wr hB qO qF hK=>?_) <| .nil) ?_
    ·have e50:=ay qF.1 rfl rfl;have e52:=ay qF.2.1 rfl rfl;clear qO qF;go_simp
     go_at_call 85
     refine(HAT.out wr (hB)).mono ?_;rintro r w9 ⟨rfl,rfl⟩;exact hK _ _ zR rfl
    ·have e53:=ay qF.1 rfl rfl;clear qO qF;go_simp;refine hK _ _ zR ?_
     show(_:Value)=_
     first|rfl|rw[hneg]|(simp[hneg];done)
    intro qx wr hB hR hS;clear hR hS;simp only[bJ,List.take_succ_cons,List.take_zero,List.drop_succ_cons,List.drop_zero,List.toList_toArray,List.length_cons,List.length_nil,Act.put,List.setIfInBounds_toArray,List.set_cons_zero,List.set_cons_succ];refine zn ?_;have HB:=zH hB;have q6:=(HV.out.kx.old hB).cell 6;clear hB s1 x4 HAT;cases neg
    case false=>
     have hR:=HR3.out;rw[if_neg (by decide)]at hR;subst hR;clear HR3 hneg;go_wp2
     go_ret
     exact⟨rfl,HV.out.st.old HB.out,HV.out.gw.trans (below_grown HB.out _)⟩
    case true=>
     have hR:=HR3.out;rw[if_pos rfl]at hR;subst hR;clear HR3 hneg;go_wp2_with fail
     refine(jR.out _ HB.out).mono ?_;rintro r w5 ⟨rfl,hs5⟩;have HG:=zH (And.intro hs5.st ((HV.out.gw.trans (below_grown HB.out (some b))).trans hs5.grown));clear hs5 q6 jR;go_wp2
     go_ret
     exact⟨rfl,HG.out.1,HG.out.2⟩
   ·as_aux_lemma=>
    have e20:((op:Int)==20)=false:=zB (by omega)
    have e21:((op:Int)==21)=false:=zB (by omega)
    have e22:((op:Int)==22)=false:=zB (by omega)
    have e23:((op:Int)==23)=false:=zB (by omega)
    have e24:(24:Int)<=(op:Int):=by omega
    have hR:=HR2.out;rw[if_neg (by omega),if_neg (by omega),if_neg (by omega),if_neg (by omega),if_pos hc]at hR;have HF:=Kv b B s iv m op p (.slice A0 j cc) c2 c3 S1 S2 wo HV.out.st hbB (by rw[HV.out.it];exact HN.out);rw[hR]at HF;have HFF:=zH HF;have q2:=HV.out.kx.cell 2;have q3:=HV.out.kx.cell 3;have q4:=HV.out.kx.cell 4;have q5:=HV.out.kx.cell 5;have q6:=HV.out.kx.cell 6;clear hc HR2 hR HF;go_wp2_with fail
    refine HFF.out.mono ?_;rintro r w5 ⟨rfl,hs5⟩;have HG:=zH (And.intro hs5.st (HV.out.gw.trans hs5.grown));clear hs5 HFF q0 q1 q2 q3 q4 q5 q6 c3';go_wp2
    go_ret
    exact⟨rfl,HG.out.1,HG.out.2⟩
   ·as_aux_lemma=>
    have e20:((op:Int)==20)=false:=zB (by omega)
    have e21:((op:Int)==21)=false:=zB (by omega)
    have e22:((op:Int)==22)=false:=zB (by omega)
    have e23:((op:Int)==23)=false:=zB (by omega)
    have e24:¬(24:Int)<=(op:Int):=by omega
    have hR:=HR2.out;rw[if_neg (by omega),if_neg (by omega),if_neg (by omega),if_neg (by omega),if_neg (by omega)]at hR;have hlk:=RF.out
    have hrs:Calls Try.prog 87 #[.int .i64 op,.slice A j c] wo fun e w'=>e=.returned (.int .i64 (FK op ks))/\Below wo.heap.size wo w':=by
     have hown:=HV.out.own;rw[<-hlk]at hown⊢;exact FM (op:Int) ks A c wo (by omega) (dG hown)
    obtain⟨rk,hrk⟩:∃z,FK (op:Int) ks=z:=⟨_,rfl⟩
    rw[hrk]at hR hrs;have HRS:=zH hrs;have HR3:=zH hR;have jR:Hid (∀W:World,Below wo.heap.size wo W->Calls Try.prog 67 #[.pointer (some ⟨b,0,none⟩),.int .i64 11,.int .i64 p] W fun r w'=>r=.returned (.tuple #[])/\gW b B s iv (dC 11 p m) W w'):=zH fun W hW=>jr b B s iv m W 11 p (HV.out.st.old hW) hbB
    clear hc HR2 hR hrs hrk hlk;go_wp2_with fail
    refine HRS.out.mono ?_;rintro r w5 ⟨rfl,hb5⟩;have RH:=zH hb5;have q6:=(HV.out.kx.old hb5).cell 6;clear HRS hb5 q0
    by_cases h0:rk=0
    ·have hI:(rk==0)=true:=by rw[beq_iff_eq];exact h0
     have hR:=HR3.out;rw[if_pos h0]at hR;subst hR;clear h0 HR3;go_wp2_with fail
     refine(jR.out _ RH.out).mono ?_;rintro r w6 ⟨rfl,hs6⟩;have HG:=zH (And.intro hs6.st ((HV.out.gw.trans (below_grown RH.out (some b))).trans hs6.grown));clear hs6 jR q6;go_wp2
     go_ret
     exact⟨rfl,HG.out.1,HG.out.2⟩
    ·have hI:(rk==0)=false:=by rw[beq_eq_false_iff_ne];exact h0
     have hR:=HR3.out;rw[if_neg h0]at hR;subst hR;clear h0 HR3 jR;go_wp2
     go_ret
     exact⟨rfl,HV.out.st.old RH.out,HV.out.gw.trans (below_grown RH.out _)⟩
theorem jZ {P : Nat → Prop} (b B : Nat) (s : ai) (iv : Value) (hbB : b < B) (Jj : ∀ g, P g → g ≠ b) : ∀ (e : ax) (cs : List Value) (m : MS) (w : World), m.items.length ≤ 1000 → jg b B s iv m w → kZ P w e cs →
  Calls Try.prog 70 #[.pointer (some ⟨b,0,none⟩),.agg cs.toArray] w fun r w'=>r=.returned (.int .i64 (dW s e m).1)/\gW b B s iv (dW s e m).2 w w'
 |.leaf op n sc nm a p,cs,m,w,hn,hm,h=>by
  obtain rfl:cs=gK op n sc nm a p:=h;have:=xR b B s iv m op p (.int .i64 n) (.int .i64 sc) (bytes nm) (bytes a) none 0 0 [] rfl (by omega) w hm hbB hn (fun j hj=>absurd hj (by simp));rw[aF,aF]at this;exact this
 |.un op x p,cs,m,w,hn,hm,h=>by
  obtain⟨g,xs,rfl,hP,hk,hx⟩:=h;obtain⟨y0,y1,y2,y3,y4,y5,y6,rfl,hy⟩:=hx.seven
  have:=xR b B s iv m op p (.int .i64 0) (.int .i64 0) ⟨#[]⟩ ⟨#[]⟩ (some ⟨g,0,none⟩) 1 1 [dW s x] rfl (by omega) w hm hbB hn (fun j hj=>by
   match j,hj with
   |0,_=>exact⟨⟨g,y0,y1,y2,y3,y4,y5,y6,rfl,hk.lt,Jj g hP,fun q u hu=>by rw[hk.cell];simpa using hu,fun m' W hW hm' hi=>jZ b B s iv hbB Jj x _ m' W (by rw[hi];exact hn) hm' (hx.keep fun q hq hlt=>⟨hq,hW.block q hlt (aA (Jj q hq))⟩)⟩,fun m'=>gQ s x m'⟩)
  rw[show(⟨#[]⟩:ByteArray).toList=[] by rw[ByteArray.toList_eq]]at this;exact this
 |.bin op x y p,cs,m,w,hn,hm,h=>by
  obtain⟨g,xs,ys,rfl,hP,hk,hx,hy⟩:=h;obtain⟨x0,x1,x2,x3,x4,x5,x6,rfl,_⟩:=hx.seven;obtain⟨y0,y1,y2,y3,y4,y5,y6,rfl,_⟩:=hy.seven
  have:=xR b B s iv m op p (.int .i64 0) (.int .i64 0) ⟨#[]⟩ ⟨#[]⟩ (some ⟨g,0,none⟩) 2 2 [dW s x,dW s y] rfl (by omega) w hm hbB hn (fun j hj=>by
   match j,hj with
   | 0, _ => exact ⟨⟨g, x0, x1, x2, x3, x4, x5, x6, rfl, hk.lt, Jj g hP, fun q u hu => by
     rw[hk.cell];have hq:q<7:=(List.getElem?_eq_some_iff.1 hu).1;rw[List.getElem?_toArray]
     rw[List.getElem?_append_left (by simp;omega),Nat.zero_mul,Nat.zero_add,hu],fun m' W hW hm' hi=>jZ b B s iv hbB Jj x _ m' W (by rw[hi];exact hn) hm' (hx.keep fun q hq hlt=>⟨hq,hW.block q hlt (aA (Jj q hq))⟩)⟩,fun m'=>gQ s x m'⟩
   | 1, _ => exact ⟨⟨g, y0, y1, y2, y3, y4, y5, y6, rfl, hk.lt, Jj g hP, fun q u hu => by
     rw[hk.cell];rw[List.getElem?_toArray];rw[List.getElem?_append_right (by simp)]
     simpa using hu,fun m' W hW hm' hi=>jZ b B s iv hbB Jj y _ m' W (by rw[hi];exact hn) hm' (hy.keep fun q hq hlt=>⟨hq,hW.block q hlt (aA (Jj q hq))⟩)⟩,fun m'=>gQ s y m'⟩)
  rw[show(⟨#[]⟩:ByteArray).toList=[] by rw[ByteArray.toList_eq]]at this;exact this
end Go.Proofs.Ytbjnhllkdilpfaa
