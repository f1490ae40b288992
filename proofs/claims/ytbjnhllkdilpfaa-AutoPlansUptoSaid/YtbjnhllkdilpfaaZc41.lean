/- Part 41 of the proof. No conditions. -/
import Derived.Test.YtbjnhllkdilpfaaZc33
import Derived.Test.YtbjnhllkdilpfaaZc28
import Derived.Test.YtbjnhllkdilpfaaZc40
namespace Go.Proofs.Ytbjnhllkdilpfaa
open Go.RowKit
set_option maxRecDepth 100000
set_option maxHeartbeats 16000000
set_option linter.unusedVariables false
set_option linter.unusedSimpArgs false
def prT (p:Nat×Int):kM:=⟨p.1,p.2,[],[]⟩
def nN (s:ai) (win:Nat):Nat->List (List aZ)->List bQ->MS->List bQ×MS
 |_,[],bs,m=>(bs,m)
 |i,l::r,bs,m=>nN s win (i+1) r (bs++[⟨i,win,(DR s i l 0 0 [] m).1.map prT⟩]) (DR s i l 0 0 [] m).2
def nO (s:ai):List ax->List bQ->MS->List bQ×MS
 |[],bs,m=>(bs,m)
 |x::l,bs,m=>nO s l (mZ s x bs m).1 (mZ s x bs m).2
structure oC where
 aP:Nat
 keys:List Int
 branches:List bQ
def wW:oC:=⟨0,[],[]⟩
def E5 (s:ai):Int:=vY (s.types.map sig) s.syms
def ms0:MS:=⟨[],0,0⟩
def ni (s:ai) (q:bK):oC×Nat×Int:=
 if E5 s≠0 then(wW,0,E5 s)
 else if qZ q≠0 then(wW,0,qZ q)
 else if(nO s q.cond (nN s q.window 0 q.branches [] ms0).1 (keysT s q.key q.keyAt (nN s q.window 0 q.branches [] ms0).2).2).2.err≠0 then
  (wW,(nO s q.cond (nN s q.window 0 q.branches [] ms0).1 (keysT s q.key q.keyAt (nN s q.window 0 q.branches [] ms0).2).2).2.pos,(nO s q.cond (nN s q.window 0 q.branches [] ms0).1 (keysT s q.key q.keyAt (nN s q.window 0 q.branches [] ms0).2).2).2.err)
 else(⟨q.aP,(keysT s q.key q.keyAt (nN s q.window 0 q.branches [] ms0).2).1,(nO s q.cond (nN s q.window 0 q.branches [] ms0).1 (keysT s q.key q.keyAt (nN s q.window 0 q.branches [] ms0).2).2).1⟩,0,0)
theorem BH (s:ai) (br:Nat):∀(l:List aZ) (i pos:Nat) (ps:List (Nat×Int)) (m:MS),(DR s br l i pos ps m).1.length=ps.length+l.length/\(DR s br l i pos ps m).2.items.length=m.items.length+l.length/\∀y∈(DR s br l i pos ps m).2.items,y∈m.items\/(y.br=br/\y.part<i+l.length)
 |[],i,pos,ps,m=>⟨rfl,rfl,fun y hy=>.inl hy⟩
 |x::l,i,pos,ps,m=>by
  unfold DR;simp only[];generalize hm1:(if(decide (typeAt s x.type<0)||(dV x.name m.items).2)=true then dC 10 x.pos m else m)=m1
  have h1:m1.items=m.items:=by
   rw[<-hm1];split
   ·exact bU _ _ _
   ·rfl
  generalize hm2:(if i=0/\x.form=3 then dC 15 x.pos m1 else m1)=m2
  have h2:m2.items=m.items:=by
   rw[<-hm2];split
   ·rw[bU,h1]
   ·exact h1
  have ih:=BH s br l (i+1) (if x.form≠3 then pos+1 else pos) (ps++[(x.form,typeAt s x.type)]) ⟨m2.items++[⟨x.name,br,i,pos,x.form,typeAt s x.type⟩],m2.err,m2.pos⟩;refine⟨by rw[ih.1,List.length_append];simp;omega,by rw[ih.2.1];simp[h2];omega,fun y hy=>?_⟩;rcases ih.2.2 y hy with h|h
  ·rcases List.mem_append.1 h with h|h
   ·rw[h2]at h;exact .inl h
   ·simp only[List.mem_cons,List.not_mem_nil,or_false]at h;subst h;exact .inr ⟨rfl,by simp⟩
  ·exact .inr ⟨h.1,by simp;omega⟩
theorem InT.mono {bs:List bQ} {y:bP} (h:InT bs y) (l:List bQ):InT (bs++l) y:=by
 obtain⟨br,h1,h2⟩:=h;exact⟨br,by rw[List.getElem?_append_left (List.getElem?_eq_some_iff.1 h1).1];exact h1,h2⟩
theorem D6 (s : ai) (win : Nat) : ∀ (r : List (List aZ)) (i : Nat) (bs : List bQ) (m : MS), bs.length = i → (∀ y ∈ m.items, InT bs y) → (∀ b ∈ bs, 0 < b.ps.length ∧ ∀ p ∈ b.ps, p.gs = [] ∧ p.cs = []) → (∀ l ∈ r, 0 < l.length) →
  (nN s win i r bs m).1.length=i+r.length/\(∀y∈(nN s win i r bs m).2.items,InT (nN s win i r bs m).1 y)/\(nN s win i r bs m).2.items.length=m.items.length+(r.map List.length).sum/\∀b∈(nN s win i r bs m).1,0<b.ps.length/\∀p∈b.ps,p.gs=[]/\p.cs=[]
 |[],i,bs,m,hl,hin,hb,_=>⟨hl,hin,rfl,hb⟩
 |l::r,i,bs,m,hl,hin,hb,hr=>by
  have hs:=BH s i l 0 0 [] m;unfold nN;have ih:=D6 s win r (i+1) (bs++[⟨i,win,(DR s i l 0 0 [] m).1.map prT⟩]) (DR s i l 0 0 [] m).2 (by simp[hl]) (fun y hy=>?_) (fun b hb'=>?_) (fun x hx=>hr x (by simp[hx]))
  ·exact⟨by rw[ih.1];simp;omega,ih.2.1,by rw[ih.2.2.1,hs.2.1];simp;omega,ih.2.2.2⟩
  ·rcases hs.2.2 y hy with h|h
   ·exact(hin y h).mono _
   ·refine⟨⟨i,win,(DR s i l 0 0 [] m).1.map prT⟩,?_,?_⟩
    ·rw[h.1,List.getElem?_append_right (by omega),hl,Nat.sub_self];rfl
    ·simp only[List.length_map,hs.1]
     simpa using h.2
  ·rcases List.mem_append.1 hb' with h|h
   ·exact hb b h
   ·simp only[List.mem_cons,List.not_mem_nil,or_false]at h;subst h;refine⟨by simp only[List.length_map,hs.1];have:=hr l (by simp);simpa using this,fun p hp=>?_⟩;obtain⟨a,_,rfl⟩:=List.mem_map.1 hp;exact⟨rfl,rfl⟩
def BX (bs:List bQ):List Nat:=bs.map (·.ps.length)
theorem BI {α β:Type} (f:α->β) (g:α->α) (h:∀a,f (g a)=f a):∀(l:List α) (i:Nat),(l.modify i g).map f=l.map f
 |[],i=>by simp
 |a::l,0=>by simp[h]
 |a::l,i+1=>by
  have:=BI f g h l i;simp[this]
theorem pI {α:Type} {P P':α->Prop} {g:α->α} (h1:∀a,P a->P' (g a)) (h2:∀a,P a->P' a):∀(l:List α) (i:Nat),(∀a∈l,P a)->∀a∈l.modify i g,P' a
 |[],i,_,a,ha=>by simp at ha
 |b::l,0,h,a,ha=>by
  simp at ha;rcases ha with rfl|ha
  ·exact h1 b (h b (by simp))
  ·exact h2 a (h a (by simp[ha]))
 |b::l,i+1,h,a,ha=>by
  simp at ha;rcases ha with rfl|ha
  ·exact h2 a (h a (by simp))
  ·exact pI h1 h2 l i (fun x hx=>h x (by simp[hx])) a ha
theorem Wi (bs:List bQ) (i k:Nat) (g:Bool) (t:T):BX (BC bs i k g t)=BX bs:=by
 unfold BX BC;exact BI _ _ (fun a=>by simp) bs i
theorem Wj (k:Nat) (t:T) (bs:List bQ):BX (wM k t bs)=BX bs:=by
 unfold BX wM;rw[List.map_append,List.map_map]
 conv=>rhs;rw[<-List.take_append_drop k bs,List.map_append]
 congr 1
 apply List.map_congr_left
 intro a _;simp[VY]
theorem InT.sh {bs bs':List bQ} (h:BX bs'=BX bs) {y:bP} (hy:InT bs y):InT bs' y:=by
 obtain⟨br,h1,h2⟩:=hy;have h3:(BX bs)[y.br]? =some br.ps.length:=by unfold BX;rw[List.getElem?_map,h1];rfl
 rw[<-h]at h3;unfold BX at h3;rw[List.getElem?_map]at h3;cases hb:bs'[y.br]? with
 |none=>rw[hb]at h3;cases h3
 |some b=>
  rw[hb]at h3;injection h3 with h3
  exact⟨b,hb,by have h3:b.ps.length=br.ps.length:=h3;omega⟩
theorem SV {n:Nat} (g:Bool) (t:T) (p:kM) (h:p.gs.length<=n/\p.cs.length<=n):(KP g t p).gs.length<=n+1/\(KP g t p).cs.length<=n+1:=by
 unfold KP;cases g
 ·rw[if_neg (by decide)];simp;omega
 ·rw[if_pos rfl];simp;omega
theorem SX {bs:List bQ} {n:Nat} (h:kG bs n) (i k:Nat) (g:Bool) (t:T):kG (BC bs i k g t) (n+1):=by
 unfold kG BC;refine pI (P:=fun br:bQ=>∀p∈br.ps,p.gs.length<=n/\p.cs.length<=n) (P':=fun br:bQ=>∀p∈br.ps,p.gs.length<=n+1/\p.cs.length<=n+1) (fun a ha=>?_) (fun a ha p hp=>?_) bs i h
 ·exact pI (P:=fun p:kM=>p.gs.length<=n/\p.cs.length<=n) (P':=fun p:kM=>p.gs.length<=n+1/\p.cs.length<=n+1) (fun p hp=>SV g t p hp) (fun p hp=>⟨by omega,by omega⟩) a.ps k ha
 ·have:=ha p hp;exact⟨by omega,by omega⟩
theorem SY {bs:List bQ} {n:Nat} (h:kG bs n) (k:Nat) (t:T):kG (wM k t bs) (n+1):=by
 intro b hb;unfold wM at hb;rcases List.mem_append.1 hb with hb|hb
 ·obtain⟨a,ha,rfl⟩:=List.mem_map.1 hb;exact pI (P:=fun p:kM=>p.gs.length<=n/\p.cs.length<=n) (P':=fun p:kM=>p.gs.length<=n+1/\p.cs.length<=n+1) (fun p hp=>SV true t p hp) (fun p hp=>⟨by omega,by omega⟩) a.ps 0 (h a (List.mem_of_mem_take ha))
 ·intro p hp;have:=h b (List.mem_of_mem_drop hb) p hp;exact⟨by omega,by omega⟩
theorem KU (s:ai) (x:ax) (bs:List bQ) (m:MS) (n:Nat) (h:kG bs n):BX (mZ s x bs m).1=BX bs/\kG (mZ s x bs m).1 (n+1)/\(mZ s x bs m).2.items=m.items:=by
 have h1:kG bs (n+1):=fun b hb p hp=>by have:=h b hb p hp;exact⟨by omega,by omega⟩
 unfold mZ
 split
 ·exact⟨rfl,h1,rfl⟩
 ·split
  ·exact⟨rfl,h1,by rw[bU,gQ]⟩
  ·split
   ·exact⟨rfl,h1,gQ _ _ _⟩
   ·split
    ·exact⟨Wj _ _ _,SY h _ _,rfl⟩
    ·split
     ·exact⟨rfl,h1,bU _ _ _⟩
     ·exact⟨Wi _ _ _ _ _,SX h _ _ _ _,rfl⟩
theorem yU (s:ai) (key:Str) (kd:Int) (p:Nat):∀(l:List bP) (m:MS),(um s key kd p l m).items=m.items
 |[],m=>rfl
 |x::l,m=>by
  unfold um;rw[yU s key kd p l]
  (repeat' split)<;>first|rfl|exact bU _ _ _
theorem IL (s:ai) (key:Str) (p:Nat) (m:MS):(keysT s key p m).2.items=m.items:=by
 unfold keysT
 split
 ·rfl
 ·show(um s key _ p m.items _).items=m.items
  rw[yU];unfold Y6
  split
  ·rfl
  ·split
   ·exact bU _ _ _
   ·rfl
def iq (D B:Nat) (t:oC) (v:Value) (W:World):Prop:=∃(kv bv:Value) (bs:List iR),v=.agg #[.int .i64 t.aP,kv,bv]/\W.ownsRow B 3 1 kv t.keys.length (aU t.keys)/\kJ B D bv bs W/\bs.map (mJ D)=t.branches
theorem kJ.nil (B D:Nat) (W:World):kJ B D (.slice none 0 0) [] W:=
 ⟨World.ownsRow_nil _ _ _ _,fun b hb=>absurd hb (by simp),List.Pairwise.nil,fun x hx=>absurd hx (by simp[dU]),List.Pairwise.nil,fun x hx=>absurd hx (by simp[dU])⟩
theorem iq.zero (D B:Nat) (W:World):iq D B wW (.agg #[.int .i64 0,.slice none 0 0,.slice none 0 0]) W:=
 ⟨_,_,[],rfl,World.ownsRow_nil _ _ _ _,kJ.nil _ _ _,rfl⟩
def Tc (D:Nat) (s:ai) (q:bK) (w:World) (e:Ending) (w':World):Prop:=
 ∃pv:Value,e=.returned (.tuple #[pv,.int .i64 ((ni s q).2.1:Nat),.int .i64 (ni s q).2.2])/\iq D w.heap.size (ni s q).1 pv w'/\Below w.heap.size w w'
theorem jA (w:World):(sizeOf 25).run Try.prog w=.ok 3 w:=by
 obtain⟨i,hi,h0,h1,h2⟩:=info_parts (show(Try.prog.info? 25).map (fun i=>(i.zero,i.size,i.bytes))=some (some (.agg #[.int .i64 0,.slice none 0 0,.slice none 0 0]),3,56) by kernel_rfl);simp[sizeOf,typeInfo,hi,h1]
theorem kJ.chg {b B B1 D:Nat} {s:ai} {iv bv:Value} {m:MS} {bs:List iR} {W W':World} (h:kJ B1 D bv bs W) (hm:jg b B s iv m W) (hc:uk b iv.ownBlock W W') (hb1:b<B1) (h0:∀x∈dU bs,x.2=[]):kJ B1 D bv bs W':=by
 have key:∀{e k n:Nat} {v:Value} {xs:List Value},141≠e->W.ownsRow B1 e k v n xs->W'.ownsRow B1 e k v n xs:=fun {e k n v xs} hne hr=>by
  refine⟨hr.1,?_⟩;rcases hr.2 with h|⟨g,cap,cur,hv,hb0,hh,hx⟩
  ·exact .inl h
  ·have hk:Bk W g e cur:=hh;exact .inr ⟨g,cap,cur,hv,hb0,(hc.block g hk.lt (by omega) (aO hm.own hk hne)).trans hh,hx⟩
 exact⟨key (by decide) h.dI,fun x hx=>key (by decide) (h.prt x hx),h.Jw,fun x hx=>key (by decide) (h.Cf x hx),h.Jy,fun x hx y hy=>by rw[h0 x hx]at hy;cases hy⟩
theorem kJ.snoc {B1 D n c wz : Nat} {A : Option Addr} {v' : Value} {bs : List iR} {x : iR} {W W' : World} (h : kJ B1 D (.slice A n c) bs W) (hn : bs.length = n) (h0 : ∀ z ∈ dU bs, z.2 = []) (hx : W.ownsRow wz 31 4 x.parts x.ps.length (x.ps.flatMap dS.cells)) (hB : B1 ≤ wz) (hlow : ∀ y ∈ bs, ∀ k, y.parts.ownBlock = some k → k < wz)
  (hpe:∀z∈NI x,z=(.slice none 0 0,[])) (hown:W'.ownsRow B1 28 3 v' (n+1) (bs.flatMap iR.cells++x.cells)) (hg:W.grownBy W' (Value.slice A n c).ownBlock):kJ B1 D v' (bs++[x]) W'/\∀z∈dU (bs++[x]),z.2=[]:=by
 have hnr:dU (bs++[x])=dU bs++NI x:=by unfold dU;rw[List.flatMap_append];simp
 have he:∀z∈dU (bs++[x]),z.2=[]:=by
  intro z hz;rw[hnr]at hz;rcases List.mem_append.1 hz with hz|hz
  ·exact h0 z hz
  ·rw[hpe z hz]
 refine⟨⟨?_,?_,?_,?_,?_,fun z hz y hy=>by rw[he z hz]at hy;cases hy⟩,he⟩
 ·rw[List.flatMap_append]
  simpa[hn]using hown
 ·intro y hy;rcases List.mem_append.1 hy with hy|hy
  ·exact dN (h.prt y hy) h.dI (by decide) hg
  ·simp only[List.mem_cons,List.not_mem_nil,or_false]at hy;subst hy;exact di (dN hx h.dI (by decide) hg) hB
 ·rw[List.pairwise_append];refine⟨h.Jw,by simp,fun y hy z hz=>?_⟩;simp only[List.mem_cons,List.not_mem_nil,or_false]at hz;subst hz;rcases hk:y.parts.ownBlock with _|k
  ·exact .inl rfl
  ·right
   intro e;have h1:=hlow y hy k hk;have h2:=(hx.lt k e.symm).1;omega
 ·intro z hz;rw[hnr]at hz;rcases List.mem_append.1 hz with hz|hz
  ·exact dN (h.Cf z hz) h.dI (by decide) hg
  ·rw[hpe z hz];exact World.ownsRow_nil _ _ _ _
 ·rw[hnr,List.pairwise_append];refine⟨h.Jy,?_,fun y hy z hz=>?_⟩
  ·refine List.Pairwise.imp_of_mem (R:=fun _ _=>True) (fun {a b} ha hb _=>.inl (by rw[hpe a ha];rfl)) (List.pairwise_of_forall (fun _ _=>trivial))
  ·rcases hk:y.1.ownBlock with _|k
   ·exact .inl rfl
   ·exact .inr (by rw[hpe z hz];simp[Value.ownBlock])
theorem jg.zBb {b B B1 e k n:Nat} {s:ai} {iv v:Value} {m:MS} {xs:List Value} {W W':World} (h:jg b B s iv m W) (hr:W.ownsRow B1 e k v n xs) (hne:141≠e) (hb:b<B1) (hg:W.grownBy W' v.ownBlock):jg b B s iv m W':=by
 have hb2:some b≠v.ownBlock:=fun e'=>by have:=(hr.lt b e'.symm).1;omega
 exact⟨h.bk.grown hg hb2,h.CG.jf (je zR hr (Nat.le_of_lt hb) hg (Nat.le_of_lt h.bk.lt)),dN h.own hr hne hg⟩
theorem jg.Td {b B:Nat} {s:ai} {iv:Value} {m:MS} {W:World} {g t:Nat} {cs:Array Value} (h:jg b B s iv m W) (hk:Bk W g t cs) (hg:b<g) (ht:141≠t) (i:Nat) (u:Value):jg b B s iv m (W.setCell ⟨g,i,none⟩ u):=
 ⟨h.bk.far (by show b≠g;omega) _,h.CG.jf (zR.setCell (Nat.le_of_lt hg) _),ve h.own hk ht i u⟩
structure Wl (b B1 gp bq br D:Nat) (s:ai) (iv:Value) (m:MS) (aC:Int) (kv bv:Value) (bs:List iR) (qc:Array Value) (w W:World):Prop where
 st:jg b B1 s iv m W
 pl:kJ B1 D bv bs W
 kp:Bk W gp 25 #[.int .i64 aC,kv,bv]
 kq:Bk W bq 80 qc
 kr:Bk W br 25 #[.int .i64 0,.slice none 0 0,.slice none 0 0]
 bel:Below w.heap.size w W
theorem Wl.old {b B1 gp bq br D:Nat} {s:ai} {iv:Value} {m:MS} {aC:Int} {kv bv:Value} {bs:List iR} {qc:Array Value} {w W W':World} (h:Wl b B1 gp bq br D s iv m aC kv bv bs qc w W) (hb:Below W.heap.size W W'):Wl b B1 gp bq br D s iv m aC kv bv bs qc w W':=
 ⟨h.st.old hb,h.pl.old hb,h.kp.old hb,h.kq.old hb,h.kr.old hb,h.bel.trans (hb.mono h.bel.size)⟩
theorem uk.trans {b:Nat} {o:Option Nat} {w w1 w2:World} (h:uk b o w w1) (h2:uk b o w1 w2):uk b o w w2:=
 ⟨h2.os.trans h.os,h2.tape.trans h.tape,h2.output.trans h.output,Nat.le_trans h.size h2.size,fun k hk a1 a2=>(h2.block k (Nat.lt_of_lt_of_le hk h.size) a1 a2).trans (h.block k hk a1 a2)⟩
theorem Tf (b:Nat) (o:Option Nat) (W:World):(∀w,Below W.heap.size W w->uk b o W w)/\(∀w w',uk b o W w->Below w.heap.size w w'->uk b o W w'):=⟨fun w h=>uk.below h,fun w w' h hb=>h.more hb⟩
structure ZB (b B1:Nat) (s:ai) (iv:Value) (MF:MS) (wz:Nat) (PS:List (Nat×Int)) (A:Option Addr) (n c:Nat) (oG:Value) (w:World):Prop where
 ln:n=PS.length
 own:w.ownsRow wz 31 4 (.slice A n c) n (PS.flatMap Y1)
 st:jg b B1 s oG MF w
 iv:oG.ownBlock=iv.ownBlock\/∀k,oG.ownBlock=some k->wz<=k
theorem ZB.old {b B1:Nat} {s:ai} {iv:Value} {MF:MS} {wz:Nat} {PS:List (Nat×Int)} {A:Option Addr} {n c:Nat} {oG:Value} {w w':World} (h:ZB b B1 s iv MF wz PS A n c oG w) (hb:Below w.heap.size w w'):ZB b B1 s iv MF wz PS A n c oG w':=
 ⟨h.ln,aQ h.own hb,h.st.old hb,h.iv⟩
def Ti (k:Nat) (win:Nat) (v:Value) (PS:List (Nat×Int)):iR:=⟨k,win,v,PS.map fun p=>⟨p.1,p.2,.slice none 0 0,.slice none 0 0,[],[]⟩⟩
theorem OV (PS:List (Nat×Int)):(PS.map fun p=>(⟨p.1,p.2,.slice none 0 0,.slice none 0 0,[],[]⟩:dS)).flatMap dS.cells=PS.flatMap Y1:=by
 rw[List.flatMap_map];rfl
theorem Tj (k win:Nat) (v:Value) (PS:List (Nat×Int)):∀z∈NI (Ti k win v PS),z=(.slice none 0 0,[]):=by
 intro z hz;unfold NI Ti at hz;obtain⟨p,hp,hz⟩:=List.mem_flatMap.1 hz;obtain⟨a,_,rfl⟩:=List.mem_map.1 hp;simp[qf]at hz;exact hz
theorem Tm (D k win:Nat) (v:Value) (PS:List (Nat×Int)):mJ D (Ti k win v PS)=⟨k,win,PS.map prT⟩:=by
 unfold mJ Ti;simp only[List.map_map]
 congr 1
theorem KW {q:bK} (h:qZ q=0):mD q=true/\q.branches.length<=4/\iJ q<=200/\∀l∈q.branches,l.length<=8:=by
 unfold qZ at h
 split at h
 ·cases h
 ·rename_i h1
  split at h
  ·cases h
  ·rename_i h2
   split at h
   ·cases h
   ·rename_i h3
    refine⟨by simpa using h1,by omega,by omega,fun l hl=>?_⟩;have h3:=Bool.eq_false_iff.2 h3;rw[List.any_eq_false]at h3;have:=h3 l hl
    simpa using this
theorem Wp:∀(l:List (List aZ)),0<l.length->(∀x∈l,0<x.length)->0<(l.map List.length).sum
 |[],h,_=>by simp at h
 |x::l,_,h=>by have:=h x (by simp);simp;omega
theorem D7:∀(l:List ax) (i:Nat),l.length<=aV i l
 |[],i=>by simp
 |x::l,i=>by
  have h1:=D7 l (i+1);have h2:1<=aB x:=by cases x<;>simp[aB]<;>omega
  rw[mf,List.length_cons];omega
theorem Wq {bs bs':List bQ} (h:BX bs'=BX bs) (h0:∀b∈bs,0<b.ps.length):∀b∈bs',0<b.ps.length:=by
 intro b hb;have h1:b.ps.length∈BX bs':=List.mem_map.2 ⟨b,hb,rfl⟩;rw[h]at h1;obtain⟨a,ha,he⟩:=List.mem_map.1 h1;rw[<-he];exact h0 a ha
theorem ZC:(Try.prog.info? 28).map (fun i=>(i.zero,i.size,i.bytes))=some (some (.agg #[.int .i64 0,.int .i64 0,.slice none 0 0]),3,40):=by kernel_rfl
theorem Tn (D : Nat) (hD : 200 ≤ D) (s : ai) (q : bK) (A1 A2 : Option Addr) (n1 n2 c1 c2 Bq : Nat) (w : World) (hs : s.ok w w.heap.size) (hbr : jY Bq w (.slice A1 n1 c1) q.branches) (hwh : yI Bq w (.slice A2 n2 c2) q.cond) (hbd : ∀ e ∈ q.cond, kF e) (hn : n1 ≤ 1000 ∧ n2 ≤ 100000) (hst : q.aP ≤ 1000) (hwin : q.window ≤ 9223372036854775807) (hit : ∀ l ∈ q.branches, l.length ≤ 1000) (hnq : iJ q ≤ 1000000) :
  Calls Try.prog 34 #[s.val,.agg (q.cells (.slice A1 n1 c1) (.slice A2 n2 c2)).toArray] w (Tc D s q w):=by
 have HS:=zH hs;have Qb:=zH hbr;have Zn:=zH hwh;have Fz:=zH hbd;have Oz:=zH (fun h:mD q=true=>yO h);have FD:=zH hbr.len;have HLW:=zH hwh.len;have BU:Hid (∀W,Below w.heap.size w W->Calls Try.prog 45 #[.agg (q.cells (.slice A1 n1 c1) (.slice A2 n2 c2)).toArray] W (EZ q W)):=zH fun W hW=>print_any Bq W q A1 A2 n1 n2 c1 c2 (hbr.old hW) (hwh.old hW) hbd hn hst hwin hit hnq
 have HCK:Hid (∀W,Below w.heap.size w W->Calls Try.prog 44 #[s.val] W fun e w'=>e=.returned (.int .i64 (E5 s))/\Below W.heap.size W w'):=zH fun W hW=>Ko s W ((hs.jf hW).more hW.size)
 obtain⟨⟨PT,AT,ER⟩,hres⟩:∃z,ni s q=z:=⟨_,rfl⟩
 have aG:=zH hres;unfold Tc;rw[hres];simp only[];obtain⟨QC,hqc⟩:∃z,(q.cells (.slice A1 n1 c1) (.slice A2 n2 c2)).toArray=z:=⟨_,rfl⟩
 have hqe:QC=#[.slice A1 n1 c1,.slice A2 n2 c2,.int .i64 q.aP,.int .i64 q.window,.string (bytes q.key),.int .i64 q.keyAt]:=by rw[<-hqc];rfl
 obtain⟨ce,hce⟩:∃z,E5 s=z:=⟨_,rfl⟩
 obtain⟨pe,hpe⟩:∃z,qZ q=z:=⟨_,rfl⟩
 unfold EZ at BU;rw[hqc,hpe]at BU;rw[hce]at HCK;rw[hqc,hqe];rw[hqe]at BU;have HCE:=zH hce;have HPE:=zH hpe;have Gs:=zH hn;unfold ai.val at HCK⊢;obtain⟨aC,BJ⟩:∃z,q.aP=z:=⟨_,rfl⟩
 obtain⟨win,hwn⟩:∃z,q.window=z:=⟨_,rfl⟩
 obtain⟨KEY,hkey⟩:∃z,bytes q.key=z:=⟨_,rfl⟩
 obtain⟨ka,hka⟩:∃z,q.keyAt=z:=⟨_,rfl⟩
 have HQ:=zH (And.intro BJ (And.intro hwn (And.intro hkey hka)));rw[BJ,hwn,hkey,hka]at BU⊢;clear hs hbr hwh hbd hn hst hwin hit hnq hres hqc hqe hce hpe BJ hwn hkey hka
 go_enter Try.func34,Try.ntmps34
 go_upto_region 1 with fail
 have kS:=Bk.new w 61 #[.slice s.ta s.types.length s.tc,.slice s.sa s.syms.length s.sc];have hbS:Below w.heap.size w (w.alloc (.cells #[.slice s.ta s.types.length s.tc,.slice s.sa s.syms.length s.sc] 61)):=zR.alloc zL _;obtain⟨wS,ZE⟩:∃z,w.alloc (.cells #[.slice s.ta s.types.length s.tc,.slice s.sa s.syms.length s.sc] 61)=z:=⟨_,rfl⟩
 rw[ZE]at kS hbS⊢;have kQ:=Bk.new wS 80 #[.slice A1 n1 c1,.slice A2 n2 c2,.int .i64 aC,.int .i64 win,.string KEY,.int .i64 ka];have hbQ:Below wS.heap.size wS (wS.alloc (.cells #[.slice A1 n1 c1,.slice A2 n2 c2,.int .i64 aC,.int .i64 win,.string KEY,.int .i64 ka] 80)):=zR.alloc zL _;obtain⟨wQ,hwQ⟩:∃z,wS.alloc (.cells #[.slice A1 n1 c1,.slice A2 n2 c2,.int .i64 aC,.int .i64 win,.string KEY,.int .i64 ka] 80)=z:=⟨_,rfl⟩
 rw[hwQ]at kQ hbQ⊢;have kP:=Bk.new wQ 25 #[.int .i64 0,.slice none 0 0,.slice none 0 0];have UR:Below wQ.heap.size wQ (wQ.alloc (.cells #[.int .i64 0,.slice none 0 0,.slice none 0 0] 25)):=zR.alloc zL _;obtain⟨w0,hw0⟩:∃z,wQ.alloc (.cells #[.int .i64 0,.slice none 0 0,.slice none 0 0] 25)=z:=⟨_,rfl⟩
 rw[hw0]at kP UR⊢;have hB0:Below w.heap.size w w0:=(hbS.trans (hbQ.mono hbS.size)).trans (UR.mono (Nat.le_trans hbS.size hbQ.size));have hl1:=kS.lt;have hl2:=kQ.lt;have hl3:=kP.lt;have UT:=(kS.old hbQ).old UR;have kQ0:=kQ.old UR;have hsz0:wS.heap.size=w.heap.size+1:=by rw[<-ZE];simp
 have hsz1:wQ.heap.size=w.heap.size+2:=by rw[<-hwQ];simp;omega
 rw[hsz0]at kQ0;rw[hsz1]at kP;obtain⟨bq,hbq⟩:∃z,w.heap.size+1=z:=⟨_,rfl⟩
 obtain⟨br,hbr⟩:∃z,w.heap.size+2=z:=⟨_,rfl⟩
 have ZF:w.heap.size<=br:=by omega
 have hbq0:w.heap.size<=bq:=by omega
 have hbrw:br<w0.heap.size:=by omega
 have hbqr:bq<br:=by omega
 rw[hbq]at kQ0⊢;rw[hbr]at kP;rw[show bq+1=br by omega];obtain⟨b0,hb0⟩:∃z,w.heap.size=z:=⟨_,rfl⟩
 have hkS:=UT;rw[hb0]at UT⊢;have HW0:Hid (Bk w0 b0 61 #[.slice s.ta s.types.length s.tc,.slice s.sa s.syms.length s.sc]/\Bk w0 bq 80 #[.slice A1 n1 c1,.slice A2 n2 c2,.int .i64 aC,.int .i64 win,.string KEY,.int .i64 ka]/\Bk w0 br 25 #[.int .i64 0,.slice none 0 0,.slice none 0 0]/\Below w.heap.size w w0):=zH ⟨UT,kQ0,kP,hB0⟩;have HB0:=zH hb0;have y0:=UT.cell 0;have y1:=UT.cell 1;simp only[List.getElem?_toArray,List.getElem?_cons_zero,List.getElem?_cons_succ]at y0 y1;clear kS hbS ZE kQ hbQ hwQ kP UR hw0 hB0 UT kQ0 hl1 hl2 hl3 hsz1 hsz0 hb0 hbq hbr hkS;go_wp2_with fail
 refine(HCK.out _ HW0.out.2.2.2).mono ?_;rintro r w1 ⟨rfl,hb1⟩;have HW1:Hid (Bk w1 b0 61 #[.slice s.ta s.types.length s.tc,.slice s.sa s.syms.length s.sc]/\Bk w1 bq 80 #[.slice A1 n1 c1,.slice A2 n2 c2,.int .i64 aC,.int .i64 win,.string KEY,.int .i64 ka]/\Bk w1 br 25 #[.int .i64 0,.slice none 0 0,.slice none 0 0]/\Below w.heap.size w w1):=zH ⟨HW0.out.1.old hb1,HW0.out.2.1.old hb1,HW0.out.2.2.1.old hb1,HW0.out.2.2.2.trans (hb1.mono HW0.out.2.2.2.size)⟩;clear hb1 HW0 HCK y0 y1
 by_cases hce:ce=0
 case neg=>
  as_aux_lemma=>
  have cI:(ce !=0)=true:=by rw[bne_iff_ne];exact hce
  have hR:ni s q=(wW,0,ce):=by unfold ni;rw[HCE.out,if_pos hce]
  have hR2:=aG.out;rw[hR]at hR2;injection hR2 with h1 h2
  injection h2 with h2 h3
  subst h1;subst h2;subst h3;have kr:=HW1.out.2.2.1;clear hR aG hce BU;go_wp2_with (first|(refine ae jA rfl _ _ rfl rfl [.int .i64 0,.slice none 0 0,.slice none 0 0] rfl kr rfl rfl rfl ?_;intro w9 p9))
  obtain⟨u0,u1,u2⟩:=zc3 p9.bk;refine bodyPost_ret (v:=.tuple #[.agg #[.int .i64 0,.slice none 0 0,.slice none 0 0],.int .i64 0,.int .i64 ce]) (by simp[results,Try.results34,go_sem,u0,u1,u2]) rfl ?_;exact⟨_,rfl,iq.zero _ _ _,p9.below _ _ HW1.out.2.2.2 ZF⟩
 case pos=>
 have cI:(ce !=0)=false:=by rw[bne_eq_false_iff_eq];exact hce
 obtain⟨z0,z1,z2,z3,z4,z5⟩:=zc6 HW1.out.2.1;simp only[List.getElem?_toArray,List.getElem?_cons_zero,List.getElem?_cons_succ]at z0 z1 z2 z3 z4 z5;go_wp2_with fail
 refine(BU.out _ HW1.out.2.2.2).mono ?_;rintro r w2 ⟨S,rfl,hb2⟩;have HW2:Hid (Bk w2 b0 61 #[.slice s.ta s.types.length s.tc,.slice s.sa s.syms.length s.sc]/\Bk w2 bq 80 #[.slice A1 n1 c1,.slice A2 n2 c2,.int .i64 aC,.int .i64 win,.string KEY,.int .i64 ka]/\Bk w2 br 25 #[.int .i64 0,.slice none 0 0,.slice none 0 0]/\Below w.heap.size w w2):=zH ⟨HW1.out.1.old hb2,HW1.out.2.1.old hb2,HW1.out.2.2.1.old hb2,HW1.out.2.2.2.trans (hb2.mono HW1.out.2.2.2.size)⟩;have hwz2:=hb2.size;clear hb2 HW1 BU z0 z1 z2 z3 z4 z5 cI
 by_cases hpe:pe=0
 case neg=>
  as_aux_lemma=>
  have cI:((pe:Int) !=0)=true:=by rw[bne_iff_ne];omega
  have hR:ni s q=(wW,0,(pe:Int)):=by
   unfold ni;rw[HCE.out,if_neg (by simp[hce]),HPE.out,if_pos hpe]
  have hR2:=aG.out;rw[hR]at hR2;injection hR2 with h1 h2
  injection h2 with h2 h3
  subst h1;subst h2;subst h3;have kr:=HW2.out.2.2.1;clear hR aG hce hpe;go_wp2_with (first|(refine ae jA rfl _ _ rfl rfl [.int .i64 0,.slice none 0 0,.slice none 0 0] rfl kr rfl rfl rfl ?_;intro w9 p9))
  obtain⟨u0,u1,u2⟩:=zc3 p9.bk;refine bodyPost_ret (v:=.tuple #[.agg #[.int .i64 0,.slice none 0 0,.slice none 0 0],.int .i64 0,.int .i64 pe]) (by simp[results,Try.results34,go_sem,u0,u1,u2]) rfl ?_;exact⟨_,rfl,iq.zero _ _ _,p9.below _ _ HW2.out.2.2.2 ZF⟩
 case pos=>
 have cI:((pe:Int) !=0)=false:=by rw[bne_eq_false_iff_eq];omega
 have hpz:=KW (HPE.out.trans hpe);have HPZ:=zH hpz;have Sz:=zH (Oz.out hpz.1);obtain⟨⟨Px,M1⟩,hr1⟩:∃z,nN s q.window 0 q.branches [] ms0=z:=⟨_,rfl⟩
 obtain⟨⟨KS,M2⟩,hr2⟩:∃z,keysT s q.key q.keyAt M1=z:=⟨_,rfl⟩
 obtain⟨⟨PT3,M3⟩,hr3⟩:∃z,nO s q.cond Px M2=z:=⟨_,rfl⟩
 have hR:(if M3.err≠0 then(wW,M3.pos,(M3.err:Int))else(⟨q.aP,KS,PT3⟩,0,0))=(PT,AT,ER):=by
  have h1:=aG.out;unfold ni at h1;rw[HCE.out,if_neg (by simp[hce]),HPE.out,if_neg (by simp[hpe]),hr1]at h1;simp only[]at h1;rw[hr2]at h1;simp only[]at h1;rw[hr3]at h1;exact h1
 have hsp:=D6 s q.window q.branches 0 [] ms0 rfl (fun y hy=>absurd hy (by simp[ms0])) (fun b hb=>absurd hb (by simp)) Sz.out.2.2.2.2.2.1;rw[hr1]at hsp;have Nj:=zH hsp;have HR1:=zH hr1;have HR2:=zH hr2;have HR3:=zH hr3;have HRR:=zH hR;have y0:=HW2.out.1.cell 0;have y1:=HW2.out.1.cell 1;have z2:=HW2.out.2.1.cell 2;simp only[List.getElem?_toArray,List.getElem?_cons_zero,List.getElem?_cons_succ]at y0 y1 z2;clear hpz hr1 hr2 hr3 hR hsp hce hpe aG;go_upto_region 8 with fail
 have kb:=Bk.new w2 111 #[.slice s.ta s.types.length s.tc,.slice s.sa s.syms.length s.sc,.slice none 0 0,.int .i64 0,.int .i64 0];have hb3:Below w2.heap.size w2 (w2.alloc (.cells #[.slice s.ta s.types.length s.tc,.slice s.sa s.syms.length s.sc,.slice none 0 0,.int .i64 0,.int .i64 0] 111)):=zR.alloc zL _;obtain⟨wb,hwb⟩:∃z,w2.alloc (.cells #[.slice s.ta s.types.length s.tc,.slice s.sa s.syms.length s.sc,.slice none 0 0,.int .i64 0,.int .i64 0] 111)=z:=⟨_,rfl⟩
 rw[hwb]at kb hb3⊢;have hszb:wb.heap.size=w2.heap.size+1:=by rw[<-hwb];simp
 have z2b:=zE hb3 z2;clear z2 hwb y0 y1 cI;go_upto_region 9 with fail
 have kp:=Bk.new wb 25 #[.int .i64 aC,.slice none 0 0,.slice none 0 0];have hb4:Below wb.heap.size wb (wb.alloc (.cells #[.int .i64 aC,.slice none 0 0,.slice none 0 0] 25)):=zR.alloc zL _;obtain⟨w3,hw3⟩:∃z,wb.alloc (.cells #[.int .i64 aC,.slice none 0 0,.slice none 0 0] 25)=z:=⟨_,rfl⟩
 rw[hw3]at kp hb4⊢;have hbb:Below w2.heap.size w2 w3:=hb3.trans (hb4.mono hb3.size);have kb3:=kb.old hb4;rw[hszb]at kp;obtain⟨gp,Dl⟩:∃z,w2.heap.size+1=z:=⟨_,rfl⟩
 rw[Dl]at kp⊢;obtain⟨b,hbe⟩:∃z,w2.heap.size=z:=⟨_,rfl⟩
 have hbw:w.heap.size<=b:=by have:=HW2.out.2.2.2.size;omega
 have hbg:b<gp:=by omega
 have hgp3:gp<w3.heap.size:=by have:=kp.lt;omega
 have hbw3:b<w3.heap.size:=by omega
 have hbrb:br<b:=by have:=HW2.out.2.2.1.lt;omega
 rw[hbe]at kb3⊢;obtain⟨B1,hB1⟩:∃z,w3.heap.size=z:=⟨_,rfl⟩
 have hst3:jg b B1 s (.slice none 0 0) ms0 w3:=⟨kb3,(HS.out.jf (HW2.out.2.2.2.trans (hbb.mono HW2.out.2.2.2.size))).more hbw,World.ownsRow_nil _ _ _ _⟩
 have oL:Hid (Wl b B1 gp bq br D s (.slice none 0 0) ms0 aC (.slice none 0 0) (.slice none 0 0) [] #[.slice A1 n1 c1,.slice A2 n2 c2,.int .i64 aC,.int .i64 win,.string KEY,.int .i64 ka] w w3/\∀z∈dU [],z.2=[]):=zH ⟨⟨hst3,kJ.nil _ _ _,kp,HW2.out.2.1.old hbb,HW2.out.2.2.1.old hbb,HW2.out.2.2.2.trans (hbb.mono HW2.out.2.2.2.size)⟩,fun z hz=>absurd hz (by simp[dU])⟩;have HB1:=zH hB1;have hb1:b<B1:=by omega
 have hg1:gp<B1:=by omega
 have hgb:gp≠b:=by omega
 clear kb hb3 hszb hb4 hbb kp kb3 hw3 hbe Dl hst3 hwz2 z2b HW2 hB1;have x0:=oL.out.1.kq.cell 0;simp only[List.getElem?_toArray,List.getElem?_cons_zero]at x0;have H1:Hid (nN s q.window 0 (q.branches.drop 0) (([]:List iR).map (mJ D)) ms0=(Px,M1)):=zH (by rw[List.drop_zero];exact HR1.out);have hn1m:=Gs.out.1;have hw1e:B1<=w3.heap.size:=by rw[HB1.out];exact Nat.le_refl _
 go_wp2_with fail
 clear x0
 go_loopw[39] (fun i wr=>∃(k:Nat) (iv:Value) (m:MS) (A:Option Addr) (c:Nat) (bs:List iR),k<=n1/\i=.int .i64 k/\Hid (bs.length=k/\nN s q.window k (q.branches.drop k) (bs.map (mJ D)) m=(Px,M1)/\m.items.length<=8*k)/\Hid (Wl b B1 gp bq br D s iv m aC (.slice none 0 0) (.slice A k c) bs #[.slice A1 n1 c1,.slice A2 n2 c2,.int .i64 aC,.int .i64 win,.string KEY,.int .i64 ka] w wr/\(∀z∈dU bs,z.2=[])/\B1<=wr.heap.size)) (fun i _=>n1-(intOf i).toNat)
 case atStart=>exact⟨0,.slice none 0 0,ms0,none,0,[],Nat.zero_le _,rfl,zH ⟨rfl,H1.out,by simp[ms0]⟩,zH ⟨oL.out.1,oL.out.2,hw1e⟩⟩
 case round=>
  clear H1 oL hw1e;obtain⟨k,iv,m,A,c,bs,hk,rfl,HR,HV⟩:=hrel;obtain⟨W,rfl⟩:∃W:World,W=wr:=⟨_,rfl⟩
  by_cases hlt:k<n1
  ·
   have hkl:k<q.branches.length:=by rw[<-FD.out];exact hlt
   obtain⟨g,o,A',c',rfl,hg,hcell,hrd⟩:=Qb.out.get k hkl;have Tq:=HPZ.out.2.2.2 _ (List.getElem_mem hkl);have hr:=HR.out.2.1;rw[List.drop_eq_getElem_cons hkl]at hr;obtain⟨l,hl⟩:∃z,q.branches[k]=z:=⟨_,rfl⟩
   rw[hl]at hcell hrd hr Tq;obtain⟨⟨PS,MF⟩,hbf⟩:∃z,DR s k l 0 0 [] m=z:=⟨_,rfl⟩
   have hspec:=BH s k l 0 0 [] m;rw[hbf]at hspec;have hr2:nN s q.window (k+1) (q.branches.drop (k+1)) (bs.map (mJ D)++[⟨k,q.window,(DR s k l 0 0 [] m).1.map prT⟩]) (DR s k l 0 0 [] m).2=(Px,M1):=hr;rw[hbf,HQ.out.2.1]at hr2;have hml:=HR.out.2.2;have hk4:k<4:=by have:=HPZ.out.2.1;omega
   have wU:=zH (And.intro hr2 hspec);have HL8:=zH Tq;obtain⟨NL,hnl⟩:∃z,l.length=z:=⟨_,rfl⟩
   rw[hnl]at hcell;have hBW:=HV.out.2.2
   have HBC : Hid (∀ wr, Below W.heap.size W wr → Calls Try.prog 46 #[.pointer (some ⟨b, 0, none⟩), .int .i64 k, .slice A' NL c', .int .i64 win] wr fun r w' =>
     ∃(A:Option Addr) (n c:Nat) (oG:Value),r=.returned (.agg #[.int .i64 k,.int .i64 win,.slice A n c])/\n=PS.length/\w'.ownsRow wr.heap.size 31 4 (.slice A n c) n (PS.flatMap Y1)/\jg b B1 s oG MF w'/\uk b iv.ownBlock wr w'/\(oG.ownBlock=iv.ownBlock\/∀k,oG.ownBlock=some k->wr.heap.size<=k)):=zH fun wr hB=>by
    have hm:=HV.out.1.st.old hB
    have h1:=Il b B1 s iv m k (win:Int) l A' c' wr hm hb1 (by have:=hB.size;omega) (by omega) (fun j hj=>by
     obtain⟨g',o',hA',hg',hc'⟩:=hrd.elem (n:=4) Bz (by omega) hj;have hbel:=HV.out.1.bel.trans (hB.mono HV.out.1.bel.size);refine⟨g',o',hA',by have:=hbel.size;omega,by omega,fun e=>?_,fun q u hu=>?_⟩
     ·have:=(hm.own.lt g' e.symm).1;omega
     ·have h2:=hc' q u hu;rw[Nat.add_assoc]at h2
      exact(aT hbel g' _ hg').trans h2)
    rw[hnl,hbf]at h1;exact h1
   have e1:W.cell? ⟨g,o+k,none⟩=some (.slice A' NL c'):=(aT HV.out.1.bel g _ hg).trans hcell;have y0:W.cell? ⟨bq,0,none⟩=some (.slice (some ⟨g,o,none⟩) n1 c1):=HV.out.1.kq.cell 0;have y3:W.cell? ⟨bq,3,none⟩=some (.int .i64 win):=HV.out.1.kq.cell 3;have p2:W.cell? ⟨gp,2,none⟩=some (.slice A k c):=HV.out.1.kp.cell 2;obtain⟨wz,hwz⟩:∃z,W.heap.size=z:=⟨_,rfl⟩
   have ZG:Hid (some gp≠iv.ownBlock):=zH (aO HV.out.1.st.own HV.out.1.kp (by decide));have hgpW:=HV.out.1.kp.lt;have HP2:=zH p2;clear hcell hrd hr hr2 hl hbf hspec hg hnl hml Tq;go_upto_region 12 with fail
   have HG:=(Tf b iv.ownBlock W).2;have GB:=(Tf b iv.ownBlock W).1
   refine wg 7 (fun w => uk b iv.ownBlock W w) [.is (.pointer (some ⟨gp, 2, none⟩)),
     .is (.slice A k c),
     .is (.pointer (some ⟨b,0,none⟩)),
     .is (.int .i64 (k:Nat)),
     .is (.slice A' NL c'),
     .is (.pointer (some ⟨bq,3,none⟩)),
     .is (.int .i64 (win:Nat)),
     .st (fun v w=>∃(A:Option Addr) (n c:Nat) (IM:Value),v=.agg #[.int .i64 (k:Nat),.int .i64 (win:Nat),.slice A n c]/\ZB b B1 s iv MF wz PS A n c IM w) (fun _ _ _ hb ⟨A,n,c,IM,h1,h2⟩=>⟨A,n,c,IM,h1,h2.old hb⟩),
     .st (fun v w=>∃(g:Nat) (A:Option Addr) (n c:Nat) (IM:Value),v=.slice (some ⟨g,0,none⟩) 1 1/\Bk w g 28 #[.int .i64 (k:Nat),.int .i64 (win:Nat),.slice A n c]/\ZB b B1 s iv MF wz PS A n c IM w) (fun _ _ _ hb ⟨g,A,n,c,IM,h1,h2,h3⟩=>⟨g,A,n,c,IM,h1,h2.old hb,h3.old hb⟩)] [7,8] (fun w h=>GB w h) (by kernel_rfl) (by kernel_rfl) (by kernel_rfl)
     (fun C=>.c (ah.x HG C rfl (fun _ _=>rfl)) <|
     .c (ah.x HG C rfl (fun wr hG=>by
     have hp2:wr.cell? ⟨gp,2,none⟩=some (.slice A k c):=(World.cell?_of_block (w:=W) (hG.block gp hgpW hgb ZG.out)).trans HP2.out
     exact bW (XV (by assumption)))) <|
     .c (ah.x HG C rfl (fun _ _=>rfl)) <|
     .c (ah.x HG C rfl (fun _ _=>rfl)) <|
     .c (ah.x HG C rfl (fun _ _=>rfl)) <|
     .c (ah.x HG C rfl (fun _ _=>rfl)) <|
     .c (ah.b HG C (by kernel_rfl) (fun _ h=>bW (ld2 (bc h y3)))) <|
     .c (ah.g [2,3,4,6] [] (by kernel_rfl) fun qK qa wr hB qO qF hK=>?_) <|
     .c (ah.q HG [7] [] (by kernel_rfl) fun qK qa wr hG qO qF hK=>?_) <| .nil) ?_
   ·have e46:=ay qF.1 rfl rfl;have e47:=ay qF.2.1 rfl rfl;have e48:=ay qF.2.2.1 rfl rfl;have e50:=ay qF.2.2.2.1 rfl rfl;clear qO qF;go_simp
    go_at_call 46
    refine(HBC.out wr hB).mono ?_;rintro r w9 ⟨An,nn,cn,IM,rfl,hln,bI,hst9,hch9,hiv9⟩;exact hK _ _ ((uk.below hB).trans hch9) hch9.size ⟨An,nn,cn,IM,rfl,⟨hln,di bI (by have:=hB.size;omega),hst9,hiv9.imp id fun h k hk=>Nat.le_trans (by have:=hB.size;omega) (h k hk)⟩⟩
   ·obtain⟨u51,e51,q7⟩:=qF.1;have r7:(fun v w=>∃(A:Option Addr) (n c:Nat) (IM:Value),v=.agg #[.int .i64 (k:Nat),.int .i64 (win:Nat),.slice A n c]/\ZB b B1 s iv MF wz PS A n c IM w) u51 wr:=Sp.self.1 q7;obtain⟨An,nn,cn,IM,q7v,lF⟩:=r7;subst q7v;have e51:qa.tmps[51]? =some (.agg #[.int .i64 (k:Nat),.int .i64 (win:Nat),.slice An nn cn]):=e51;clear qO qF;go_simp;exact hK _ _ (zR.alloc zL _) ⟨_,_,_,_,_,rfl,Bk.new _ _ _,lF.old (zR.alloc zL _)⟩
   intro qx wr hG hR;have r8:(fun v w=>∃(g:Nat) (A:Option Addr) (n c:Nat) (IM:Value),v=.slice (some ⟨g,0,none⟩) 1 1/\Bk w g 28 #[.int .i64 (k:Nat),.int .i64 (win:Nat),.slice A n c]/\ZB b B1 s iv MF wz PS A n c IM w) (qx 8) wr:=hR 8 rfl rfl;clear hR;simp only[bJ,List.take_succ_cons,List.take_zero,List.drop_succ_cons,List.drop_zero,List.toList_toArray,List.length_cons,List.length_nil,Act.put,List.setIfInBounds_toArray,List.set_cons_zero,List.set_cons_succ];generalize qx 8=z52 at r8⊢;obtain⟨g8,An,nn,cn,IM,rfl,k8,lF⟩:=r8;have hGc:=hG;have hpl:=HV.out.1.pl.chg HV.out.1.st hGc hb1 HV.out.2.1;have bI:=hpl.dI;have hbn:=HR.out.1;rw[hbn]at bI;have hkp9:Bk wr gp 25 #[.int .i64 aC,.slice none 0 0,.slice A k c]:=(hGc.block gp HV.out.1.kp.lt hgb ZG.out).trans HV.out.1.kp;obtain⟨iB,hB0',hB1',hB2',hB3'⟩:=info_parts ZC;have KX:=zH (And.intro hGc (And.intro hpl (And.intro hkp9 (And.intro lF bI))));have oU:B1<=wr.heap.size:=by have:=hGc.size;omega
   have hrd8:=Rd.bk k8 (Nat.lt_succ_self _);clear hGc hpl hkp9 lF hG e1 y0 y3 p2;go_wp2_with (first|at_builtin;(refine aH (by rfl) _ _ 23 (by rfl) B1 28 iB _ 3 40 Try.underlying23 hB0' hB1' hB2' hB3' rfl (by decide) (.slice A k c) k _ (by rfl) bI (g8+1) (some ⟨g8,0,none⟩) 1 1 _ (by rfl) hrd8 (by rfl) ?c2 ?c3 ?c4 oU ?_))
   case c2=>first|exact⟨rfl,rfl,rfl⟩|(intro u hu;simp at hu;rcases hu with rfl|rfl|rfl<;>rfl)
   case c3=>unfold maxLen;omega
   case c4=>omega
   intro A6 c6 w6 hown6 jK _;have ZH:=KX.out.2.2.1;have hneP:some gp≠(Value.slice A k c).ownBlock:=aO bI ZH (by decide);have kp6:=ZH.grown jK hneP;have f6:=kp6.frozen 2;have c6':w6.cell? ⟨gp,2,none⟩=some (.slice A k c):=kp6.cell 2;have XG:=zH (And.intro hown6 jK);have JG:=zH kp6;clear hown6 jK kp6 ZH hneP hrd8 k8;have vV:=(KX.out.2.2.2.1.st.zBb bI (by decide) hb1 XG.out.2).Td JG.out (by omega) (by decide) 2 (.slice A6 (k+1) c6)
   have hsn:=kJ.snoc (x:=Ti k win (.slice An nn cn) PS) (v':=.slice A6 (k+1) c6) KX.out.2.1 HR.out.1 HV.out.2.1 (wz:=wz) (by
    show wr.ownsRow wz 31 4 (.slice An nn cn) (PS.map _).length ((PS.map _).flatMap dS.cells)
    rw[OV,List.length_map,<-KX.out.2.2.2.1.ln]
    exact KX.out.2.2.2.1.own) (by omega) (fun y hy k' hk'=>by rw[<-hwz];exact((HV.out.1.pl.prt y hy).lt k' hk').2) (Tj _ _ _ _) XG.out.1 XG.out.2
   have hpl6:kJ B1 D (.slice A6 (k+1) c6) (bs++[Ti k win (.slice An nn cn) PS]) (w6.setCell ⟨gp,2,none⟩ (.slice A6 (k+1) c6)):=hsn.1.grown (bF (World.grownBy.refl _ _)) hg1
   have Tt:Bk (w6.setCell ⟨gp,2,none⟩ (.slice A6 (k+1) c6)) bq 80 #[.slice (some ⟨g,o,none⟩) n1 c1,.slice A2 n2 c2,.int .i64 aC,.int .i64 win,.string KEY,.int .i64 ka]:=
    ((show Bk wr bq _ _ from(KX.out.1.block bq HV.out.1.kq.lt (by omega) (aO HV.out.1.st.own HV.out.1.kq (by decide))).trans HV.out.1.kq).grown XG.out.2 (aO bI (show Bk wr bq _ _ from(KX.out.1.block bq HV.out.1.kq.lt (by omega) (aO HV.out.1.st.own HV.out.1.kq (by decide))).trans HV.out.1.kq) (by decide))).far (by show bq≠gp;omega) _
   have Tu:Bk (w6.setCell ⟨gp,2,none⟩ (.slice A6 (k+1) c6)) br 25 #[.int .i64 0,.slice none 0 0,.slice none 0 0]:=
    ((show Bk wr br _ _ from(KX.out.1.block br HV.out.1.kr.lt (by omega) (aO HV.out.1.st.own HV.out.1.kr (by decide))).trans HV.out.1.kr).grown XG.out.2 (aO bI (show Bk wr br _ _ from(KX.out.1.block br HV.out.1.kr.lt (by omega) (aO HV.out.1.st.own HV.out.1.kr (by decide))).trans HV.out.1.kr) (by decide))).far (by show br≠gp;omega) _
   have pO:Below w.heap.size w (w6.setCell ⟨gp,2,none⟩ (.slice A6 (k+1) c6)):=by
    have hb:=HV.out.1.bel;have h1:Below w.heap.size w wr:=⟨KX.out.1.os.trans hb.os,KX.out.1.tape.trans hb.tape,KX.out.1.output.trans hb.output,Nat.le_trans hb.size KX.out.1.size,fun q hq=>(KX.out.1.block q (by have:=hb.size;omega) (by omega) (fun e=>by have:=(HV.out.1.st.own.lt q e.symm).1;omega)).trans (hb.block q hq)⟩
    exact(dY h1 bI (by omega) XG.out.2 (by have:=h1.size;omega)).setCell (by show w.heap.size<=gp;omega) _
   have fM:Hid (Wl b B1 gp bq br D s IM MF aC (.slice none 0 0) (.slice A6 (k+1) c6) (bs++[Ti k win (.slice An nn cn) PS]) #[.slice (some ⟨g,o,none⟩) n1 c1,.slice A2 n2 c2,.int .i64 aC,.int .i64 win,.string KEY,.int .i64 ka] w (w6.setCell ⟨gp,2,none⟩ (.slice A6 (k+1) c6))/\(∀z∈dU (bs++[Ti k win (.slice An nn cn) PS]),z.2=[])/\B1<=(w6.setCell ⟨gp,2,none⟩ (.slice A6 (k+1) c6)).heap.size):=zH
    ⟨⟨vV,hpl6,JG.out.put 2 _,Tt,Tu,pO⟩,hsn.2,by have:=XG.out.2.size;simp;omega⟩
   have ZI:Hid ((bs++[Ti k win (.slice An nn cn) PS]).length=k+1/\nN s q.window (k+1) (q.branches.drop (k+1)) ((bs++[Ti k win (.slice An nn cn) PS]).map (mJ D)) MF=(Px,M1)/\MF.items.length<=8*(k+1)):=zH
    ⟨by simp[HR.out.1],by rw[List.map_append,List.map_cons,List.map_nil,Tm,HQ.out.2.1];exact wU.out.1,by
     have h1:=wU.out.2.2.1;have h2:=HR.out.2.2;have h3:=HL8.out
     omega⟩
   clear vV hsn hpl6 Tt Tu pO XG JG KX bI oU HV HR wU HBC ZG HP2 hbn;go_wp2
   go_roundw
   case rel=>exact⟨k+1,IM,MF,A6,c6,bs++[Ti k win (.slice An nn cn) PS],by omega,by go_num,ZI,fM⟩
   case measure=>simp[intOf];omega
  ·
   obtain rfl:k=n1:=by omega
   have hr:=HR.out.2.1;rw[List.drop_eq_nil_of_le (by rw[<-FD.out];exact Nat.le_refl _)]at hr;have hr:(bs.map (mJ D),m)=(Px,M1):=hr;injection hr with hp1 hm1
   have hmi:=HR.out.2.2;subst hm1;have pM:=zH hp1;have hbs:=HR.out.1;have HBS:=zH hbs
   have XH:0<m.items.length:=by
    have h1:=Nj.out.2.2.1;have h2:=Wp q.branches Sz.out.2.2.2.2.2.2 Sz.out.2.2.2.2.2.1;omega
   have hk4:k<=4:=by have:=HPZ.out.2.1;have:=FD.out;omega
   have Xu:=zH (Si b B1 s iv m (.slice A1 k c1) (.slice A2 n2 c2) (.int .i64 aC) (.int .i64 win) KEY ka W HV.out.1.st hb1 (by omega) XH)
   have hkt:keysT s KEY.toList ka m=(KS,M2):=by
    rw[<-HR2.out,<-HQ.out.2.2.1,aF,HQ.out.2.2.2]
   rw[hkt]at Xu;simp only[]at Xu;obtain⟨z0,z1,z2,z3,z4,z5⟩:=zc6 HV.out.1.kq;simp only[List.getElem?_toArray,List.getElem?_cons_zero,List.getElem?_cons_succ]at z0 z1 z2 z3 z4 z5;have HMI:=zH hmi;clear hr hp1 hbs XH hkt HR hmi hlt hk;go_upto_region 14 with fail
   go_wp2_with fail
   refine Xu.out.mono ?_;rintro r w4 ⟨Ak,nk,ck,rfl,hnk,hown4,hs4⟩;have Ws:=HV.out.1.kp.grown hs4.grown (aA hgb);have f4:=Ws.frozen 1;have c4':w4.cell? ⟨gp,1,none⟩=some (.slice none 0 0):=Ws.cell 1;have KJ:=zH (And.intro hs4 (And.intro hown4 (And.intro Ws hnk)));clear hs4 hown4 Ws hnk Xu z0 z1 z2 z3 z4 z5;have hst5:=KJ.out.1.st.Td KJ.out.2.2.1 hbg (by decide) 1 (.slice Ak nk ck);have hpl5:kJ B1 D (.slice A k c) bs (w4.setCell ⟨gp,1,none⟩ (.slice Ak nk ck)):=(HV.out.1.pl.grown KJ.out.1.grown hb1).grown (bF (World.grownBy.refl _ _)) hg1;have hkq5:=(HV.out.1.kq.grown KJ.out.1.grown (aA (show bq≠b by omega))).far (p:=⟨gp,1,none⟩) (by show bq≠gp;omega) (.slice Ak nk ck);have hkr5:=(HV.out.1.kr.grown KJ.out.1.grown (aA (show br≠b by omega))).far (p:=⟨gp,1,none⟩) (by show br≠gp;omega) (.slice Ak nk ck);have yK:Below w.heap.size w (w4.setCell ⟨gp,1,none⟩ (.slice Ak nk ck)):=(HV.out.1.bel.grown KJ.out.1.grown HV.out.1.bel.size (fun k hk=>by injection hk with hk;omega)).setCell (by show w.heap.size<=gp;omega) _;have hkv5:=ve (di KJ.out.2.1 HV.out.2.2) KJ.out.2.2.1 (by decide) 1 (.slice Ak nk ck)
   have HV5:Hid (Wl b B1 gp bq br D s iv M2 aC (.slice Ak nk ck) (.slice A k c) bs #[.slice A1 k c1,.slice A2 n2 c2,.int .i64 aC,.int .i64 win,.string KEY,.int .i64 ka] w (w4.setCell ⟨gp,1,none⟩ (.slice Ak nk ck))/\(w4.setCell ⟨gp,1,none⟩ (.slice Ak nk ck)).ownsRow B1 3 1 (.slice Ak nk ck) nk (aU KS)/\B1<=(w4.setCell ⟨gp,1,none⟩ (.slice Ak nk ck)).heap.size):=zH
    ⟨⟨hst5,hpl5,KJ.out.2.2.1.put 1 _,hkq5,hkr5,yK⟩,hkv5,by have:=KJ.out.1.grown.size;have:=HV.out.2.2;simp;omega⟩
   have HNK:Hid (nk=KS.length):=zH KJ.out.2.2.2
   have hMi:M2.items=m.items:=by
    have:=IL s q.key q.keyAt m;rw[HR2.out]at this;exact this
   have hrl0:kG Px 0:=fun b hb p hp=>by
    have:=(Nj.out.2.2.2 b hb).2 p hp;rw[this.1,this.2];exact⟨Nat.le_refl _,Nat.le_refl _⟩
   have HL0:Hid (nO s (q.cond.drop 0) (bs.map (mJ D)) M2=(PT3,M3)/\M2.items=m.items/\BX (bs.map (mJ D))=BX Px/\kG (bs.map (mJ D)) 0):=zH ⟨by rw[List.drop_zero,pM.out];exact HR3.out,hMi,by rw[pM.out],by rw[pM.out];exact hrl0⟩;have x1:=HV5.out.1.kq.cell 1;simp only[List.getElem?_toArray,List.getElem?_cons_zero,List.getElem?_cons_succ]at x1
   have hn200:n2<=200:=by
    have h1:=D7 q.cond 0;have h2:iJ q=aV 0 q.cond:=rfl;have:=HPZ.out.2.2.1;have:=HLW.out;omega
   clear hst5 hpl5 hkq5 hkr5 yK hkv5 hMi hrl0 KJ HV;go_wp2_with fail
   clear x1 f4 c4'
   go_loopw[63] (fun i wr=>∃(t:Nat) (m':MS) (bs':List iR),t<=n2/\i=.int .i64 t/\Hid (nO s (q.cond.drop t) (bs'.map (mJ D)) m'=(PT3,M3)/\m'.items=m.items/\BX (bs'.map (mJ D))=BX Px/\kG (bs'.map (mJ D)) t)/\Hid (Wl b B1 gp bq br D s iv m' aC (.slice Ak nk ck) (.slice A k c) bs' #[.slice A1 k c1,.slice A2 n2 c2,.int .i64 aC,.int .i64 win,.string KEY,.int .i64 ka] w wr/\wr.ownsRow B1 3 1 (.slice Ak nk ck) nk (aU KS)/\B1<=wr.heap.size)) (fun i _=>n2-(intOf i).toNat)
   case atStart=>exact⟨0,M2,bs,Nat.zero_le _,rfl,HL0,HV5⟩
   case round=>
    clear HL0 HV5;obtain⟨t,m',bs',ht,rfl,HR,HV⟩:=hrel;obtain⟨W,rfl⟩:∃W:World,W=wr:=⟨_,rfl⟩
    by_cases hlt:t<n2
    ·as_aux_lemma=>
     have hkl:t<q.cond.length:=by rw[<-HLW.out];exact hlt
     obtain⟨g,o,y0,y1,y2,y3,y4,y5,y6,rfl,hg,hok,hc⟩:=Zn.out.get t hkl;have hmem:=List.getElem_mem hkl;have hr:=HR.out.1;rw[List.drop_eq_getElem_cons hkl]at hr;have hnd:=uQ q.cond 0 _ hmem;have hrt:=Sz.out.2.1 _ hmem;have hbd:=Fz.out _ hmem;obtain⟨e,he⟩:∃z,q.cond[t]=z:=⟨_,rfl⟩
     rw[he]at hok hr hnd hrt hbd;have hr2:nO s (q.cond.drop (t+1)) (mZ s e (bs'.map (mJ D)) m').1 (mZ s e (bs'.map (mJ D)) m').2=(PT3,M3):=hr;have hnd2:aB e<=200:=by have h2:iJ q=aV 0 q.cond:=rfl;have:=HPZ.out.2.2.1;omega
     have hokW:kZ (fun g=>g<B1/\g≠b) W e [y0,y1,y2,y3,y4,y5,y6]:=hok.keep fun g' hP hlt'=>⟨⟨by omega,by omega⟩,HV.out.1.bel.block g' hlt'⟩
     have hinP:∀y∈m'.items,InT (bs'.map (mJ D)) y:=fun y hy=>by
      rw[HR.out.2.1]at hy;exact(Nj.out.2.1 y hy).sh HR.out.2.2.1
     have hin0:InT (bs'.map (mJ D)) Kr:=by
      have hl:0<Px.length:=by rw[Nj.out.1,Nat.zero_add];exact Sz.out.2.2.2.2.2.2
      exact InT.sh HR.out.2.2.1 ⟨Px[0],List.getElem?_eq_getElem hl,(Nj.out.2.2.2 _ (List.getElem_mem hl)).1⟩
     have hsz:m'.items.length<=1000:=by rw[HR.out.2.1];have:=HMI.out;omega
     have hCD:=OT b B1 B1 D gp s iv m' (aC:Int) (.slice Ak nk ck) (.slice A k c) bs' (bs'.map (mJ D)) e [y0,y1,y2,y3,y4,y5,y6] W HV.out.1.st hb1 hb1 hg1 HV.out.2.2 HV.out.1.pl HV.out.1.kp hokW rfl hsz (sN e hrt hbd) (sO e hrt) (by omega) (by have:=sQ e;omega) hinP hin0 (Wq HR.out.2.2.1 fun b hb=>(Nj.out.2.2.2 b hb).1) (fun b hb p hp=>by have:=HR.out.2.2.2 b hb p hp;exact⟨by omega,by omega⟩);have hsp2:=KU s e (bs'.map (mJ D)) m' t HR.out.2.2.2;obtain⟨⟨PTn,Mn⟩,hcf⟩:∃z,mZ s e (bs'.map (mJ D)) m'=z:=⟨_,rfl⟩
     rw[hcf]at hCD hr2 hsp2;simp only[]at hCD;have HCD:=zH hCD;have wU:=zH (And.intro hr2 hsp2)
     have hcc:∀(j:Nat) (u:Value),[y0,y1,y2,y3,y4,y5,y6][j]? =some u->W.cell? ⟨g,o+t*7+j,none⟩=some u:=fun j u hu=>by
      have h1:=hc j u hu;rw[<-Nat.add_assoc]at h1;exact(aT HV.out.1.bel g _ hg).trans h1
     have r0:W.cell? ⟨g,o+t*7,none⟩=some y0:=hcc 0 _ rfl;have r1:W.cell? ⟨g,o+t*7+1,none⟩=some y1:=hcc 1 _ rfl;have r2:W.cell? ⟨g,o+t*7+2,none⟩=some y2:=hcc 2 _ rfl;have r3:W.cell? ⟨g,o+t*7+3,none⟩=some y3:=hcc 3 _ rfl;have r4:W.cell? ⟨g,o+t*7+4,none⟩=some y4:=hcc 4 _ rfl;have r5:W.cell? ⟨g,o+t*7+5,none⟩=some y5:=hcc 5 _ rfl;have r6:W.cell? ⟨g,o+t*7+6,none⟩=some y6:=hcc 6 _ rfl;have x1:=HV.out.1.kq.cell 1;simp only[List.getElem?_toArray,List.getElem?_cons_zero,List.getElem?_cons_succ]at x1;clear hok hc hcc hr hnd hrt hbd he hr2 hnd2 hokW hinP hin0 hsz hCD hsp2 hcf hmem hg;go_wp2_with fail
     refine HCD.out.mono ?_;rintro r w6 ⟨rfl,SH,hcd⟩
     have pO:Below w.heap.size w w6:=by
      have hb:=HV.out.1.bel;exact⟨hcd.fr.os.trans hb.os,hcd.fr.tape.trans hb.tape,hcd.fr.output.trans hb.output,Nat.le_trans hb.size hcd.fr.size,fun q hq=>(hcd.fr.block q (by have:=hb.size;omega) (by omega) (HV.out.1.pl.low (by omega))).trans (hb.block q hq)⟩
     have Tt:=(hcd.fr.block bq HV.out.1.kq.lt (by omega) (HV.out.1.pl.wO HV.out.1.kq (by decide) (by decide) (by decide))).trans HV.out.1.kq;have Tu:=(hcd.fr.block br HV.out.1.kr.lt (by omega) (HV.out.1.pl.low (by omega))).trans HV.out.1.kr
     have hkv6:w6.ownsRow B1 3 1 (.slice Ak nk ck) nk (aU KS):=by
      refine⟨HV.out.2.1.1,?_⟩;rcases HV.out.2.1.2 with h0|⟨g',cap,cur,hv,hb0,hh,hx⟩
      ·exact .inl h0
      ·have hk':Bk W g' 3 cur:=hh;exact .inr ⟨g',cap,cur,hv,hb0,(hcd.fr.block g' hk'.lt (by omega) (HV.out.1.pl.wO hk' (by decide) (by decide) (by decide))).trans hh,hx⟩
     have fM:Hid (Wl b B1 gp bq br D s iv Mn aC (.slice Ak nk ck) (.slice A k c) SH #[.slice A1 k c1,.slice (some ⟨g,o,none⟩) n2 c2,.int .i64 aC,.int .i64 win,.string KEY,.int .i64 ka] w w6/\w6.ownsRow B1 3 1 (.slice Ak nk ck) nk (aU KS)/\B1<=w6.heap.size):=zH
      ⟨⟨hcd.st,hcd.pl,hcd.kp,Tt,Tu,pO⟩,hkv6,by have:=hcd.fr.size;have:=HV.out.2.2;omega⟩
     have ZI:Hid (nO s (q.cond.drop (t+1)) (SH.map (mJ D)) Mn=(PT3,M3)/\Mn.items=m.items/\BX (SH.map (mJ D))=BX Px/\kG (SH.map (mJ D)) (t+1)):=zH (by
      rw[hcd.tr]
      exact⟨wU.out.1,wU.out.2.2.2.trans HR.out.2.1,wU.out.2.1.trans HR.out.2.2.1,wU.out.2.2.1⟩)
     clear hcd pO Tt Tu hkv6 wU HCD HV HR r0 r1 r2 r3 r4 r5 r6 x1;go_wp2
     go_roundw
     case rel=>exact⟨t+1,Mn,SH,by omega,by go_num,ZI,fM⟩
     case measure=>simp[intOf];omega
    ·
     obtain rfl:t=n2:=by omega
     have hr:=HR.out.1;rw[List.drop_eq_nil_of_le (by rw[<-HLW.out];exact Nat.le_refl _)]at hr;have hr:(bs'.map (mJ D),m')=(PT3,M3):=hr;injection hr with hp3 Yy
     subst Yy;have HP3:=zH hp3;have e3:=HV.out.1.st.c3;clear hr hp3 HR hlt ht
     by_cases h0:m'.err=0
     case neg=>
      have iV:((m'.err:Int) !=0)=true:=by rw[bne_iff_ne];omega
      have hR:=HRR.out;rw[if_pos h0]at hR;injection hR with h1 h2
      injection h2 with h2 h3
      subst h1;subst h2;subst h3;go_upto_region 21 with fail
      have c4:=HV.out.1.st.c4;have c3:=e3;have hs3:=HV.out.1.st;have k3:=HV.out.1.kr;have hbrne:br≠b:=by omega
      have hwz:=HV.out.1.kr.lt;clear h0 HRR e3 iV
      refine Go.Proofs.Ytbjnhllkdilpfaa.wr 9 (some br) [.is (.agg #[.int .i64 0, .slice none 0 0, .slice none 0 0]),
        .is (.pointer (some ⟨b,0,none⟩)),
        .is (.pointer (some ⟨b,0,none⟩)),
        .is (.pointer (some ⟨b,4,none⟩)),
        .is (.int .i64 (m'.pos:Nat)),
        .is (.pointer (some ⟨b,0,none⟩)),
        .is (.pointer (some ⟨b,0,none⟩)),
        .is (.pointer (some ⟨b,3,none⟩)),
        .is (.int .i64 (m'.err:Nat)),
        .st (fun v W=>Bk W br 25 #[.int .i64 0,.slice none 0 0,.slice none 0 0]) (fun v w w2 hb h=>h.old hb),
        .is (.int .i64 (m'.pos:Nat)),
        .is (.int .i64 (m'.err:Nat))] [0,9] (by kernel_rfl) (by kernel_rfl) (by kernel_rfl)
        (fun C=>.c (ah.z (rG _) [] [] (by kernel_rfl) fun qK qa wr hB qO qF hK=>?_) <|
        .c (ah.x (rG _) C rfl (fun _ _=>rfl)) <|
        .c (ah.x (rG _) C rfl (fun _ _=>rfl)) <|
        .c (ah.x (rG _) C rfl (fun _ _=>rfl)) <|
        .c (ah.x (rG _) C rfl (fun wr hG=>by
        have c4:wr.cell? ⟨b,4,none⟩=some (.int .i64 (m'.pos:Nat)):=(hs3.bk.grown hG (aA (by omega))).cell 4
        exact bW (lJ (by assumption)))) <|
        .c (ah.x (rG _) C rfl (fun _ _=>rfl)) <|
        .c (ah.x (rG _) C rfl (fun _ _=>rfl)) <|
        .c (ah.x (rG _) C rfl (fun _ _=>rfl)) <|
        .c (ah.x (rG _) C rfl (fun wr hG=>by
        have c3:wr.cell? ⟨b,3,none⟩=some (.int .i64 (m'.err:Nat)):=(hs3.bk.grown hG (aA (by omega))).cell 3
        exact bW (lJ (by assumption)))) <|
        .c (ah.g [0] [4] (by kernel_rfl) fun qK qa wr hB qO qF hK=>?_) <|
        .c (ah.x (rG _) C rfl (fun _ _=>rfl)) <|
        .c (ah.x (rG _) C rfl (fun _ _=>rfl)) <| .nil) ?_
      ·clear qO qF;go_simp;exact hK _ _ zR rfl
      ·have e4:qa.tmps[4]? =some (.pointer (some ⟨br,0,none⟩)):=qO.1.trans rfl;have e79:=ay qF.1 rfl rfl;clear qO qF;exact zD jA _ _ rfl (qM (by assumption)) [.int .i64 0,.slice none 0 0,.slice none 0 0] (qM (by assumption)) (k3.old hB) rfl rfl rfl (fun w9 p9=>hK _ _ ((below_grown hB _).trans p9.grown) (Nat.le_of_eq p9.size.symm) p9.bk)
      intro qx wr hG hR;have r9:(fun v W=>Bk W br 25 #[.int .i64 0,.slice none 0 0,.slice none 0 0]) (qx 9) wr:=hR 9 rfl rfl;clear hR;simp only[bJ,List.take_succ_cons,List.take_zero,List.drop_succ_cons,List.drop_zero,List.toList_toArray,List.length_cons,List.length_nil,Act.put,List.setIfInBounds_toArray,List.set_cons_zero,List.set_cons_succ];generalize qx 9=zn9 at r9⊢;refine zn ?_;clear k3 c3 c4;have HF:Hid (Below w.heap.size w wr):=zH (HV.out.1.bel.grown hG HV.out.1.bel.size (fun k hk=>by injection hk with hk;omega));clear hG;go_wp2
      obtain⟨u0,u1,u2⟩:=zc3 r9;refine bodyPost_ret (v:=.tuple #[.agg #[.int .i64 0,.slice none 0 0,.slice none 0 0],.int .i64 (m'.pos:Nat),.int .i64 (m'.err:Nat)]) (by simp[results,Try.results34,go_sem,u0,u1,u2]) rfl ?_;exact⟨_,rfl,iq.zero _ _ _,HF.out⟩
     case pos=>
      as_aux_lemma=>
      have iV:((m'.err:Int) !=0)=false:=by rw[bne_eq_false_iff_eq];omega
      have hR:=HRR.out;rw[if_neg (by omega)]at hR;injection hR with h1 h2
      injection h2 with h2 h3
      obtain⟨k0,k1,k2⟩:=zc3 HV.out.1.kp;simp only[List.getElem?_toArray,List.getElem?_cons_zero,List.getElem?_cons_succ]at k0 k1 k2;have kr:=HV.out.1.kr;have xm:=zH h1;subst h2;subst h3;clear h0 HRR h1;go_wp2_with (first|(refine ae jA rfl _ _ rfl rfl [.int .i64 aC,.slice Ak nk ck,.slice A k c] rfl kr rfl rfl rfl ?_;intro w9 p9))
      have u0:=p9.bk.cell 0;have u1:=p9.bk.cell 1;have u2:=p9.bk.cell 2
      have HF:Hid (iq D w.heap.size PT (.agg #[.int .i64 aC,.slice Ak nk ck,.slice A k c]) w9/\Below w.heap.size w w9):=zH
       ⟨⟨.slice Ak nk ck,.slice A k c,bs',by rw[<-xm.out,HQ.out.1],by rw[<-xm.out];show w9.ownsRow _ _ _ _ KS.length _;rw[<-HNK.out];exact di (fV HV.out.2.1 p9.grown (by omega)) (by omega),(HV.out.1.pl.grown p9.grown (by omega)).mono (by omega),by rw[<-xm.out];exact HP3.out⟩,p9.below _ _ HV.out.1.bel ZF⟩
      clear p9 k0 k1 k2 kr;refine bodyPost_ret (v:=.tuple #[.agg #[.int .i64 aC,.slice Ak nk ck,.slice A k c],.int .i64 0,.int .i64 0]) (by simp[results,Try.results34,go_sem,u0,u1,u2]) rfl ?_;exact⟨_,rfl,HF.out.1,HF.out.2⟩
structure QB (q:bK):Prop where
 bd:∀e∈q.cond,kF e
 br:q.branches.length<=1000
 cd:q.cond.length<=100000
 st:q.aP<=1000
 win:q.window<=9223372036854775807
 it:∀l∈q.branches,l.length<=1000
 nd:iJ q<=1000000
def pV (s:ai) (tx:Str):oC×Bool:=
 if(lq tx).2.2≠0 then(wW,false)else((ni s (lq tx).1).1,(ni s (lq tx).1).2.2==0)
def Tv (D:Nat) (s:ai) (tx:Str) (w:World) (e:Ending) (w':World):Prop:=
 ∃pv:Value,e=.returned (.tuple #[pv,.bool (pV s tx).2])/\iq D w.heap.size (pV s tx).1 pv w'/\Below w.heap.size w w'
theorem iq.form {D B:Nat} {t:oC} {v:Value} {W:World} (h:iq D B t v W):∃(A1 A2:Option Addr) (n1 n2 c1 c2:Nat),v=.agg #[.int .i64 t.aP,.slice A1 n1 c1,.slice A2 n2 c2]:=by
 obtain⟨kv,bv,bs,rfl,hk,hp,_⟩:=h;obtain⟨A1,c1,rfl,_⟩:=bg hk;obtain⟨A2,c2,rfl,_⟩:=bg hp.dI;exact⟨A1,A2,_,_,c1,c2,rfl⟩
theorem iq.old {D B:Nat} {t:oC} {v:Value} {W W':World} (h:iq D B t v W) (hb:Below W.heap.size W W'):iq D B t v W':=by
 obtain⟨kv,bv,bs,h1,hk,hp,h2⟩:=h;exact⟨kv,bv,bs,h1,aQ hk hb,hp.old hb,h2⟩
theorem iq.mono {D B B':Nat} {t:oC} {v:Value} {W:World} (h:iq D B t v W) (hB:B'<=B):iq D B' t v W:=by
 obtain⟨kv,bv,bs,h1,hk,hp,h2⟩:=h;exact⟨kv,bv,bs,h1,di hk hB,hp.mono hB,h2⟩
theorem iq.grown {D B b:Nat} {t:oC} {v:Value} {W W':World} (h:iq D B t v W) (hg:W.grownBy W' (some b)) (hb:b<B):iq D B t v W':=by
 obtain⟨kv,bv,bs,h1,hk,hp,h2⟩:=h;exact⟨kv,bv,bs,h1,fV hk hg hb,hp.grown hg hb,h2⟩
theorem Tz (D : Nat) (hD : 200 ≤ D) (s : ai) (TX : ByteArray) (w : World) (hs : s.ok w w.heap.size) (hq : (lq TX.toList).2.2 = 0 → QB (lq TX.toList).1) :
  Calls Try.prog 19 #[s.val,.string TX] w (Tv D s TX.toList w):=by
 have HS:=zH hs;have Qj:Hid (∀W:World,Calls Try.prog 33 #[.string TX] W (EX TX.toList W)):=zH fun W=>parse_any TX W
 unfold EX at Qj;obtain⟨⟨q,ap,er⟩,hp⟩:∃z,lq TX.toList=z:=⟨_,rfl⟩
 rw[hp]at Qj hq;simp only[]at Qj hq;obtain⟨⟨PT,OK⟩,hres⟩:∃z,pV s TX.toList=z:=⟨_,rfl⟩
 have hR:(if er≠0 then(wW,false)else((ni s q).1,(ni s q).2.2==0))=(PT,OK):=by
  rw[<-hres];unfold pV;rw[hp]
 have aG:=zH hR;have HQB:=zH hq;unfold Tv;rw[hres];simp only[];unfold ai.val;clear hs hp hres hR hq
 go_enter Try.func19,Try.ntmps19
 go_upto_region 1 with fail
 have kS:=Bk.new w 61 #[.slice s.ta s.types.length s.tc,.slice s.sa s.syms.length s.sc];have hbS:Below w.heap.size w (w.alloc (.cells #[.slice s.ta s.types.length s.tc,.slice s.sa s.syms.length s.sc] 61)):=zR.alloc zL _;obtain⟨wS,ZE⟩:∃z,w.alloc (.cells #[.slice s.ta s.types.length s.tc,.slice s.sa s.syms.length s.sc] 61)=z:=⟨_,rfl⟩
 rw[ZE]at kS hbS⊢;have kP:=Bk.new wS 25 #[.int .i64 0,.slice none 0 0,.slice none 0 0];have UR:Below wS.heap.size wS (wS.alloc (.cells #[.int .i64 0,.slice none 0 0,.slice none 0 0] 25)):=zR.alloc zL _;obtain⟨w0,hw0⟩:∃z,wS.alloc (.cells #[.int .i64 0,.slice none 0 0,.slice none 0 0] 25)=z:=⟨_,rfl⟩
 rw[hw0]at kP UR⊢;have hsz0:wS.heap.size=w.heap.size+1:=by rw[<-ZE];simp
 have hB0:=hbS.trans (UR.mono hbS.size);rw[hsz0]at kP;have UT:=kS.old UR;have hgr:=kP.lt;obtain⟨gr,hgre⟩:∃z,w.heap.size+1=z:=⟨_,rfl⟩
 rw[hgre]at kP⊢;have hgr0:w.heap.size<=gr:=by omega
 obtain⟨gs,hgs⟩:∃z,w.heap.size=z:=⟨_,rfl⟩
 rw[hgs]at UT⊢;have HW0:Hid (Bk w0 gs 61 #[.slice s.ta s.types.length s.tc,.slice s.sa s.syms.length s.sc]/\Bk w0 gr 25 #[.int .i64 0,.slice none 0 0,.slice none 0 0]/\Below w.heap.size w w0):=zH ⟨UT,kP,hB0⟩;have HGS:=zH hgs;clear kS hbS ZE kP UR hw0 hsz0 hB0 UT hgr hgre hgs;go_wp2_with fail
 refine(Qj.out w0).mono ?_;rintro r w1 ⟨Bq,cs,rfl,hBq,⟨bv,wv,rfl,hbr,hwh⟩,hb1⟩;obtain⟨vs,lF,hbi⟩:=id hbr;obtain⟨A1,c1,rfl,-⟩:=bg lF;obtain⟨css,hwo,hwf⟩:=id hwh;obtain⟨A2,c2,rfl,-⟩:=bg hwo;have hlw:=hwf.len.1;obtain⟨n1,hn1⟩:∃z,q.branches.length=z:=⟨_,rfl⟩
 obtain⟨n2,hn2⟩:∃z,css.length=z:=⟨_,rfl⟩
 rw[hn1]at hbr;rw[hn2]at hwh hlw;have HN:=zH (And.intro hn1 hlw);have HW1:Hid (Bk w1 gs 61 #[.slice s.ta s.types.length s.tc,.slice s.sa s.syms.length s.sc]/\Bk w1 gr 25 #[.int .i64 0,.slice none 0 0,.slice none 0 0]/\Below w.heap.size w w1/\jY Bq w1 (.slice A1 n1 c1) q.branches/\yI Bq w1 (.slice A2 n2 c2) q.cond):=zH ⟨HW0.out.1.old hb1,HW0.out.2.1.old hb1,HW0.out.2.2.trans (hb1.mono HW0.out.2.2.size),hbr,hwh⟩;unfold bK.cells iK;rw[hn1,hn2];clear hbr hwh lF hbi hwo hwf hlw hn1 hn2 hb1 Qj HW0 hBq;obtain⟨aC,BJ⟩:∃z,q.aP=z:=⟨_,rfl⟩
 obtain⟨win,hwn⟩:∃z,q.window=z:=⟨_,rfl⟩
 obtain⟨KEY,hkey⟩:∃z,bytes q.key=z:=⟨_,rfl⟩
 obtain⟨ka,hka⟩:∃z,q.keyAt=z:=⟨_,rfl⟩
 have HQ:=zH (And.intro BJ (And.intro hwn (And.intro hkey hka)));rw[BJ,hwn,hkey,hka];clear BJ hwn hkey hka;go_upto_region 2 with(first|(refine ae mr rfl _ _ rfl rfl [.slice A1 n1 c1,.slice A2 n2 c2,.int .i64 aC,.int .i64 win,.string KEY,.int .i64 ka] rfl (Bk.new w1 _ _) rfl rfl rfl ?_;intro w2 p2;go_frame))
 have hb2:Below w1.heap.size w1 w2:=p2.below _ _ (zR.alloc zL _) zL;have kq:=p2.bk;obtain⟨gq,hgq⟩:∃z,w1.heap.size=z:=⟨_,rfl⟩
 rw[hgq]at kq⊢;have HW2:Hid (Bk w2 gs 61 #[.slice s.ta s.types.length s.tc,.slice s.sa s.syms.length s.sc]/\Bk w2 gr 25 #[.int .i64 0,.slice none 0 0,.slice none 0 0]/\Below w.heap.size w w2/\jY Bq w2 (.slice A1 n1 c1) q.branches/\yI Bq w2 (.slice A2 n2 c2) q.cond/\Bk w2 gq 80 #[.slice A1 n1 c1,.slice A2 n2 c2,.int .i64 aC,.int .i64 win,.string KEY,.int .i64 ka]):=zH ⟨HW1.out.1.old hb2,HW1.out.2.1.old hb2,HW1.out.2.2.1.trans (hb2.mono HW1.out.2.2.1.size),HW1.out.2.2.2.1.old hb2,HW1.out.2.2.2.2.old hb2,kq⟩;clear hb2 kq hgq p2 HW1
 by_cases her:er=0
 case neg=>
  as_aux_lemma=>
  have eI:((er:Int) !=0)=true:=by rw[bne_iff_ne];omega
  have hR:=aG.out;rw[if_pos her]at hR;injection hR with h1 h2
  subst h1;subst h2;have kr:=HW2.out.2.1;clear her aG;go_wp2_with (first|(refine ae jA rfl _ _ rfl rfl [.int .i64 0,.slice none 0 0,.slice none 0 0] rfl kr rfl rfl rfl ?_;intro w9 p9))
  obtain⟨u0,u1,u2⟩:=zc3 p9.bk;refine bodyPost_ret (v:=.tuple #[.agg #[.int .i64 0,.slice none 0 0,.slice none 0 0],.bool false]) (by simp[results,Try.results19,go_sem,u0,u1,u2]) rfl ?_;exact⟨_,rfl,iq.zero _ _ _,p9.below _ _ HW2.out.2.2.1 hgr0⟩
 case pos=>
  as_aux_lemma=>
  have eI:((er:Int) !=0)=false:=by rw[bne_eq_false_iff_eq];omega
  have hR:=aG.out;rw[if_neg (by omega)]at hR;have XI:=HQB.out her;have HMK:=zH (Tn D hD s q A1 A2 n1 n2 c1 c2 Bq w2 ((HS.out.jf HW2.out.2.2.1).more HW2.out.2.2.1.size) HW2.out.2.2.2.1 HW2.out.2.2.2.2.1 XI.bd ⟨by have:=HN.out.1;have:=XI.br;omega,by have:=HN.out.2;have:=XI.cd;omega⟩ XI.st XI.win XI.it XI.nd);unfold Tc ai.val bK.cells iK at HMK;obtain⟨⟨MT,MA,ME⟩,hmk⟩:∃z,ni s q=z:=⟨_,rfl⟩
  rw[hmk,HQ.out.1,HQ.out.2.1,HQ.out.2.2.1,HQ.out.2.2.2]at HMK;rw[hmk]at hR;injection hR with h1 h2
  subst h1;have xq:=zH h2;simp only[]at HMK;have y0:=HW2.out.1.cell 0;have y1:=HW2.out.1.cell 1;obtain⟨z0,z1,z2,z3,z4,z5⟩:=zc6 HW2.out.2.2.2.2.2;simp only[List.getElem?_toArray,List.getElem?_cons_zero,List.getElem?_cons_succ]at y0 y1 z0 z1 z2 z3 z4 z5;clear her aG XI hmk h2;go_wp2_with fail
  refine HMK.out.mono ?_;rintro r w3 ⟨pv,rfl,hpr,hb3⟩;obtain⟨P1,P2,m1,m2,d1,d2,rfl⟩:=hpr.form;have HW3:=zH (And.intro hpr (And.intro (HW2.out.2.1.old hb3) (HW2.out.2.2.1.trans (hb3.mono HW2.out.2.2.1.size))));have hzz:w.heap.size<=w3.heap.size:=HW3.out.2.2.size;have hgr3:=HW3.out.2.1.lt;have hz2:=HW2.out.2.1.lt;clear hpr hb3 HMK y0 y1 z0 z1 z2 z3 z4 z5;go_upto_region 5 with(first|(refine ae jA rfl _ _ rfl rfl [.int .i64 MT.aP,.slice P1 m1 d1,.slice P2 m2 d2] rfl (Bk.new w3 _ _) rfl rfl rfl ?_;intro w4 p4;go_frame))
  have hb4:Below w3.heap.size w3 w4:=p4.below _ _ (zR.alloc zL _) zL;have kr:=HW3.out.2.1.old hb4;obtain⟨v0,v1,v2⟩:=zc3 p4.bk;simp only[List.getElem?_toArray,List.getElem?_cons_zero,List.getElem?_cons_succ]at v0 v1 v2;have XE:Hid (iq D w2.heap.size MT (.agg #[.int .i64 MT.aP,.slice P1 m1 d1,.slice P2 m2 d2]) w4/\Below w.heap.size w w4):=zH ⟨HW3.out.1.old hb4,HW3.out.2.2.trans (hb4.mono hzz)⟩;have hok:=xq.out;have hbw2:w.heap.size<=w2.heap.size:=HW2.out.2.2.1.size;clear hb4 p4 HW3 HW2 xq;go_wp2_with (first|(refine ae jA rfl _ _ rfl rfl [.int .i64 MT.aP,.slice P1 m1 d1,.slice P2 m2 d2] rfl kr rfl rfl rfl ?_;intro w9 p9))
  obtain⟨u0,u1,u2⟩:=zc3 p9.bk;have HF:Hid (iq D w.heap.size MT (.agg #[.int .i64 MT.aP,.slice P1 m1 d1,.slice P2 m2 d2]) w9/\Below w.heap.size w w9):=zH ⟨(XE.out.1.grown p9.grown hz2).mono hbw2,p9.below _ _ XE.out.2 hgr0⟩;clear p9 v0 v1 v2 kr;refine bodyPost_ret (v:=.tuple #[.agg #[.int .i64 MT.aP,.slice P1 m1 d1,.slice P2 m2 d2],.bool OK]) (by simp[results,Try.results19,go_sem,u0,u1,u2,hok]) rfl ?_;exact⟨_,rfl,HF.out.1,HF.out.2⟩
structure pJ where
 A:Option Addr
 c:Nat
 ns:List au
def pJ.val (x:pJ):Value:=.slice x.A x.ns.length x.c
structure pJ.ok (S:Nat->Prop) (d:Nat) (x:pJ) (w:World):Prop where
 rd:I8 w S x.A (x.ns.flatMap au.cells)
 len:x.ns.length<=1048576
 kids:∀y∈x.ns,okS S d y w
def ns0:pJ:=⟨none,0,[]⟩
structure oD where
 type:Int
 g:pJ
def oD.cells (x:oD):List Value:=[.int .i64 x.type,x.g.val]
structure xZ where
 branch:Int
 cl:pJ
 bA:Option Addr
 bc:Nat
 bars:List oD
def xZ.cells (x:xZ):List Value:=[.int .i64 x.branch,x.cl.val,.slice x.bA x.bars.length x.bc]
structure qo where
 parent:Int
 type:Int
 many:Bool
 window:Int
 bA:Option Addr
 bc:Nat
 bars:List oD
 lv:pJ
 gd:pJ
 eA:Option Addr
 ec:Nat
 ends:List xZ
def qo.cells (x:qo):List Value:=[.int .i64 x.parent,.int .i64 x.type,.bool x.many,.int .i64 x.window,.slice x.bA x.bars.length x.bc,x.lv.val,x.gd.val,.slice x.eA x.ends.length x.ec]
theorem zM (x:qo):x.cells.length=8:=rfl
structure uS (S:Nat->Prop) (d:Nat) (A:Option Addr) (l:List oD) (w:World):Prop where
 rd:I8 w S A (l.flatMap oD.cells)
 each:∀b∈l,b.g.ok S d w
structure Fa (S:Nat->Prop) (d:Nat) (e:xZ) (w:World):Prop where
 cl:e.cl.ok S d w
 bars:uS S d e.bA e.bars w
structure OW (S:Nat->Prop) (d:Nat) (s:qo) (w:World):Prop where
 bars:uS S d s.bA s.bars w
 lv:s.lv.ok S d w
 gd:s.gd.ok S d w
 ends:I8 w S s.eA (s.ends.flatMap xZ.cells)
 each:∀e∈s.ends,Fa S d e w
section
variable {S S':Nat->Prop} {d:Nat} {w w':World}
theorem pJ.ok.keep {x:pJ} (h:x.ok S d w) (hk:∀b,S b->b<w.heap.size->S' b/\b<w'.heap.size/\w'.heap[b]? =w.heap[b]?):x.ok S' d w':=⟨h.rd.keep hk,h.len,fun y hy=>(h.kids y hy).keep hk⟩
theorem uS.keep {A:Option Addr} {l:List oD} (h:uS S d A l w) (hk:∀b,S b->b<w.heap.size->S' b/\b<w'.heap.size/\w'.heap[b]? =w.heap[b]?):uS S' d A l w':=⟨h.rd.keep hk,fun b hb=>(h.each b hb).keep hk⟩
theorem Fa.keep {e:xZ} (h:Fa S d e w) (hk:∀b,S b->b<w.heap.size->S' b/\b<w'.heap.size/\w'.heap[b]? =w.heap[b]?):Fa S' d e w':=⟨h.cl.keep hk,h.bars.keep hk⟩
theorem OW.keep {s:qo} (h:OW S d s w) (hk:∀b,S b->b<w.heap.size->S' b/\b<w'.heap.size/\w'.heap[b]? =w.heap[b]?):OW S' d s w':=⟨h.bars.keep hk,h.lv.keep hk,h.gd.keep hk,h.ends.keep hk,fun e he=>(h.each e he).keep hk⟩
end
theorem Fb (S:Nat->Prop) (d:Nat) (w:World):ns0.ok S d w:=⟨.inl rfl,by simp[ns0],fun y hy=>absurd hy (by simp[ns0])⟩
def XJ (d:Nat) (x:pJ):List T:=x.ns.map (bz d)
def barT (d:Nat) (x:oD):Ce:=⟨x.type,XJ d x.g⟩
def ZJ (d:Nat) (x:xZ):PZ:=⟨x.branch,XJ d x.cl,x.bars.map (barT d)⟩
def tV (d:Nat) (x:qo):lh:=⟨x.parent,x.type,x.many,x.window,x.bars.map (barT d),XJ d x.lv,XJ d x.gd,x.ends.map (ZJ d)⟩
structure BdT where
 parent:Int
 bars:List Ce
 lv:List T
 dF:List lh
def rF (win:Int) (p:kM) (x:BdT):Option BdT:=
 if p.form=3 then some {x with bars:=x.bars++[⟨p.type,p.gs⟩]}
 else if x.dF.length=32 then none
 else some ⟨x.dF.length,[],p.cs,x.dF++[⟨x.parent,p.type,p.form==2,win,x.bars,x.lv,p.gs,[]⟩]⟩
def ny (win:Int):List kM->BdT->Option BdT
 |[],x=>some x
 |p::l,x=>match rF win p x with
  |none=>none
  |some y=>ny win l y
def IP (id:Int) (x:BdT):List lh:=if 0<=x.parent then x.dF.modify x.parent.toNat (fun s=>{s with ends:=s.ends++[⟨id,x.lv,x.bars⟩]})else x.dF
def wY:List bQ->List lh->Option (List lh)
 |[],dF=>some dF
 |b::l,dF=>match ny b.window b.ps ⟨-1,[],[],dF⟩with
  |none=>none
  |some y=>wY l (IP b.id y)
def rH (p:oC):yx×Int:=
 match wY p.branches []with
 |none=>(⟨0,[],[]⟩,4)
 |some dF=>(⟨p.aP,p.keys,dF⟩,0)
structure ZK (d:Nat) (v:Value) (ns:List au) (w:World):Prop where
 ex:∃(A:Option Addr) (c:Nat),v=.slice A ns.length c/\Rd w w.heap.size A (ns.flatMap au.cells)
 len:ns.length<=1048576
 kids:∀y∈ns,xg d y w w.heap.size
end Go.Proofs.Ytbjnhllkdilpfaa
