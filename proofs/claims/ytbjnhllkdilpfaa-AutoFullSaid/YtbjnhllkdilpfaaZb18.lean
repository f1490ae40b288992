/- Part 18 of the proof. No conditions. -/
import Derived.Test.YtbjnhllkdilpfaaZb17
namespace Go.Proofs.Ytbjnhllkdilpfaa
open Go.RowKit
set_option linter.unusedSimpArgs false
set_option linter.unusedVariables false
set_option maxHeartbeats 16000000
set_option maxRecDepth 100000
theorem Af (d : Nat) (ih : ∀ d', d' + 1 = d → ∀ (l : List ax) (A : Option Addr) (c : Nat) (w : World), (∀ x ∈ l, yB d' x w w.heap.size) → Rd w w.heap.size A (l.flatMap ax.cells) → l.length ≤ 1048576 → Calls Try.prog 18 #[.slice A l.length c] w (Iq d' l w))
  (l:List ax) (A:Option Addr) (c:Nat) (w:World) (hall:∀x∈l,yB d x w w.heap.size) (hr:Rd w w.heap.size A (l.flatMap ax.cells)) (hl:l.length<=1048576):Calls Try.prog 18 #[.slice A l.length c] w (Iq d l w):=by
 obtain⟨iN,hN,hN0,hN1,VW⟩:=info_parts Jw;have HA:=zH hall;have vS:=zH hr;have HI:=zH ih;clear hall hr ih
 go_enter Try.func18,Try.ntmps18
 go_wp2_with fail
 go_loopw [3, 8] (fun vs i wr => ∃ (k : Nat) (Av : Option Addr) (cv : Nat) (l' : List ax), k ≤ l.length ∧ i = .int .i64 k ∧ vs = .slice Av k cv ∧ Below w.heap.size w wr ∧ l'.length = k ∧ Hid (∀ (i : Nat) (x y : ax), l[i]? = some x → l'[i]? = some y → OC d x y) ∧
   wr.ownsRow w.heap.size 76 7 vs k (l'.flatMap ax.cells)/\Hid (∀y∈l',okS (fun b=>w.heap.size<=b/\some b≠vs.ownBlock) d y wr)) (fun _ i _=>l.length-(intOf i).toNat)
 case atStart=>exact⟨0,none,0,[],Nat.zero_le _,rfl,rfl,Below.refl _ _,rfl,zH (by intro i x y _ h;simp at h),World.ownsRow_nil _ _ _ _,zH (by simp)⟩
 case round=>
  obtain⟨k,Av,cv,l',hk,rfl,rfl,hbel,hl',hsim,hown,hoks⟩:=hrel
  by_cases hlt:k<l.length
  ·as_aux_lemma=>
   obtain⟨b,o,rfl,hb,hc⟩:=(vS.out.below hbel).elem (f:=ax.cells) (n:=7) ax.len (by omega) hlt;have hx:=HA.out l[k] (by simp);have hlk:l[k]? =some l[k]:=List.getElem?_eq_getElem hlt;generalize l[k]=x at *;obtain⟨op,kind,A2,c2,args,vk,vb,pos,a⟩:=x;have hc0:wr.cell? ⟨b,o+k*7,none⟩=some (.int .i64 op):=hc 0 _ rfl;have hc1:wr.cell? ⟨b,o+k*7+1,none⟩=some (.int .i64 kind):=hc 1 _ rfl;have hc2:wr.cell? ⟨b,o+k*7+2,none⟩=some (.slice A2 args.length c2):=hc 2 _ rfl;have hc3:wr.cell? ⟨b,o+k*7+3,none⟩=some (.int .i64 vk):=hc 3 _ rfl;have hc4:wr.cell? ⟨b,o+k*7+4,none⟩=some (.int .u64 vb):=hc 4 _ rfl;have hc5:wr.cell? ⟨b,o+k*7+5,none⟩=some (.int .i64 pos):=hc 5 _ rfl;have hc6:wr.cell? ⟨b,o+k*7+6,none⟩=some (.int .i64 a):=hc 6 _ rfl;clear hc
   obtain⟨d',rfl⟩:∃d',d=d'+1:=by
    cases d with
    |zero=>exact hx.elim
    |succ d'=>exact⟨d',rfl⟩
   have UC:Below w.heap.size w (wr.alloc (.cells #[.int .i64 op,.int .i64 kind,.slice A2 args.length c2,.int .i64 vk,.int .u64 vb,.int .i64 pos,.int .i64 a] 76)):=hbel.alloc hbel.size _;have hx2:=yB.old hx UC;have hrec:=HI.out d' rfl args A2 c2 (wr.alloc (.cells #[.int .i64 op,.int .i64 kind,.slice A2 args.length c2,.int .i64 vk,.int .u64 vb,.int .i64 pos,.int .i64 a] 76)) hx2.2.2.2 hx2.1 hx2.2.1;have hvb:=hx.2.2.1;have hal:=hx.2.1;have l7:=zH hrec;have X0:=zH hlk;have hz:=hbel.size;clear hrec hx hx2 hlk HI;go_wp2_with fail
   refine l7.out.mono ?_;rintro e w1 ⟨A3,c3,l3,rfl,hl3,UD,hown3,zx,hb1⟩;have hsz:(wr.alloc (.cells #[.int .i64 op,.int .i64 kind,.slice A2 args.length c2,.int .i64 vk,.int .u64 vb,.int .i64 pos,.int .i64 a] 76)).heap.size=wr.heap.size+1:=by simp
   rw[hsz]at hown3 zx hb1;have kx:Bk w1 wr.heap.size 76 #[.int .i64 op,.int .i64 kind,.slice A2 args.length c2,.int .i64 vk,.int .u64 vb,.int .i64 pos,.int .i64 a]:=(Bk.new wr 76 #[.int .i64 op,.int .i64 kind,.slice A2 args.length c2,.int .i64 vk,.int .u64 vb,.int .i64 pos,.int .i64 a]).below hb1 (by omega);have UE:=hown.alloc (.cells #[.int .i64 op,.int .i64 kind,.slice A2 args.length c2,.int .i64 vk,.int .u64 vb,.int .i64 pos,.int .i64 a] 76);have hown1:w1.ownsRow w.heap.size 76 7 (.slice Av k cv) k (l'.flatMap ax.cells):=own_below UE hb1 (fun q hq=>by have:=(hown.lt q hq).2;omega);have UF:Below w.heap.size w w1:=UC.trans (hb1.mono (by omega));have hz1:=kx.lt;clear l7 hc0 hc1 hc2 hc3 hc4 hc5 hc6;obtain⟨x0,x1,x2,x3,x4,x5,x6⟩:=zc7 kx;have f2:=kx.frozen 2;have ky:Bk (w1.setCell ⟨wr.heap.size,2,none⟩ (.slice A3 args.length c3)) wr.heap.size 76 #[.int .i64 op,.int .i64 kind,.slice A3 args.length c3,.int .i64 vk,.int .u64 vb,.int .i64 pos,.int .i64 a]:=kx.put 2 _;obtain⟨y0,y1,y2,y3,y4,y5,y6⟩:=zc7 ky;simp at x0 x1 x2 x3 x4 x5 x6 y0 y1 y2 y3 y4 y5 y6;have hne:some wr.heap.size≠(Value.slice Av k cv).ownBlock:=fun e=>by have:=(hown.lt _ e.symm).2;omega
   have hown2:(w1.setCell ⟨wr.heap.size,2,none⟩ (.slice A3 args.length c3)).ownsRow w.heap.size 76 7 (.slice Av k cv) k (l'.flatMap ax.cells):=ownsRow_setCell_other hown1 (fun e=>hne e.symm) _;have uu:Below w.heap.size w (w1.setCell ⟨wr.heap.size,2,none⟩ (.slice A3 args.length c3)):=UF.setCell hz _
   go_wp2_with (first
    |(refine zF (by rfl) (.tmp 17) (by rfl) (by rfl) ?_)
    |(at_builtin;refine az rfl _ _ 29 rfl w.heap.size 76 iN _ 7 72 Try.underlying29 hN hN0 hN1 VW rfl (by decide) (.slice Av k cv) k _ rfl (hown2.alloc _) ((w1.setCell ⟨wr.heap.size,2,none⟩ (.slice A3 args.length c3)).heap.size+1) (some ⟨(w1.setCell ⟨wr.heap.size,2,none⟩ (.slice A3 args.length c3)).heap.size,0,none⟩) 1 1 (ax.mk op kind A3 c3 l3 vk vb pos a).cells rfl ?c1 rfl ?c2 ?c3 ?c4 ?c5 ?_))
   case c1=>
    show Rd _ _ _ [Value.int .i64 op,.int .i64 kind,.slice A3 l3.length c3,.int .i64 vk,.int .u64 vb,.int .i64 pos,.int .i64 a]
    rw[hl3];exact Rd.lit rfl _ _
   case c2=>intro u hu;simp[ax.cells]at hu;rcases hu with rfl|rfl|rfl|rfl|rfl|rfl|rfl<;>rfl
   case c3=>unfold maxLen;omega
   case c4=>omega
   case c5=>simp;omega
   intro A9 c9 w9 bD hg PM;have hs2:((w1.setCell ⟨wr.heap.size,2,none⟩ (.slice A3 args.length c3)).alloc (.cells #[.int .i64 op,.int .i64 kind,.slice A3 args.length c3,.int .i64 vk,.int .u64 vb,.int .i64 pos,.int .i64 a] 76)).heap.size=w1.heap.size+1:=by simp
   have hkeep:∀b:Nat,b<w1.heap.size->b≠wr.heap.size->some b≠(Value.slice Av k cv).ownBlock->b<w9.heap.size/\w9.heap[b]? =w1.heap[b]? :=by
    intro b h1 h2 h3;refine⟨by have:=hg.size;omega,?_⟩;rw[hg.block b (by omega) h3,Below.heap_alloc _ _ b (by simpa using h1),Below.heap_setCell w1 _ _ b h2]
   have hnew:∀b:Nat,b<w1.heap.size->some b≠(Value.slice Av k cv).ownBlock->some b≠(Value.slice A9 (k+1) c9).ownBlock:=by
    intro b h1 h2;rcases PM with h|h
    ·rw[h];exact h2
    ·rw[h];intro he;injection he with he;omega
   have hhi:∀b:Nat,wr.heap.size+1<=b->some b≠(Value.slice Av k cv).ownBlock:=fun b h1 e=>by have:=(hown.lt _ e.symm).2;omega
   have hyok:okS (fun b=>w.heap.size<=b/\some b≠(Value.slice A9 (k+1) c9).ownBlock) (d'+1) (.mk op kind A3 c3 l3 vk vb pos a) w9:=by
    refine⟨(Dz hown3).keep fun b h1 h2=>?_,by omega,hvb,fun y hy=>okS.keep (fun b h1 h2=>?_) (zx y hy)⟩
    ·obtain⟨k1,k2⟩:=hkeep b h2 (by omega) (hhi b h1);exact⟨⟨by omega,hnew b h2 (hhi b h1)⟩,k1,k2⟩
    ·obtain⟨k1,k2⟩:=hkeep b h2 (by omega) (hhi b h1.1);exact⟨⟨by omega,hnew b h2 (hhi b h1.1)⟩,k1,k2⟩
   have UG:∀y∈l'++[ax.mk op kind A3 c3 l3 vk vb pos a],okS (fun b=>w.heap.size<=b/\some b≠(Value.slice A9 (k+1) c9).ownBlock) (d'+1) y w9:=by
    intro y hy;rcases List.mem_append.1 hy with hy|hy
    ·refine okS.keep (fun b h1 h2=>?_) (hoks.out y hy);obtain⟨k1,k2⟩:=hkeep b (by omega) (by omega) h1.2;exact⟨⟨h1.1,hnew b (by omega) h1.2⟩,k1,by rw[k2,hb1.block b (by omega),Below.heap_alloc _ _ b h2]⟩
    ·simp only[List.mem_cons,List.not_mem_nil,or_false]at hy;subst hy;exact hyok
   have UH:∀(i:Nat) (x y:ax),l[i]? =some x->(l'++[ax.mk op kind A3 c3 l3 vk vb pos a])[i]? =some y->OC (d'+1) x y:=by
    intro i x y hx hy
    by_cases hi:i<l'.length
    ·rw[List.getElem?_append_left hi]at hy;exact hsim.out i x y hx hy
    ·rw[List.getElem?_append_right (by omega)]at hy
     by_cases hi0:i-l'.length=0
     ·rw[hi0]at hy;have hik:i=k:=by omega
      rw[hik,X0.out]at hx;injection hx with hx
      simp only[List.getElem?_cons_zero,Option.some.injEq]at hy;subst hx;subst hy;exact⟨rfl,rfl,rfl,rfl,rfl,rfl,hl3.symm,UD⟩
     ·rw[List.getElem?_eq_none (by simp;omega)]at hy;cases hy
   have zAg:Below w.heap.size w w9:=gU (uu.alloc (by simp;omega) _) (hown2.alloc _) zL hg (by simp;omega)
   have Xn:w9.ownsRow w.heap.size 76 7 (.slice A9 (k+1) c9) (k+1) ((l'++[ax.mk op kind A3 c3 l3 vk vb pos a]).flatMap ax.cells):=by
    rw[List.flatMap_append]
    simpa using bD
   have HS:=zH UH;have HO:=zH UG;have zAh:(l'++[ax.mk op kind A3 c3 l3 vk vb pos a]).length=k+1:=by simp;omega
   clear UH UG hyok hhi hnew hkeep PM hg bD hown2 hown1 UE hown zx UD hown3 x0 x1 x2 x3 x4 x5 x6 y0 y1 y2 y3 y4 y5 y6 f2 kx ky uu UF hb1 hsz hs2;generalize(l'++[ax.mk op kind A3 c3 l3 vk vb pos a])=l9 at *;go_wp2
   go_roundw
   case rel=>exact⟨k+1,A9,c9,l9,by omega,by go_num,rfl,zAg,zAh,HS,Xn,HO⟩
   case measure=>simp[intOf];omega
  ·as_aux_lemma=>
   obtain rfl:k=l.length:=by omega
   go_wp2_with fail
   go_ret
   exact⟨Av,cv,l',rfl,hl',hsim.out,hown,hoks.out,hbel⟩
theorem CU:∀(d:Nat) (l:List ax) (A:Option Addr) (c:Nat) (w:World),(∀x∈l,yB d x w w.heap.size)->Rd w w.heap.size A (l.flatMap ax.cells)->l.length<=1048576->Calls Try.prog 18 #[.slice A l.length c] w (Iq d l w)
 |0=>Af 0 (fun d' h=>by omega)
 |d+1=>Af (d+1) (fun d' h=>by
  obtain rfl:d'=d:=by omega
  exact CU d')
end Go.Proofs.Ytbjnhllkdilpfaa
