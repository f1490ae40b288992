/- Part 25 of the proof. No conditions. -/
import Derived.Test.YtbjnhllkdilpfaaGreatZf24
set_option linter.unusedVariables false
set_option linter.unusedSimpArgs false
set_option maxRecDepth 100000
set_option maxHeartbeats 8000000
namespace Go.Proofs.YtbjnhllkdilpfaaGreat
open Go.RowKit _root_.Go.Proofs.Tryz
def Hy (d:Nat) (S:Nat->Prop) (n:ah) (cs:List Value) (w:World):Prop:=cs=n.cells/\okS S d n w
theorem ah.one (n:ah):n.cells.all Value.oneCell'=true:=by obtain⟨op,kind,A,c,b,vk,vb,pos,a⟩:=n;rfl
instance (d:Nat):CK 7 (Hy d) where
 pos:=by decide
 keep:=λhk h=>⟨h.1,h.2.keep hk⟩
 len:=λh=>by rw[h.1];exact ah.len _
 one:=λh=>by rw[h.1];exact ah.one _
def Sk (S:Nat->Prop) (B:Nat) (u:Value) (q:Nat):Prop:=S q/\q<B\/B<=q/\some q≠u.ownBlock
theorem Bd.kept2 {α β:Type} {n l base B t g:Nat} {P:(Nat->Prop)->α->List Value->World->Prop} {A:(Nat->Prop)->β->List Value->World->Prop} [CK n P] {S S2:Nat->Prop} {xs:List α} {m:List β} {v u f:Value} {w w':World}
  (h:Bd (Sk S B u) base t n P xs v w) (j:Bd S2 B g l A m u w) (a:t≠g) (c:w.grownBy w' u.ownBlock) (q:f.ownBlock=u.ownBlock\/f.ownBlock=some w.heap.size):Bd (Sk S B f) base t n P xs v w':=by
 obtain⟨ps,o,z,x⟩:=h;have d:=λk e=>(j.lt (k:=k) e).1
 obtain⟨C,_,r,_⟩:=j;refine⟨ps,o,bU z r a c,λp y=>CK.keep (λb hb i=>?_) (x p y)⟩
 have s:some b≠u.ownBlock:=by
  rcases hb.1 with h|h
  ·intro e;have:=d b e.symm;omega
  exact h.2
 refine⟨⟨?_,hb.2⟩,zFs i c.size,c.block b i s⟩;rcases hb.1 with h|h
 ·exact .inl h
 refine .inr ⟨h.1,?_⟩;rcases q with e|e
 ·rw[e];exact h.2
 rw[e];intro e;injection e;omega
def FoW (d:Nat) (S:Nat->Prop) (w:World) (e:Ending) (w':World):Prop:=∃n:ah,e=.returned (.agg n.cells.toArray)/\okS (λq=>S q\/w.heap.size<=q) d n w'/\Below w w w'
theorem Xy {w:World} {g:Nat} {t:TypeId} {b e a d i c f:Value} (h:Bk w g t #[b,e,a,d,i,c,f]):w.cell? ⟨g,0,none⟩=some b/\w.cell? ⟨g,1,none⟩=some e/\w.cell? ⟨g,2,none⟩=some a/\w.cell? ⟨g,3,none⟩=some d/\w.cell? ⟨g,4,none⟩=some i/\w.cell? ⟨g,5,none⟩=some c/\w.cell? ⟨g,6,none⟩=some f:=⟨h.cell 0,h.cell 1,h.cell 2,h.cell 3,h.cell 4,h.cell 5,h.cell 6⟩
theorem nd0 {w:World} {g:Nat} {t:TypeId} {cs:List Value} (h:Bk w g t cs.toArray):∀(j:Nat) (u:Value),cs[j]? =some u->w.cell? ⟨g,0+j,none⟩=some u:=λj u a=>by rw[zFr,h.cell j];simpa using a
theorem zCv {d a b1:Nat} {S:Nat->Prop} {w2 f:World} {u v:Value} {n:ah} (i:∀k,u.ownBlock=some k->a<=k/\k<b1) (j:∀k,v.ownBlock=some k->a<=k/\k<b1) (l:a<=b1) (c:∀q,S q->q<a) (hb:Below w2 w2 f) (h:okS (λq=>S q\/b1<=q) d n w2):okS (λq=>Sk S a u q/\some q≠v.ownBlock) d n f:=
 h.keep λq g b=>⟨⟨by
  rcases g with h|h
  ·exact .inl ⟨h,c q h⟩
  ·exact .inr ⟨by omega,λe=>by have:=i q e.symm;omega⟩,λe=>by
  have:=j q e.symm;rcases g with h|h
  ·have:=c q h;omega
  omega⟩,zFs b hb.size,hb.block q b⟩
abbrev sC (kind:Int):Spec:=.st (λv _=>∃(k:Int) (b:Nat),v=.agg #[.int .i64 40,kind,"",k,.int .u64 b,(),()]/\b<18446744073709551616) λ_ _ _ _ h=>h
theorem at7c {w w':World} {g:Nat} {b e a d i c k:Value} (hb:Below w w w') (l:g<w.heap.size) (h:∀(j:Nat) (u:Value),[b,e,a,d,i,c,k][j]? =some u->w.cell? ⟨g,7+j,none⟩=some u):
  w'.cell? ⟨g,7,none⟩=some b/\w'.cell? ⟨g,8,none⟩=some e/\w'.cell? ⟨g,9,none⟩=some a/\w'.cell? ⟨g,10,none⟩=some d/\w'.cell? ⟨g,11,none⟩=some i/\w'.cell? ⟨g,12,none⟩=some c/\w'.cell? ⟨g,13,none⟩=some k:=
 have f:=λj u m=>(hb.cell (p:=⟨g,7+j,none⟩) l).trans (h j u m)
 ⟨f 0 _ rfl,f 1 _ rfl,f 2 _ rfl,f 3 _ rfl,f 4 _ rfl,f 5 _ rfl,f 6 _ rfl⟩
theorem Oe {d c b:Nat} {S:Nat->Prop} {e w2 i:World} {u:Value} {n:ah} {g t y:Nat} {cs:Array Value} (hb:Below e e w2) (l:∀q,S q->q<b) {k:Nat->Prop} (f:∀q,S q->k q) (o:b<c) (h:okS (λq=>Sk S c u q/\q≠y) d n e) (p:qC w2 g t cs i) (m:b<=g/\g<c):okS (λq=>k q\/b<=q) d n i:=
 h.keep λq j a=>⟨by
  rcases j.1 with h|h
  ·exact .inl (f q h.1)
  exact .inr (by omega),by rw[p.size];exact zFs a hb.size,(p.other q (by
  rcases j.1 with h|h
  ·have:=l q h.1;omega
  omega)).trans (hb.block q a)⟩
theorem zCw {d i j:Nat} {S:Nat->Prop} {u:Value} {ns:List ah} {A:Option Addr} {l c:Nat} {w:World} {op kind vk pos a:Int} {vb:Nat} (h:Bd (Sk (λq=>S q/\q<j) i u) i 122 7 (Hy d) ns (.slice A l c) w) (o:ns.length=l) (v:l<=1048576) (t:vb<18446744073709551616) (y:j<=i):okS (λq=>S q/\q<j\/i<=q) (d+1) (.mk op kind A c ns vk vb pos a) w:=by
 obtain⟨ps,rfl,n,k⟩:=h
 have r:∀f:List (ah×List Value),(∀p∈f,p.2=p.1.cells)->f.flatMap Prod.snd=(f.map Prod.fst).flatMap ah.cells:=λf m=>by
  induction f with
  |nil=>rfl
  |cons p f e=>rw[zGx,zGq,zGx,e λp g=>m p (by simp[g]),m p (by simp)]
 rw[r ps λp g=>(k p g).1,o]at n;refine⟨(gX n).keep λb hb e=>⟨.inr hb,e,rfl⟩,by rw[o];exact v,t,λx s=>?_⟩;obtain⟨p,g,rfl⟩:=zGa.1 s
 exact(k p g).2.keep λb hb e=>⟨by
  rcases hb.1 with h|h
  ·exact .inl h.1
  exact .inr h.1,e,rfl⟩
theorem RZ (d:Nat) (ih:∀(S:Nat->Prop) (n:ah) (w:World),okS S d n w->Calls prog 77 #[.agg n.cells.toArray] w (FoW d S w))
  (S:Nat->Prop) (op kind:Int) (A:Option Addr) (c:Nat) (r:List ah) (vk:Int) (vb:Nat) (pos a:Int) (w:World) (h:okS S (d+1) (.mk op kind A c r vk vb pos a) w):
  Calls prog 77 #[.agg #[op,kind,.slice A r.length c,vk,.int .u64 vb,pos,a]] w (FoW (d+1) S w):=by
 have HI:=zH ih;have h:=h.keep (S':=λq=>S q/\q<w.heap.size) λb hb D=>⟨⟨hb,D⟩,D,rfl⟩
 have k1:=(Bk.new w 122 #[op,kind,.slice A r.length c,vk,.int .u64 vb,pos,a]).alloc (.cells #[(),(),"",(),.int .u64 0,(),()] 122);have f:=Bk.newAt (w:=w.alloc (.cells #[op,kind,.slice A r.length c,vk,.int .u64 vb,pos,a] 122)) (g:=w.heap.size+1) (by simp) 122 #[(),(),"",(),.int .u64 0,(),()];have e:=bel2 w (.cells #[op,kind,.slice A r.length c,vk,.int .u64 vb,pos,a] 122) (.cells #[(),(),"",(),.int .u64 0,(),()] 122);clear ih
 go_enter func77,ntmps77
 go_upto_region 1 with fail
 generalize(w.alloc (.cells #[op,kind,.slice A r.length c,vk,.int .u64 vb,pos,a] 122)).alloc (.cells #[(),(),"",(),.int .u64 0,(),()] 122)=w0 at *;have H:=zH (h.keep (dB.old e));have HK:=zH (zA k1 (zA f e));have Tm:=f.lt;have x2:=k1.cell 2;clear h k1 f e;obtain⟨l,e⟩:=zN r.length
 have HL:=zH e;rw[e]at HK x2⊢;clear e
 by_cases ak:l=0
 ·subst ak;go_wp2_with (first|(refine aj dR rfl _ rfl rfl [.int .i64 op,.int .i64 kind,.slice A 0 c,.int .i64 vk,.int .u64 vb,.int .i64 pos,.int .i64 a] rfl (nd0 HK.1) ?_)|(refine ae (aY dR.1) rfl _ _ rfl rfl [.int .i64 op,.int .i64 kind,.slice A 0 c,.int .i64 vk,.int .u64 vb,.int .i64 pos,.int .i64 a] rfl HK.2.1 rfl rfl rfl ?_;intro V p))
  obtain⟨d0,d1,d2,d3,d4,d5,d6⟩:=Xy p.bk;refine zFg (v:=.agg #[op,kind,.slice A 0 c,vk,.int .u64 vb,pos,a]) (by simp[results,results77,go_sem,d0,d1,d2,d3,d4,d5,d6]) rfl ⟨.mk op kind A c r vk vb pos a,?_,?_,p.below _ _ HK.2.2 (by omega)⟩
  ·simp[ah.cells,HL.out]
  exact(H.keep (dB.fE p λb hb=>by omega)).keep λb hb D=>⟨.inl hb.1,D,rfl⟩
 have an:l<=1048576:=by rw[<-HL.out];exact H.2.1
 have a7:w.heap.size<w0.heap.size:=by omega
 go_wp2_with fail
 go_loopw[3,4,16] (λf e i wr=>∃(k:Nat) (ns:List ah) (vs:List (Int×Nat)),k<=l/\i=.int .i64 k/\Hid (ns.length=k/\vs.length<=k/\Below w0 w0 wr/\Bd (Sk (λq=>S q/\q<w.heap.size) w0.heap.size e) w0.heap.size 122 7 (Hy d) ns f wr/\Bd (λ_=>False) w0.heap.size 160 2 VaP vs e wr)) (λ_ _ i _=>l-(intOf i).toNat)
 case atStart=>exact⟨0,[],[],zFj _,rfl,zH ⟨rfl,zFv _,zGp _ _,Bd.nil zL,Bd.nil zL⟩⟩
 case round=>
  obtain⟨k,ns,vs,hk,rfl,t⟩:=hrel;obtain⟨wo,rfl⟩:∃z:World,z=wr:=⟨_,rfl⟩
  obtain⟨A3,c3,rfl,_⟩:=t.2.2.2.1.form;obtain⟨A4,c4,rfl,_⟩:=t.2.2.2.2.form;have e:=t.1;have E:=zH e;rw[e]at t⊢;obtain⟨m,f⟩:=zN vs.length
  rw[f]at t⊢;have HM:=zH f;clear e f;have ad:=t.2.2.1.size;have av:=(HK.1.old t.2.2.1).cell 2
  by_cases D:k<l
  ·
   have a8:k<r.length:=by rw[HL.out];exact D
   obtain⟨b,o,f,hS,hb,I⟩:∃b o,A=some ⟨b,o,none⟩/\(S b/\b<w.heap.size)/\b<w0.heap.size/\∀(j:Nat) (u:Value),r[k].cells[j]? =some u->wo.cell? ⟨b,o+k*7+j,none⟩=some u:=by
    rcases H.1 with h0|⟨b,o,h1,e,h3,h4⟩
    ·have:=jl (n:=7) ah.cells r λx _=>x.len
     rw[h0]at this;simp at this;omega
    exact⟨b,o,h1,e,h3,λj u K=>(t.2.2.1.cell (p:=⟨b,o+k*7+j,none⟩) h3).trans (by
     rw[zJb]
     exact h4 _ _ (by rw[jd (n:=7) ah.cells r (λx _=>x.len) k j a8 (by have:=(zFc.1 K).1;rwa [ah.len]at this)];exact K))⟩
   subst f;have e:=HI.out _ r[k] wo ((H.2.2.2 _ (zFe a8)).keep (dB.old t.2.2.1));have J:=zH e;obtain⟨cs,f⟩:=zN (r[k].cells)
   rw[f]at I J;have G:cs.length=7:=by rw[<-f];exact ah.len _
   clear f e hS;go_wp2_with (refine aj dR rfl _ rfl rfl cs G I ?_)
   refine J.mono ?_;rintro e w2 ⟨f,rfl,F,y⟩;obtain⟨AZ,s,A2,c2,FX,W,O,pJ,a2⟩:=f;obtain⟨l2,B⟩:=zN FX.length
   simp only[ah.cells,B];have LQ:=zH F;have ag:=zH B;have f:=zH y;have aw:=y.size;clear I J G F B y;go_upto_region 9 with(refine ae (aY dR.1) rfl _ _ rfl rfl [.int .i64 AZ,.int .i64 s,.slice A2 l2 c2,.int .i64 W,.int .u64 O,.int .i64 pJ,.int .i64 a2] rfl (Bk.new _ _ _) rfl rfl rfl ?_;intro W3 J;go_frame)
   have B:Below wo wo W3:=J.below _ _ (f.trans ((ba _ _).mono f.size)) f.size;have k3:=J.bk;have ar:W3.heap.size=w2.heap.size+1:=by rw[J.size];simp
   have F:Below w2 w2 W3:=J.below _ _ (ba _ _) zL;have af:=zH (zCv (λk hk=>t.2.2.2.2.lt hk) (λk hk=>t.2.2.2.1.lt hk) ad (λq (G:S q/\q<w.heap.size)=>by omega) F LQ.out);have L:=(t.2.2.2.1.old B).old (ba W3 (.cells #[AZ,s,.slice A2 l2 c2,W,.int .u64 O,pJ,a2] 122));have I:=(t.2.2.2.2.old B).old (ba W3 (.cells #[AZ,s,.slice A2 l2 c2,W,.int .u64 O,pJ,a2] 122))
   have am:Hid (some w2.heap.size≠(Value.slice A3 k c3).ownBlock):=zH λe=>by
    have:=(t.2.2.2.1.lt e.symm).2;omega
   have al:Hid (O<18446744073709551616):=zH (by
    have:=LQ.out;cases d with
    |zero=>exact this.elim
    |succ d=>exact this.2.2.1)
   have Rh:=zH (t.2.2.1.trans (B.mono ad));clear J B F;go_upto_region 10 with(first|(refine aj dR rfl _ rfl rfl [.int .i64 AZ,.int .i64 s,.slice A2 l2 c2,.int .i64 W,.int .u64 O,.int .i64 pJ,.int .i64 a2] rfl (nd0 k3) ?_)|(refine dC dR rfl _ rfl [.int .i64 AZ,.int .i64 s,.slice A2 l2 c2,.int .i64 W,.int .u64 O,.int .i64 pJ,.int .i64 a2] rfl rfl ?_)|(at_builtin;refine bu dR rfl _ _ rfl rfl L rfl [.int .i64 AZ,.int .i64 s,.slice A2 l2 c2,.int .i64 W,.int .u64 O,.int .i64 pJ,.int .i64 a2] (Bk.new _ _ _) (.mk AZ s A2 c2 FX W O pJ a2) ⟨by simp[ah.cells,ag.out],af.keep (dB.old (ba _ _))⟩ (by rw[E.out];omega) (by simp;omega) ?_;intro A9 c9 w9 N P J Q))
   have F:=(k3.alloc (.cells #[AZ,s,.slice A2 l2 c2,W,.int .u64 O,pJ,a2] 122)).grown J am.out;have z9:=F.cell 0;have B:=I.VO L (by decide) J;have M:=P _ _ zL (by simp;omega) (Rh.alloc (by omega) (.cells #[AZ,s,.slice A2 l2 c2,W,.int .u64 O,pJ,a2] 122));rw[E.out]at N⊢;have HY:=zH (zA N (zA B (zA M F)));have ax:=M.size;clear L I N P Q B M k3 J F
   by_cases Xn:AZ=40
   ·subst Xn;have F:=HY.2.1.old (ba w9 (.cells #[W,.int .u64 O] 160))
    have L:∀(j:Nat) (u:Value),[Value.int .i64 W,.int .u64 O][j]? =some u->w9.cell? ⟨w2.heap.size,3+j,none⟩=some u:=λj u K=>by
     rw[HY.2.2.2.cell (3+j)]
     match j,K with
     |0,K=>exact K
     |1,K=>exact K
    go_wp2_with (first|(refine aV Qd VP rfl (.tmp 33) rfl rfl [.int .i64 W,.int .u64 O] rfl L ?_)|(refine dC rF rfl _ rfl [.int .i64 W,.int .u64 O] rfl rfl ?_)|(at_builtin;refine bu rF rfl _ _ rfl rfl F rfl [.int .i64 W,.int .u64 O] (Bk.new _ _ _) (W,O) ⟨rfl,al.out⟩ (by rw[HM.out];have:=t.2.1;omega) (by simp;omega) ?_;intro Q N P M J I B))
    rw[HM.out]at M B⊢;go_roundw
    case rel=>refine⟨_,_,_,_,_,⟨k+1,D,?_,_,_,zH ⟨by simp[E.out],by simp[HM.out];have:=t.2.1;omega,J _ _ zL (by simp;omega) (HY.2.2.1.alloc (by omega) _),(HY.1.old (ba _ _)).kept2 F (by decide) I B,M⟩⟩,rfl,rfl,rfl,rfl,rfl⟩;simp
    case measure=>simp[intOf];omega
   go_wp2_with fail
   go_roundw
   case rel=>refine⟨_,_,_,_,_,⟨k+1,D,?_,_,_,zH ⟨by simp[E.out],by rw[HM.out];have:=t.2.1;omega,HY.2.2.1,HY.1,HY.2.1⟩⟩,rfl,rfl,rfl,rfl,rfl⟩;simp
   case measure=>simp[intOf];omega
  have B:k=l:=by omega
  subst B;have x0:=(HK.1.old t.2.2.1).cell 0;have F:=zH (zA (HK.1.old t.2.2.1) (zA (HK.2.1.old t.2.2.1) (HK.2.2.trans (t.2.2.1.mono HK.2.2.size))));clear D hk;go_upto_region 13 with fail
  go_cut[52] (λv wx=>∃q:Bool,v=.bool q/\(q=true->m=k)/\wx=wo)
  case first=>
   by_cases B:m=k
   ·subst B
    by_cases h1:1<=op
    ·by_cases I:op<=17
     ·go_wp2_with fail
      go_meet
      exact⟨_,rfl,λ_=>by first|rfl|trivial,rfl⟩
     go_wp2_with fail
     go_meet
     exact⟨_,rfl,λ_=>by first|rfl|trivial,rfl⟩
    go_wp2_with fail
    go_meet
    exact⟨_,rfl,λ_=>by first|rfl|trivial,rfl⟩
   have aa:((m:Int)==(k:Int))=false:=zB (by omega)
   go_wp2_with fail
   go_meet
   exact⟨_,rfl,λh=>absurd h (by simp),rfl⟩
  case rest=>
  obtain⟨q,rfl,G,rfl⟩:=hcut;cases q
  rotate_left
  ·
   obtain rfl:=G rfl;have B:=λw' (I:Below wc wc w')=>zCt op (((t.2.2.2.2.old I).Kq (S:=λ_=>True) (λ_ _ _=>trivial) (λ_ h _=>h.elim) (by rw[HM.out];omega))) (by rw[HM.out];omega)
   have I:=zH B;have x1:=F.1.cell 1;clear B G;go_upto_region 14 with fail
   refine wx (λ_=>false) [.is (.pointer (some ⟨w.heap.size,1,none⟩)),.is (.int .i64 kind),.is (.pointer (some ⟨w.heap.size,0,none⟩)),.is (.int .i64 op),.is (.slice A4 m c4),sV,sC kind] [5,6] (by kernel_rfl) (by kernel_rfl) (by kernel_rfl)
    (λC=>.c (px C rfl (λ_ _=>rfl)) <| .c (px C rfl (λ_ h=>bH (lD (bc h x1)))) <| .c (px C rfl (λ_ _=>rfl)) <| .c (px C rfl (λ_ h=>bH (lD (bc h x0)))) <| .c (px C rfl (λ_ _=>rfl)) <| .c (pz [3,4] [] (by kernel_rfl) λqK qa wq hB qO Z hK=>?_) <| .c (pz [1,5] [] (by kernel_rfl) λqK qa wq hB qO Z hK=>?_) .nil) ?_
   ·have e7:=aA Z.1 rfl rfl;have B:=aA Z.2.1 rfl rfl;clear qO Z;go_simp
    go_at_call 96
    refine(I.out _ hB).mono ?_;rintro e w2 ⟨M,N,rfl,h3,h4⟩;exact hK _ _ h4 ⟨M,N,rfl,h3⟩
   ·have e7:=aA Z.1 rfl rfl;obtain⟨u,e8,M,N,rfl,h3⟩:=Z.2.1;have e8:qa.tmps[58]? =some (.agg #[M,.int .u64 N]):=e8;clear qO Z;go_simp;exact hK _ _ zR ⟨M,N,rfl,h3⟩
   intro qx wq hB hR hS;obtain⟨M,N,r6,a3⟩:=hR 6 rfl rfl;clear hR hS;simp only[bJ,List.length,List.take,List.drop,zFd]
   go_frame
   generalize qx 6=z6 at r6⊢;subst r6;have hr:=F.2.1.old hB;have Bz:=zH (zA a3 (F.2.2.trans (hB.mono F.2.2.size)));clear a3 hB x0 x1;go_wp2_with (refine ae (aY dR.1) rfl _ _ rfl rfl [.int .i64 40,.int .i64 kind,.slice none 0 0,.int .i64 M,.int .u64 N,.int .i64 0,.int .i64 0] rfl hr rfl rfl rfl ?_;intro V p)
   obtain⟨d0,d1,d2,d3,d4,d5,d6⟩:=Xy p.bk;exact zFg (v:=.agg #[.int .i64 40,kind,"",M,.int .u64 N,(),()]) (by simp[results,results77,go_sem,d0,d1,d2,d3,d4,d5,d6]) rfl ⟨.mk 40 kind none 0 [] M N 0 0,rfl,⟨.inl rfl,by decide,Bz.1,λx hx=>absurd hx (by simp)⟩,p.below _ _ Bz.2 (by omega)⟩
  clear G;go_upto_region 15 with fail
  go_cut[72] (λv wx=>∃q:Bool,v=.bool q/\(q=true->k=2)/\wx=wc)
  case first=>
   by_cases B:k=2
   ·subst B
    by_cases I:op=13
    ·subst I;go_wp2_with fail
     go_meet
     exact⟨_,rfl,λ_=>by first|rfl|trivial,rfl⟩
    by_cases J:op=14
    ·subst J;go_wp2_with fail
     go_meet
     exact⟨_,rfl,λ_=>by first|rfl|trivial,rfl⟩
    go_wp2_with fail
    go_meet
    exact⟨_,rfl,λ_=>by first|rfl|trivial,rfl⟩
   have aa:((k:Int)==2)=false:=zB (by omega)
   go_wp2_with fail
   go_meet
   exact⟨_,rfl,λh=>absurd h (by simp),rfl⟩
  case rest=>
  obtain⟨q,rfl,G,rfl⟩:=hcut;go_upto_if 72 with fail
  go_cut[] (λwx=>Hid (Below wc wc wx))
  case first=>
   cases q
   ·go_wp2_with fail
    go_meet
    exact zH zR
   obtain rfl:=G rfl;obtain⟨g,ao,rfl,ap,J,⟨rfl,R⟩,I⟩:=t.2.2.2.1.elem (k:=0) (by rw[E.out];decide);obtain⟨g',aq,B,_,_,⟨rfl,a0⟩,Y⟩:=t.2.2.2.1.elem (k:=1) (by rw[E.out];decide);injection B with B
   injection B with B
   subst B;have l1:1<ns.length:=by rw[E.out];decide
   obtain⟨n5,a1⟩:=zN (ns[0])
   obtain⟨Q,B⟩:=zN (ns[1])
   rw[a1]at R I;rw[B]at a0 Y;obtain⟨L,DC,A5,c5,KL,P,U,Oi,a5⟩:=n5;obtain⟨Xz,vM,A6,c6,KN,XA,XB,Eu,a6⟩:=Q;obtain⟨l5,X⟩:=zN KL.length
   obtain⟨l6,Q⟩:=zN KN.length
   simp only[ah.cells,X,zHm]at I;simp only[ah.cells,Q,zLd]at Y;have Oj:=zH (zA R I);have a4:=zH (zA a0 Y);have a9:=zH X;have ab:=zH Q;clear R I a0 Y a1 B X Q l1 G;go_upto_region 17 with fail
   go_cut[87] (λv wx=>∃q:Bool,v=.bool q/\Hid (Below wc wc wx))
   case first=>
    go_wp2_with (refine aj dR rfl _ rfl rfl [.int .i64 L,.int .i64 DC,.slice A5 l5 c5,.int .i64 P,.int .u64 U,.int .i64 Oi,.int .i64 a5] rfl (λj u K=>((zGp wc.heap.size wc).cell (p:=⟨g,0+j,none⟩) J).trans (Oj.2 j u K)) ?_)
    refine(isW _ _ _ _ _ _ _ _ _ _ _).mono ?_;rintro e w2 ⟨z,rfl,y⟩;cases z
    ·obtain⟨f0,Y,f2,f3,f4,f5,f6⟩:=at7c y J a4.2;go_wp2_with fail
     refine(isW _ _ _ _ _ _ _ _ _ _ _).mono ?_;rintro e w3 ⟨z,rfl,a0⟩;have B:=zH (y.trans (a0.mono y.size));clear y a0 f0 Y f2 f3 f4 f5 f6;go_wp2_with fail
     go_meet
     exact⟨_,rfl,B⟩
    have f:=zH y;clear y;go_wp2_with fail
    go_meet
    exact⟨_,rfl,f⟩
   case rest=>
   obtain⟨q,rfl,f⟩:=hcut;cases q
   ·go_wp2_with (refine aj dR rfl _ rfl rfl [.int .i64 L,.int .i64 DC,.slice A5 l5 c5,.int .i64 P,.int .u64 U,.int .i64 Oi,.int .i64 a5] rfl (λj u K=>(f.cell (p:=⟨g,0+j,none⟩) J).trans (Oj.2 j u K)) ?_)
    refine(isW _ _ _ _ _ _ _ _ _ _ _).mono ?_;rintro e w2 ⟨z,rfl,y⟩;have B:=zH (f.trans (y.mono f.size));clear y;cases z
    ·go_wp2_with (refine aj dR rfl _ rfl rfl [.int .i64 Xz,.int .i64 vM,.slice A6 l6 c6,.int .i64 XA,.int .u64 XB,.int .i64 Eu,.int .i64 a6] rfl (λj u K=>(B.cell (p:=⟨g,7+j,none⟩) J).trans (a4.2 j u K)) ?_)
     refine(isW _ _ _ _ _ _ _ _ _ _ _).mono ?_;rintro e w3 ⟨z,rfl,a0⟩;have Y:=zH (B.trans (a0.mono B.size));clear a0;cases z
     ·go_wp2_with fail
      go_meet
      exact Y
     have hr:=F.2.1.old Y.out;go_wp2_with (first|(refine aj dR rfl _ rfl rfl [.int .i64 L,.int .i64 DC,.slice A5 l5 c5,.int .i64 P,.int .u64 U,.int .i64 Oi,.int .i64 a5] rfl (λj u K=>(Y.cell (p:=⟨g,0+j,none⟩) J).trans (Oj.2 j u K)) ?_)|(refine ae (aY dR.1) rfl _ _ rfl rfl [.int .i64 L,.int .i64 DC,.slice A5 l5 c5,.int .i64 P,.int .u64 U,.int .i64 Oi,.int .i64 a5] rfl hr rfl rfl rfl ?_;intro V p))
     obtain⟨d0,d1,d2,d3,d4,d5,d6⟩:=Xy p.bk;exact zFg (v:=.agg #[L,DC,.slice A5 l5 c5,P,.int .u64 U,Oi,a5]) (by simp[results,results77,go_sem,d0,d1,d2,d3,d4,d5,d6]) rfl ⟨.mk L DC A5 c5 KL P U Oi a5,by simp[ah.cells,a9.out],(Oe Y.out (λq G=>by omega) (λq G=>G.1) a7 Oj.1 p (by omega)).up,p.below _ _ (F.2.2.trans (Y.mono F.2.2.size)) (by omega)⟩
    have hr:=F.2.1.old B.out;go_wp2_with (first|(refine aj dR rfl _ rfl rfl [.int .i64 Xz,.int .i64 vM,.slice A6 l6 c6,.int .i64 XA,.int .u64 XB,.int .i64 Eu,.int .i64 a6] rfl (λj u K=>(B.cell (p:=⟨g,7+j,none⟩) J).trans (a4.2 j u K)) ?_)|(refine ae (aY dR.1) rfl _ _ rfl rfl [.int .i64 Xz,.int .i64 vM,.slice A6 l6 c6,.int .i64 XA,.int .u64 XB,.int .i64 Eu,.int .i64 a6] rfl hr rfl rfl rfl ?_;intro V p))
    obtain⟨d0,d1,d2,d3,d4,d5,d6⟩:=Xy p.bk;exact zFg (v:=.agg #[Xz,vM,.slice A6 l6 c6,XA,.int .u64 XB,Eu,a6]) (by simp[results,results77,go_sem,d0,d1,d2,d3,d4,d5,d6]) rfl ⟨.mk Xz vM A6 c6 KN XA XB Eu a6,by simp[ah.cells,ab.out],(Oe B.out (λq G=>by omega) (λq G=>G.1) a7 a4.1 p (by omega)).up,p.below _ _ (F.2.2.trans (B.mono F.2.2.size)) (by omega)⟩
   have x1:=(F.1.old f.out).cell 1;go_upto_region 18 with fail
   refine wx (λ_=>false) [.is (.pointer (some ⟨w.heap.size,1,none⟩)),.is (.int .i64 kind),.is (.bool (op==14)),sV,sC kind] [3,4] (by kernel_rfl) (by kernel_rfl) (by kernel_rfl)
    (λC=>.c (px C rfl (λ_ _=>rfl)) <| .c (px C rfl (λ_ h=>bH (lD (bc h x1)))) <| .c (px C rfl (λ_ _=>rfl)) <| .c (pz [2] [] (by kernel_rfl) λqK qa wq hB qO Z hK=>?_) <| .c (pz [1,3] [] (by kernel_rfl) λqK qa wq hB qO Z hK=>?_) .nil) ?_
   ·have e7:=aA Z.1 rfl rfl;clear qO Z;go_simp
    go_at_call 78
    refine(Hu _ _).mono ?_;rintro e w2 ⟨M,N,rfl,h3,h4⟩;exact hK _ _ h4 ⟨M,N,rfl,h3⟩
   ·have e7:=aA Z.1 rfl rfl;obtain⟨u,e8,M,N,rfl,h3⟩:=Z.2.1;have e8:qa.tmps[91]? =some (.agg #[M,.int .u64 N]):=e8;clear qO Z;go_simp;exact hK _ _ zR ⟨M,N,rfl,h3⟩
   intro qx wq hB hR hS;obtain⟨M,N,r6,a3⟩:=hR 4 rfl rfl;clear hR hS;simp only[bJ,List.length,List.take,List.drop,zFd]
   go_frame
   generalize qx 4=z6 at r6⊢;subst r6;have Z:=zH (f.trans (hB.mono f.size));have hr:=F.2.1.old Z.out;have Bz:=zH (zA a3 (F.2.2.trans (Z.mono F.2.2.size)));clear a3 hB x0 x1;go_wp2_with ((refine ae (aY dR.1) rfl _ _ rfl rfl [.int .i64 40,.int .i64 kind,.slice none 0 0,.int .i64 M,.int .u64 N,.int .i64 0,.int .i64 0] rfl hr rfl rfl rfl ?_;intro V p))
   obtain⟨d0,d1,d2,d3,d4,d5,d6⟩:=Xy p.bk;exact zFg (v:=.agg #[.int .i64 40,kind,"",M,.int .u64 N,(),()]) (by simp[results,results77,go_sem,d0,d1,d2,d3,d4,d5,d6]) rfl ⟨.mk 40 kind none 0 [] M N 0 0,rfl,⟨.inl rfl,by decide,Bz.1,λx hx=>absurd hx (by simp)⟩,p.below _ _ Bz.2 (by omega)⟩
  case rest=>
  have f:=zH hcut.out;have x0:=(F.1.old f.out).cell 0;obtain⟨g,ao,rfl,ap,J,⟨rfl,R⟩,I⟩:=t.2.2.2.1.elem (k:=0) (by rw[E.out];omega);have l1:0<ns.length:=by rw[E.out];omega
  obtain⟨n5,a1⟩:=zN (ns[0])
  rw[a1]at R I;obtain⟨L,DC,A5,c5,KL,P,U,Oi,a5⟩:=n5;obtain⟨l5,X⟩:=zN KL.length
  simp only[ah.cells,X,zHm]at I;have K:=zH (R.keep (dB.old f.out));have f0:=(f.cell (p:=⟨g,0,none⟩) J).trans (I 0 _ rfl);have f2:=(f.cell (p:=⟨g,2,none⟩) J).trans (I 2 _ rfl);have a9:=zH X;clear R I a1 X l1 G;obtain⟨wk,z⟩:=zN wc
  go_upto_region 23 with fail
  go_cut[133] (λv wx=>∃q:Bool,v=.bool q/\(q=true->l5=1)/\wx=wk)
  case first=>
   subst z
   by_cases M:op=15
   rotate_left
   ·go_wp2_with fail
    go_meet
    exact⟨_,rfl,λh=>absurd h (by simp),rfl⟩
   subst M
   by_cases h1:k=1
   rotate_left
   ·have aa:((k:Int)==1)=false:=zB (by omega)
    go_wp2_with fail
    go_meet
    exact⟨_,rfl,λh=>absurd h (by simp),rfl⟩
   subst h1
   by_cases M:L=15
   rotate_left
   ·go_wp2_with fail
    go_meet
    exact⟨_,rfl,λh=>absurd h (by simp),rfl⟩
   subst M
   by_cases h1:l5=1
   rotate_left
   ·have aa:((l5:Int)==1)=false:=zB (by omega)
    go_wp2_with fail
    go_meet
    exact⟨_,rfl,λh=>absurd h (by simp),rfl⟩
   subst h1;go_wp2_with fail
   go_meet
   exact⟨_,rfl,λ_=>by first|rfl|trivial,rfl⟩
  case rest=>
  obtain⟨q,rfl,G,M⟩:=hcut;subst z;subst M;cases q
  rotate_left
  ·obtain rfl:=G rfl;have hr:=F.2.1.old f.out;cases d with
   |zero=>exact K.elim
   |succ d=>
   obtain⟨x,rfl⟩:∃x,KL=[x]:=zKe.1 a9.out;have hx:=K.2.2.2 x (by simp);rcases K.1 with h0|⟨b5,o5,rfl,a3,a0,z⟩
   ·have:=x.len;simp at h0;rw[h0]at this;cases this
   obtain⟨Xz,vM,A6,c6,KN,XA,XB,Eu,a6⟩:=x;obtain⟨l6,Q⟩:=zN KN.length
   simp only[zGx,List.flatMap_nil,zHb,ah.cells,Q]at z;have M:=zH z;have Z:=zH hx;have ab:=zH Q;clear hx z Q G f0;go_wp2_with (first|(refine aj dR rfl _ rfl rfl [.int .i64 Xz,.int .i64 vM,.slice A6 l6 c6,.int .i64 XA,.int .u64 XB,.int .i64 Eu,.int .i64 a6] rfl M.out ?_)|(refine ae (aY dR.1) rfl _ _ rfl rfl [.int .i64 Xz,.int .i64 vM,.slice A6 l6 c6,.int .i64 XA,.int .u64 XB,.int .i64 Eu,.int .i64 a6] rfl hr rfl rfl rfl ?_;intro V p))
   obtain⟨d0,d1,d2,d3,d4,d5,d6⟩:=Xy p.bk;exact zFg (v:=.agg #[Xz,vM,.slice A6 l6 c6,XA,.int .u64 XB,Eu,a6]) (by simp[results,results77,go_sem,d0,d1,d2,d3,d4,d5,d6]) rfl ⟨.mk Xz vM A6 c6 KN XA XB Eu a6,by simp[ah.cells,ab.out],(Oe zR (λq G=>by omega) (λq G=>G.1) a7 Z.out p (by omega)).up.up,p.below _ _ (F.2.2.trans (f.mono F.2.2.size)) (by omega)⟩
  clear G f0 f2;have ZG:=zH (zCw (op:=op) (kind:=kind) (vk:=vk) (vb:=vb) (pos:=pos) (a:=a) t.2.2.2.1 E.out an H.2.2.1 (zG5 a7));have z:=ZG.keep (dB.old f.out);have k1:=F.1.old f.out;have B:=zH (F.2.2.trans (f.mono F.2.2.size));have g2:=k1.frozen 2;have x2:=k1.cell 2;have k3:=k1.put 2 (.slice (some ⟨g,0,none⟩) k c3);have hr:=(F.2.1.old f.out).far (p:=⟨w.heap.size,2,none⟩) (by show w.heap.size+1≠w.heap.size;omega) (.slice (some ⟨g,0,none⟩) k c3);have N:=zH (z.keep (dB.set (p:=⟨w.heap.size,2,none⟩) (v:=.slice (some ⟨g,0,none⟩) k c3) λb hb=>⟨hb,by show b≠w.heap.size;omega⟩));have Y:=zH (B.setCell (p:=⟨w.heap.size,2,none⟩) zL (.slice (some ⟨g,0,none⟩) k c3));clear z;go_wp2_with (first|(refine aj dR rfl _ rfl rfl [.int .i64 op,.int .i64 kind,.slice (some ⟨g,0,none⟩) k c3,.int .i64 vk,.int .u64 vb,.int .i64 pos,.int .i64 a] rfl (nd0 k3) ?_)|(refine ae (aY dR.1) rfl _ _ rfl rfl [.int .i64 op,.int .i64 kind,.slice (some ⟨g,0,none⟩) k c3,.int .i64 vk,.int .u64 vb,.int .i64 pos,.int .i64 a] rfl hr rfl rfl rfl ?_;intro V p))
  obtain⟨d0,d1,d2,d3,d4,d5,d6⟩:=Xy p.bk;refine zFg (v:=.agg #[op,kind,.slice (some ⟨g,0,none⟩) k c3,vk,.int .u64 vb,pos,a]) (by simp[results,results77,go_sem,d0,d1,d2,d3,d4,d5,d6]) rfl ⟨.mk op kind (some ⟨g,0,none⟩) c3 ns vk vb pos a,by simp[ah.cells,E.out],?_,p.below _ _ Y.out (by omega)⟩
  exact(N.keep (dB.fE p λb hb=>by omega)).keep λb hb D=>⟨by
   rcases hb with h|h
   ·exact .inl h.1
   exact .inr (by omega),D,rfl⟩
theorem zAc:∀(d:Nat) (S:Nat->Prop) (n:ah) (w:World),okS S d n w->Calls prog 77 #[.agg n.cells.toArray] w (FoW d S w)
 |0,_,_,_,h=>h.elim
 |d+1,S,.mk op kind A c b vk vb pos a,w,h=>RZ d (zAc d) S op kind A c b vk vb pos a w h
end Go.Proofs.YtbjnhllkdilpfaaGreat
