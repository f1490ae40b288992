/- Part 27 of the proof. No conditions. -/
import Derived.Test.YtbjnhllkdilpfaaGreatZf23
import Derived.Test.YtbjnhllkdilpfaaGreatZf26
set_option linter.unusedVariables false
set_option linter.unusedSimpArgs false
set_option maxRecDepth 100000
set_option maxHeartbeats 16000000
namespace Go.Proofs.YtbjnhllkdilpfaaGreat
open Go.RowKit _root_.Go.Proofs.Tryz
def Xf (s:ai) (items:List dh) (op n sc:Nat) (nm a:Str) (K:Int) (asked:Str) (ts:List T):T:=
 if op<20 then .mk op K ts 0 0 0 0
 else if op=21 then .mk 40 K [] K (AQ n sc).1 0 0
 else if op=23 then .mk 40 K [] K (fP nm 0 (s.syms.map (·.toList))).toNat 0 0
 else if op<24 then .mk 40 K [] K n 0 0
 else if op=25 then .mk op K ts 0 0 (ed nm items).1.pos 0
 else if op=24 then
  if nm=asked then .mk 41 K ts 0 0 0 (if a≠iY then dA s (ed nm items).1.kind a else -1)
  else .mk 42 K ts 0 0 (ed nm items).1.pos (if a≠iY then dA s (ed nm items).1.kind a else -1)
 else .mk op K ts 0 0 (ed nm items).1.pos (if a≠iY then dA s (ed nm items).1.kind a else -1)
def Pz (s:ai) (m:MS) (asked:Str):az->T
 |.leaf op n sc nm a p=>Xf s m.items op n sc nm a (eH s (.leaf op n sc nm a p) m).1 asked []
 |.un op x p=>Xf s m.items op 0 0 [] [] (eH s (.un op x p) m).1 asked [Pz s m asked x]
 |.bin op x y p=>Xf s m.items op 0 0 [] [] (eH s (.bin op x y p) m).1 asked [Pz s m asked x,Pz s m asked y]
def xR (d:Nat) (t:T) (W:World) (r:Ending) (W':World):Prop:=∃cs:List Value,r=.returned (.agg cs.toArray)/\eG (λq=>W.heap.size<=q) d t cs W'/\Below W W W'
structure zEn (b:Nat) (AS:ByteArray) (w:World) (A:Option Addr) (j d:Nat) (t:T):Prop where
 ex:∃(g:Nat) (d0 d1 d2 d3 d4 d5 d6:Value),A=some ⟨g,0,none⟩/\g<w.heap.size/\(∀(q:Nat) (u:Value),[d0,d1,d2,d3,d4,d5,d6][q]? =some u->w.cell? ⟨g,j*7+q,none⟩=some u)/\
  ∀W:World,Below w w W->Calls prog 76 #[.pointer (some ⟨b,0,none⟩),.agg #[d0,d1,d2,d3,d4,d5,d6],AS] W (xR d t W)
structure Xg (bx gr gx B1 d:Nat) (cx:Array Value) (w:World) (op K:Int) (A:Option Addr) (n c:Nat) (vs:List ah) (W:World):Prop where
 kx:Bk W bx 110 cx
 kr:Bk W gr 122 #[(),(),"",(),.int .u64 0,(),()]
 kn:Bk W gx 122 #[op,K,.slice A n c,(),.int .u64 0,(),()]
 own:W.ownsRow B1 122 7 (.slice A n c) n (vs.flatMap ah.cells)
 oks:∀y∈vs,okS (λq=>B1<=q/\some q≠(Value.slice A n c).ownBlock) d y W
 bel:Below w w W
 sz:B1<=W.heap.size
theorem gG (w:World):(sizeOf 122).run prog w=.ok 7 w:=by
 obtain⟨i,a,d,b,c⟩:=zG4 JD;simp[sizeOf,typeInfo,a,b]
theorem Xg.old {f b e i d:Nat} {g:Array Value} {w:World} {op K:Int} {A:Option Addr} {n c:Nat} {j:List ah} {W W':World} (h:Xg f b e i d g w op K A n c j W) (hb:Below W W W'):Xg f b e i d g w op K A n c j W':=
 ⟨h.kx.old hb,h.kr.old hb,h.kn.old hb,aT h.own hb,λy a=>(h.oks y a).keep λq k a=>⟨k,zFs a hb.size,hb.block q a⟩,h.bel.trans (hb.mono h.bel.size),zFi h.sz hb.size⟩
theorem Xg.grow {p s b j d:Nat} {J:Array Value} {w:World} {op K:Int} {A l:Option Addr} {k c c':Nat} {G:List ah} {n:ah} {W W':World} (h:Xg p s b j d J w op K A k c G W) (x:p<j) (F:s<j) (t:b<j) (M:w.heap.size<=b) (L:b≠s) (O:b≠p) {E:Nat} (N:j<=E) (I:∀q,E<=q->some q≠(Value.slice A k c).ownBlock)
  (P:okS (λq=>E<=q) d n W) (o:W'.ownsRow j 122 7 (.slice l (k+1) c') (k+1) (G.flatMap ah.cells++n.cells)) (g:W.grownBy W' (Value.slice A k c).ownBlock) (z:(Value.slice l (k+1) c').ownBlock=(Value.slice A k c).ownBlock\/(Value.slice l (k+1) c').ownBlock=some W.heap.size):
  Xg p s b j d J w op K l (k+1) c' (G++[n]) (W'.setCell ⟨b,2,none⟩ (.slice l (k+1) c')):=by
 have v:∀q,q<j->some q≠(Value.slice A k c).ownBlock:=λq f e=>by have:=(h.own.lt q e.symm).1;omega
 have D:∀q,q<j->some q≠(Value.slice l (k+1) c').ownBlock:=λq f e=>by have:=(o.lt q e.symm).1;omega
 have m:∀q,j<=q->q<W.heap.size->some q≠(Value.slice A k c).ownBlock->q<(W'.setCell ⟨b,2,none⟩ (.slice l (k+1) c')).heap.size/\(W'.setCell ⟨b,2,none⟩ (.slice l (k+1) c')).heap[q]? =W.heap[q]? :=by
  intro q B i r;have H:=g.size;refine⟨by simp;omega,?_⟩;rw[zGt W' _ _ q (by show q≠b;omega),g.block q i r]
 have u:∀q,q<W.heap.size->some q≠(Value.slice A k c).ownBlock->some q≠(Value.slice l (k+1) c').ownBlock:=by
  intro q B i;rcases z with e|e
  ·rw[e];exact i
  rw[e];intro r;injection r with r;omega
 refine⟨(h.kx.grown g (v p x)).far (by show p≠b;omega) _,(h.kr.grown g (v s F)).far (by show s≠b;omega) _,(h.kn.grown g (v b t)).put 2 _,?_,?_,?_,?_⟩
 ·rw[zGz];have:=zGw o (λe=>D b t e.symm) (.slice l (k+1) c') (a:=⟨b,2,none⟩)
  simpa using this
 ·intro y r;rcases zFy.1 r with r|r
  ·refine(h.oks y r).keep λq f i=>?_
   obtain⟨C,B⟩:=m q f.1 i f.2;exact⟨⟨f.1,u q i f.2⟩,C,B⟩
  simp only[zF6,zGi,zHt]at r;subst r;refine P.keep λq f i=>?_
  obtain⟨C,B⟩:=m q (by omega) i (I q f);exact⟨⟨by omega,u q i (I q f)⟩,C,B⟩
 ·refine Below.setCell ?_ M _;have H:=g.size;have hb:=h.bel;exact⟨g.os.trans hb.os,g.tape.trans hb.tape,g.output.trans hb.output,zFi hb.size H,λq f=>(g.block q (zFs f hb.size) (v q (by omega))).trans (hb.block q f)⟩
 have:=h.sz;have:=g.size;simp;omega
structure Yh (bx gr B1 d:Nat) (cx:Array Value) (w:World) (A:Option Addr) (n c:Nat) (vs:List ah) (W:World):Prop where
 kx:Bk W bx 110 cx
 kr:Bk W gr 122 #[(),(),"",(),.int .u64 0,(),()]
 own:W.ownsRow B1 122 7 (.slice A n c) n (vs.flatMap ah.cells)
 oks:∀y∈vs,okS (λq=>B1<=q/\some q≠(Value.slice A n c).ownBlock) d y W
 bel:Below w w W
 sz:B1<=W.heap.size
theorem Xg.m {b a i f d:Nat} {e:Array Value} {w:World} {op K:Int} {A:Option Addr} {n c:Nat} {g:List ah} {W:World} (h:Xg b a i f d e w op K A n c g W):Yh b a f d e w A n c g W:=⟨h.kx,h.kr,h.own,h.oks,h.bel,h.sz⟩
section
variable {bx gr B1 d:Nat} {cx:Array Value} {w:World} {A:Option Addr} {n c:Nat} {vs:List ah} {W W':World}
theorem Yh.old (h:Yh bx gr B1 d cx w A n c vs W) (hb:Below W W W'):Yh bx gr B1 d cx w A n c vs W':=
 ⟨h.kx.old hb,h.kr.old hb,aT h.own hb,λy a=>(h.oks y a).keep λq b a=>⟨b,zFs a hb.size,hb.block q a⟩,h.bel.trans (hb.mono h.bel.size),zFi h.sz hb.size⟩
theorem Yh.set (h:Yh bx gr B1 d cx w A n c vs W) {a:Nat} (l:a<B1) (f:w.heap.size<=a) (g:bx≠a) (k:gr≠a) (i:Nat) (u:Value):Yh bx gr B1 d cx w A n c vs (W.setCell ⟨a,i,none⟩ u):=
 ⟨h.kx.far (by exact g) _,h.kr.far (by exact k) _,zGw h.own (λe=>by have:=(h.own.lt a e).1;omega) _,λy b=>(h.oks y b).keep λq j b=>⟨j,by simpa using b,zGt W _ _ q (by show q≠a;omega)⟩,h.bel.setCell f _,by simpa using h.sz⟩
theorem Yh.node (h:Yh bx gr B1 d cx w A n c vs W) (e:vs.length=n) (s:n<=2) (r:gr<B1) (l:w.heap.size<=gr) {o K vk pos a:Int} {vb:Nat} {k:List T} (g:vs.map (eP d)=k) (j:vb<18446744073709551616) (p:w.heap.size<=B1)
  (i:qC W gr 122 #[o,K,.slice A n c,vk,.int .u64 vb,pos,a] W'):eG (λq=>w.heap.size<=q) (d+1) (.mk o K k vk vb pos a) [.int .i64 o,.int .i64 K,.slice A n c,.int .i64 vk,.int .u64 vb,.int .i64 pos,.int .i64 a] W'/\Below w w W':=by
 subst e;subst g;have b:∀q,B1<=q->q<W.heap.size->w.heap.size<=q/\q<W'.heap.size/\W'.heap[q]? =W.heap[q]? :=λq m f=>⟨by omega,by rw[i.size];exact f,i.other q (by omega)⟩
 exact⟨⟨.mk o K A c vs vk vb pos a,rfl,rfl,(gX h.own).keep b,by omega,j,λy f=>(h.oks y f).keep λq m f=>b q m.1 f⟩,i.below _ _ h.bel l⟩
end
theorem Q4 (w:World):(sizeOf 160).run prog w=.ok 2 w:=by
 obtain⟨i,a,d,b,c⟩:=zG4 (show(prog.info? 160).map (λi=>(i.zero,i.size,i.bytes))=some (some (.agg #[(),.int .u64 0]),2,16) by kernel_rfl);simp[sizeOf,typeInfo,a,b]
theorem Fh (a:Str):∀(l:List (List UInt8)) (i:Nat),0<=fP a i l->(fP a i l).toNat<i+l.length
 |[],i,h=>by simp[fP]at h
 |x::l,i,h=>by
  unfold fP at h⊢
  split
  ·simp
  rename_i b
  rw[zF2 b]at h;have:=Fh a l (i+1) h;simp only[zFh];omega
theorem yU (b B d:Nat) (s:ai) (iv:Value) (m:MS) (op n Y p:Nat) (G S2 AS:ByteArray) (A0:Option Addr) (k cc:Nat) (ts:List T) (K:Int) (hk:ts.length=k) (U:k<=2) (w:World) (h:jR b B s iv m w) (hn:m.items.length<=1000)
  (bt:n<=9223372036854775807) (bw:Y<=1000) (bh:op=23->0<=fP G.toList 0 (s.syms.map (·.toList)))
  (ao:∀W:World,Below w w W->Calls prog 74 #[.pointer (some ⟨b,0,none⟩),.agg #[op,.slice A0 k cc,n,Y,G,S2,p]] W λr W'=>r=.returned (.int .i64 K)/\Below W W W')
  (ar:∀j (hj:j<ts.length),zEn b AS w A0 j d ts[j]):
  Calls prog 76 #[.pointer (some ⟨b,0,none⟩),.agg #[op,.slice A0 k cc,n,Y,G,S2,p],AS] w (xR (d+1) (Xf s m.items op n Y G.toList S2.toList K AS.toList ts) w):=by
 have HC:=zH ar;have P:=zH ao;have b6:=zH hk;have HN:=zH hn;have ag:=zH bh;obtain⟨br,a⟩:=zN (Xf s m.items op n Y G.toList S2.toList K AS.toList ts)
 rw[a];have aH:=zH a;have HM:=zH h;have cf:=h.bk.lt;clear ar ao hk a h hn bh
 go_enter func76,ntmps76
 have f:=Bk.new w 110 #[op,.slice A0 k cc,n,Y,G,S2,p];have e:Below w w (w.alloc (.cells #[op,.slice A0 k cc,n,Y,G,S2,p] 110)):=zR.alloc zL _;have E:=Bk.new (w.alloc (.cells #[op,.slice A0 k cc,n,Y,G,S2,p] 110)) 122 #[(),(),"",(),.int .u64 0,(),()];go_upto_region 1 with fail
 obtain⟨bx,bm⟩:=zN w.heap.size
 have kD:=zH bm;have b7:(w.alloc (.cells #[op,.slice A0 k cc,n,Y,G,S2,p] 110)).heap.size=bx+1:=by simp;omega
 have o:=f.alloc (.cells #[(),(),"",(),.int .u64 0,(),()] 122);have z:=e.alloc (by simp) (.cells #[(),(),"",(),.int .u64 0,(),()] 122);rw[b7]at E;rw[bm]at o⊢;obtain⟨W,a⟩:=zN ((w.alloc (.cells #[op,.slice A0 k cc,n,Y,G,S2,p] 110)).alloc (.cells #[(),(),"",(),.int .u64 0,(),()] 122))
 rw[a]at o E z⊢;obtain⟨gr,bo⟩:=zN (bx+1)
 rw[bo]at E⊢;have ci:b<bx:=by omega
 have L:=E.lt;obtain⟨Z,S,q2,q3,q4,q5,X⟩:=zc7 o;clear f e b7 a;have e:=z
 refine wx (λk => k == 6) [.is (.pointer (some ⟨bx, 0, none⟩)),
   .is (.int .i64 op),
   .is (.pointer (some ⟨b,0,none⟩)),
   .is (.agg #[op,.slice A0 k cc,n,Y,G,S2,p]),
   .is (.int .i64 K),
   .is (.agg #[op,K,"",(),.int .u64 0,(),()]),
   .st (λv w=>∃g,v=.pointer (some ⟨g,0,none⟩)/\W.heap.size<=g/\Bk w g 122 #[(),(),"",(),.int .u64 0,(),()]) (λ_ _ _ hb ⟨g,H,h0,x⟩=>⟨g,H,h0,x.old hb⟩)] [3,4,5,6] (by kernel_rfl) (by kernel_rfl) (by kernel_rfl)
   (λC=>.c (px C rfl (λ_ _=>rfl)) <|
   .c (px C rfl (λ_ h=>bH (lD (bc h Z)))) <|
   .c (px C rfl (λ_ _=>rfl)) <|
   .c (pz [] [4] (by kernel_rfl) λqK qa wr l Q D R=>?_) <|
   .c (pz [2,3] [] (by kernel_rfl) λqK qa wr l Q D R=>?_) <|
   .c (pz [1,4] [] (by kernel_rfl) λqK qa wr l Q D R=>?_) <|
   .c (pf [] [] (by kernel_rfl) λqK qa wr l Q D R=>?_) <| .nil) ?_
 ·have e4:qa.tmps[4]? =some (.pointer (some ⟨bx,0,none⟩)):=Q.1.trans rfl;clear Q D;have M:=zE l Z;have a:=zE l S;have aa:=zE l q2;have I:=zE l q3;have a0:=zE l q4;have ad:=zE l q5;have F:=zE l X;go_simp;exact R _ _ zR rfl
 ·have O:=aA D.1 rfl rfl;have J:=aA D.2.1 rfl rfl;clear Q D;go_simp
  go_at_call 74
  refine(P.out wr (e.trans (l.mono e.size))).mono ?_;rintro r w9 ⟨rfl,N⟩;exact R _ _ N rfl
 ·have f:=aA D.1 rfl rfl;have ab:=aA D.2.1 rfl rfl;clear Q D;go_simp;exact R _ _ zR rfl
 ·clear Q D;go_simp;exact R _ _ (zR.alloc zL _) ⟨_,rfl,l.size,Bk.new _ _ _⟩ ⟨_,rfl,by simp,by simp⟩
 intro qx wr l a hS;have r6:∃g,qx 6=.pointer (some ⟨g,0,none⟩)/\W.heap.size<=g/\Bk wr g 122 #[(),(),"",(),.int .u64 0,(),()]:=a 6 rfl rfl;clear a hS;simp only[bJ,zF0,zGb,zF1,zFp,zFd,zFh,zF4,Act.put,zFf,zFw,zFx];generalize qx 6=z7 at r6⊢;obtain⟨f,r6,n7,O⟩:=r6;subst r6;have M:=e.trans (l.mono e.size);have J:=o.old l;have F:=E.old l;have ch:gr<f:=by omega
 have I:w.heap.size<=f:=by omega
 have ck:bx<gr:=by omega
 have Zp:=O.lt;clear Z S q2 q3 q4 q5 X o E z l e n7 L P;go_upto_region 2 with(first|(refine ae gG rfl _ _ rfl rfl [.int .i64 op,.int .i64 K,.slice none 0 0,.int .i64 0,.int .u64 0,.int .i64 0,.int .i64 0] rfl O rfl rfl rfl ?_;intro w0 p0))
 have e:Xg bx gr f w0.heap.size d #[op,.slice A0 k cc,n,Y,G,S2,p] w op K none 0 0 [] w0:=⟨p0.zJ J (by omega),p0.zJ F (by omega),p0.bk,zGs _ _ _ _,λy o=>absurd o (by simp),p0.below _ _ M I,zFv _⟩
 have Em:f<w0.heap.size:=p0.bk.lt;have sO:=zH e;have e1:=e.kx.cell 1;obtain⟨iN,hN,bs,c8,ZC⟩:=zG4 JD;clear J F O M p0 e Zp;go_wp2_with fail
 clear e1
 go_loopw[21] (λi wr=>∃(j:Nat) (A:Option Addr) (c:Nat) (vs:List ah),j<=k/\i=.int .i64 j/\Hid (vs.map (eP d)=ts.take j)/\Hid (Xg bx gr f w0.heap.size d #[op,.slice A0 k cc,n,Y,G,S2,p] w op K A j c vs wr)) (λi _=>k-(intOf i).toNat)
 case atStart=>exact⟨0,none,0,[],zFj _,rfl,zH rfl,sO⟩
 case round=>
  clear sO;obtain⟨j,A,c,vs,hj,rfl,HT,HV⟩:=hrel;obtain⟨W,rfl⟩:∃W:World,W=wr:=⟨_,rfl⟩
  by_cases b0:j<k
  ·
   have bj:j<ts.length:=by rw[b6.out];exact b0
   obtain⟨g,d0,d1,d2,d3,d4,d5,d6,rfl,z,hc,hq⟩:=(HC.out j bj).ex;have x2:W.cell? ⟨f,2,none⟩=some (.slice A j c):=HV.kn.cell 2;have e1:W.cell? ⟨bx,1,none⟩=some (.slice (some ⟨g,0,none⟩) k cc):=HV.kx.cell 1;have e:∀(q:Nat) (u:Value),[d0,d1,d2,d3,d4,d5,d6][q]? =some u->W.cell? ⟨g,j*7+q,none⟩=some u:=λq u h=>(bK HV.bel g _ z).trans (hc q u h)
   have r0:W.cell? ⟨g,j*7,none⟩=some d0:=e 0 _ rfl;have r1:W.cell? ⟨g,j*7+1,none⟩=some d1:=e 1 _ rfl;have r2:W.cell? ⟨g,j*7+2,none⟩=some d2:=e 2 _ rfl;have P:W.cell? ⟨g,j*7+3,none⟩=some d3:=e 3 _ rfl;have O:W.cell? ⟨g,j*7+4,none⟩=some d4:=e 4 _ rfl;have S:W.cell? ⟨g,j*7+5,none⟩=some d5:=e 5 _ rfl;have r6:W.cell? ⟨g,j*7+6,none⟩=some d6:=e 6 _ rfl;obtain⟨t,o⟩:=zN (ts[j])
   rw[o]at hq;have J:Hid (ts.take (j+1)=ts.take j++[t]):=zH (by rw[zGc bj,o]);have HQ:Hid (∀W':World,Below W W W'->Calls prog 76 #[.pointer (some ⟨b,0,none⟩),.agg #[d0,d1,d2,d3,d4,d5,d6],AS] W' (xR d t W')):=zH λW' h=>hq W' (HV.bel.trans (h.mono HV.bel.size))
   clear hc hq e z HC o;go_upto_region 5 with fail
   refine wx (λk => false) [.is (.pointer (some ⟨f, 2, none⟩)),
     .is (.slice A j c),
     .is (.pointer (some ⟨b,0,none⟩)),
     .is (.pointer (some ⟨bx,1,none⟩)),
     .is (.slice (some ⟨g,0,none⟩) k cc),
     .is (.int .i64 (j:Nat)),
     .is (.pointer (some ⟨g,j*7,none⟩)),
     .is (.agg #[d0,d1,d2,d3,d4,d5,d6]),
     .is (.string AS),
     .st (λv w=>∃cs:List Value,v=.agg cs.toArray/\eG (λq=>W.heap.size<=q) d t cs w) (λ_ _ _ hb ⟨cs,H,x⟩=>⟨cs,H,x.old hb⟩),
     .st (λv w=>∃(g:Nat) (cs:List Value),v=.slice (some ⟨g,0,none⟩) 1 1/\Bk w g 122 cs.toArray/\eG (λq=>W.heap.size<=q) d t cs w) (λ_ _ _ hb ⟨g,cs,H,x,e⟩=>⟨g,cs,H,x.old hb,e.old hb⟩)] [6,7,9,10] (by kernel_rfl) (by kernel_rfl) (by kernel_rfl)
     (λC=>.c (px C rfl (λ_ _=>rfl)) <|
     .c (px C rfl (λ_ h=>bH (jD (bc h x2)))) <|
     .c (px C rfl (λ_ _=>rfl)) <|
     .c (px C rfl (λ_ _=>rfl)) <|
     .c (px C rfl (λ_ h=>bH (zAt (bc h e1)))) <|
     .c (px C rfl (λ_ _=>rfl)) <|
     .c (pz [4,5] [] (by kernel_rfl) λqK qa wr l Q D R=>?_) <|
     .c (pz [6] [] (by kernel_rfl) λqK qa wr l Q D R=>?_) <|
     .c (px C rfl (λ_ _=>rfl)) <|
     .c (pz [2,7,8] [] (by kernel_rfl) λqK qa wr l Q D R=>?_) <|
     .c (pz [9] [] (by kernel_rfl) λqK qa wr l Q D R=>?_) <| .nil) ?_
   ·have H:=aA D.1 rfl rfl;have F:=aA D.2.1 rfl rfl;clear Q D;go_simp;exact R _ _ zR rfl
   ·have af:=aA D.1 rfl rfl;clear Q D;have a0:=zE l r0;have ak:=zE l r1;have M:=zE l r2;have aa:=zE l P;have X:=zE l O;have Xd:=zE l S;have ad:=zE l r6;go_simp;exact R _ _ zR rfl
   ·have ab:=aA D.1 rfl rfl;have al:=aA D.2.1 rfl rfl;have L:=aA D.2.2.1 rfl rfl;clear Q D;go_simp
    go_at_call 76
    refine(HQ.out wr l).mono ?_;rintro r w9 ⟨cs,rfl,x,N⟩;exact R _ _ N ⟨cs,rfl,x.keep λq hq b0=>⟨zFi l.size hq,b0,rfl⟩⟩
   ·obtain⟨u33,e,r9⟩:=D.1;obtain⟨cs,z,o⟩:=(show∃cs:List Value,u33=.agg cs.toArray/\eG (λq=>W.heap.size<=q) d t cs wr from r9)
    subst z;have e:qa.tmps[33]? =some (.agg cs.toArray):=e;clear Q D;obtain⟨c0,c1,c2,c3,c4,c5,c6,rfl,_⟩:=o.seven;refine nX (.tmp 33) rfl (aB e) ?_;exact R _ _ (zR.alloc zL _) ⟨_,_,rfl,Bk.new _ _ _,o.old (zR.alloc zL _)⟩
   intro qx wr l a hS;have e:(λv w=>∃(g:Nat) (cs:List Value),v=.slice (some ⟨g,0,none⟩) 1 1/\Bk w g 122 cs.toArray/\eG (λq=>W.heap.size<=q) d t cs w) (qx 10) wr:=a 10 rfl rfl;clear a hS;simp only[bJ,zF0,zGb,zF1,zFp,zFd,zFh,zF4,Act.put,zFf,zFw,zFx];generalize qx 10=cj at e⊢;obtain⟨be,ce,rfl,L,o⟩:=e;obtain⟨nv,rfl,N,z⟩:=o;have F:=HV.old l;have c7:=HV.sz;have cg:j<=2:=by omega
   have H:=F.sz;have HF:Hid (∀q,W.heap.size<=q->some q≠(Value.slice A j c).ownBlock):=zH λq hq e=>by have:=(HV.own.lt q e.symm).2;omega
   have o:=F.own;have x:=zH F;have X:=zH z;have M:=zH N;clear F z N HQ HV x2 e1 r0 r1 r2 P O S r6 l;go_wp2_with (first|at_builtin;(refine aU rfl _ _ 59 rfl w0.heap.size 122 iN _ 7 72 underlying59 hN bs c8 ZC rfl (by decide) (.slice A j c) j _ rfl o (be+1) (some ⟨be,0,none⟩) 1 1 nv.cells rfl (Rd.bk L (zJ8 _)) ?c1 ?c2 ?c3 ?c4 H ?_))
   case c1=>exact ah.len _
   case c2=>intro u hu;obtain⟨a1,a2,a3,a4,a5,a6,a7,a8,a9⟩:=nv;simp[ah.cells]at hu;rcases hu with rfl|rfl|rfl|rfl|rfl|rfl|rfl<;>rfl
   case c3=>unfold maxLen;omega
   case c4=>omega
   intro A9 c9 w9 P O F;have z:=x.kn.grown O (λe=>by have:=(o.lt f e.symm).1;omega);have f2:=z.frozen 2;have x2:w9.cell? ⟨f,2,none⟩=some (.slice A j c):=z.cell 2;have MW:=zH (x.grow (by omega) (by omega) Em I (by omega) (by omega) c7 HF.out X.out P O F);have bp:Hid ((vs++[nv]).map (eP d)=ts.take (j+1)):=zH (by rw[J.out,<-HT.out,zGr];show _++[eP d nv]=_;rw[M.out]);clear o P O F x X M HF L H z HT J;go_wp2
   go_roundw
   case rel=>exact⟨j+1,A9,c9,_,by omega,by go_num,bp,MW⟩
   case measure=>simp[intOf];omega
  obtain rfl:j=k:=by omega
  have o:=HT.out;rw[zHv (by rw[b6.out];exact zFv _)]at o;have LX:=zH o;have x1:W.cell? ⟨f,1,none⟩=some (.int .i64 K):=HV.kn.cell 1;clear HT o HC b0 hj;go_upto_region 7 with fail
  have S:=Bk.new W 160 #[(),.int .u64 0];have P:Below W W (W.alloc (.cells #[(),.int .u64 0] 160)):=zR.alloc zL _;go_upto_region 8 with(first|(refine ae Q4 rfl _ _ rfl rfl [.int .i64 K,.int .u64 0] rfl S rfl rfl rfl ?_;intro w2 p2))
  have F:=p2.below _ _ P zL;have M:=HV.old F;have Gn:=zH HV.m;have Q5:=zH F;have Xh:Hid (w.heap.size<=gr):=zH (by have:=kD.out;omega);have a0:Hid (w.heap.size<=w0.heap.size):=zH (by omega);obtain⟨L,H⟩:=zN W.heap.size
  rw[H]at p2⊢;have b5:=zH H;have x:=p2.bk;have ca:=x.lt;have cd:w0.heap.size<=L:=by have:=HV.sz;omega
  have O:=zH M;have J:=zH x;have z:vs.length=j:=by rw[<-b6.out,<-LX.out,zF5]
  have o:=zH z;have Z:=M.kx.cell 0;have v0:=x.cell 0;have v1:=x.cell 1;clear p2 S P M x x1 HV z H F
  by_cases hc:op<20
  case pos=>
   as_aux_lemma=>
   have bq:(op:Int)<20:=by omega
   have a:=aH.out;unfold Xf at a;rw[zF3 hc]at a;have HR:=zH a;have E:=O.kr;obtain⟨x0,x1,x2,x3,x4,x5,x6⟩:=zc7 O.kn;clear aH a hc ag;go_wp2_with (first|(refine ae gG rfl _ _ rfl rfl [.int .i64 op,.int .i64 K,.slice A j c,.int .i64 0,.int .u64 0,.int .i64 0,.int .i64 0] rfl E rfl rfl rfl ?_;intro w9 x))
   obtain⟨u0,u1,u2,u3,u4,u5,u6⟩:=zc7 x.bk;refine zFg (v:=.agg #[op,K,.slice A j c,(),.int .u64 0,(),()]) (by simp[results,results76,go_sem,u0,u1,u2,u3,u4,u5,u6]) rfl ?_;obtain rfl:=HR.out;have:=O.m.node o.out U (by omega) (by have:=kD.out;omega) LX.out (by decide) (by have:=O.bel.size;omega) x;exact⟨_,rfl,this.1,this.2⟩
  case neg=>
  have bq:¬(op:Int)<20:=by omega
  by_cases F:op=21
  case pos=>
   as_aux_lemma=>
   have bd:((op:Int)==21)=true:=by rw[zFt];omega
   have b9:(op:Int)<24:=by omega
   have a:=aH.out;unfold Xf at a;rw[zF2 hc,zF3 F]at a;have S:=zH (UM n Y bt bw w2);have H:=Yg n Y;obtain⟨⟨db,dk⟩,P⟩:∃z,AQ n Y=z:=⟨_,rfl⟩
   rw[P]at S a H;simp only at S a H;have HR:=zH a;have M:=zH H;have q2:=O.kx.cell 2;have q3:=O.kx.cell 3;clear aH a hc F ag P H;go_wp2_with fail
   refine S.mono ?_;rintro r w4 ⟨rfl,P⟩;have JL:=Q5.trans (P.mono Q5.size);have H:=J.old P;clear S P O Z q2 q3 v0 v1;have f1:=H.frozen 1;have c1:=H.cell 1;have S:=H.put 1 (.int .u64 (db:Nat));have JM:Below W W (w4.setCell ⟨L,1,none⟩ (.int .u64 (db:Nat))):=JL.setCell (by have:=b5.out;show W.heap.size<=L;omega) _;have X:=Gn.old JM;have E:=X.kr;have Z:=X.kx.cell 0;have v0:(w4.setCell ⟨L,1,none⟩ (.int .u64 (db:Nat))).cell? ⟨L,0,none⟩=some (.int .i64 K):=S.cell 0;have v1:(w4.setCell ⟨L,1,none⟩ (.int .u64 (db:Nat))).cell? ⟨L,1,none⟩=some (.int .u64 (db:Nat)):=S.cell 1;have ab:=zH X;clear H S JL JM X Gn Q5 J LX o;go_wp2_with (first|(refine ae gG rfl _ _ rfl rfl [.int .i64 40,.int .i64 K,.slice none 0 0,.int .i64 K,.int .u64 (db:Nat),.int .i64 0,.int .i64 0] rfl E rfl rfl rfl ?_;intro w9 x))
   obtain⟨u0,u1,u2,u3,u4,u5,u6⟩:=zc7 x.bk;refine zFg (v:=.agg #[.int .i64 40,K,"",K,.int .u64 (db:Nat),(),()]) (by simp[results,results76,go_sem,u0,u1,u2,u3,u4,u5,u6]) rfl ?_;obtain rfl:=HR.out;exact⟨_,rfl,eG.leaf _ _ _ _ _ _ _ _ M.out d,x.below _ _ ab.bel Xh.out⟩
  case neg=>
  by_cases Nw:op=23
  case pos=>
   have bd:((op:Int)==21)=false:=zB (by omega)
   have bl:((op:Int)==23)=true:=by rw[zFt];omega
   have b9:(op:Int)<24:=by omega
   have a:=aH.out;unfold Xf at a;rw[zF2 hc,zF2 F,zF3 Nw]at a;have h0:=ag.out Nw;obtain⟨an,af⟩:=zJv h0;have ad:=Fh G.toList (s.syms.map (·.toList)) 0 h0;have aa:=HM.old (Gn.bel.trans (Q5.mono Gn.bel.size));have ak:=aa.Eh.slen
   have al:Hid (∀W':World,Below w2 w2 W'->Calls prog 92 #[.slice s.sa s.syms.length s.sc,G] W' λe w'=>e=.returned (.int .i64 (an:Nat))/\W'=w'):=zH λW' hW=>by
    have:=Us s.sa s.sc s.syms G b W' ((aa.old hW).Eh.syms) (by unfold maxLen;omega)
    rwa [af]at this
   rw[af]at a ad;have am:an<=9223372036854775807:=by simp at ad;omega
   have a:T.mk 40 K [] K an 0 0=br:=a;have HR:=zH a;have M:Hid (an<18446744073709551616):=zH (by omega);have s1:w2.cell? ⟨b,1,none⟩=some (.slice s.sa s.syms.length s.sc):=aa.bk.cell 1;have q4:w2.cell? ⟨bx,4,none⟩=some (.string G):=O.kx.cell 4;clear aH a hc F Nw ag ad h0 af ak aa HM;go_upto_region 13 with fail
   clear v0 v1 Z
   refine wx (λk => false) [.is (.pointer (some ⟨b, 0, none⟩)),
     .is (.pointer (some ⟨b,0,none⟩)),
     .is (.pointer (some ⟨b,0,none⟩)),
     .is (.pointer (some ⟨b,1,none⟩)),
     .is (.slice s.sa s.syms.length s.sc),
     .is (.pointer (some ⟨bx,4,none⟩)),
     .is (.string G)] [] (by kernel_rfl) (by kernel_rfl) (by kernel_rfl)
     (λC=>.c (px C rfl (λ_ _=>rfl)) <|
     .c (px C rfl (λ_ _=>rfl)) <|
     .c (px C rfl (λ_ _=>rfl)) <|
     .c (px C rfl (λ_ _=>rfl)) <|
     .c (px C rfl (λ_ h=>bH (ld23 (bc h s1)))) <|
     .c (px C rfl (λ_ _=>rfl)) <|
     .c (px C rfl (λ_ h=>bH (I7 (bc h q4)))) <| .nil) ?_
   intro qx wr l a hS;clear a hS;simp only[bJ,zF0,zGb,zF1,zFp,zFd,zFh,zF4,Act.put,zFf,zFw,zFx];have JL:=Q5.trans (l.mono Q5.size);have H:=J.old l;have HB:=zH l;clear O l s1 q4;have f1:=H.frozen 1;have c1:=H.cell 1;go_wp2_with fail
   refine(al.out wr HB.out).mono ?_;rintro r w4 ⟨rfl,ad⟩;subst ad;have f1:=H.frozen 1;have c1:=H.cell 1;have S:=H.put 1 (.int .u64 (an:Nat));have JM:Below W W (wr.setCell ⟨L,1,none⟩ (.int .u64 (an:Nat))):=JL.setCell (by have:=b5.out;show W.heap.size<=L;omega) _;have X:=Gn.old JM;have E:=X.kr;have Z:=X.kx.cell 0;have v0:(wr.setCell ⟨L,1,none⟩ (.int .u64 (an:Nat))).cell? ⟨L,0,none⟩=some (.int .i64 K):=S.cell 0;have v1:(wr.setCell ⟨L,1,none⟩ (.int .u64 (an:Nat))).cell? ⟨L,1,none⟩=some (.int .u64 (an:Nat)):=S.cell 1;have ab:=zH X;clear H S JL JM X Gn Q5 J LX o;go_wp2_with (first|(refine ae gG rfl _ _ rfl rfl [.int .i64 40,.int .i64 K,.slice none 0 0,.int .i64 K,.int .u64 (an:Nat),.int .i64 0,.int .i64 0] rfl E rfl rfl rfl ?_;intro w9 x))
   obtain⟨u0,u1,u2,u3,u4,u5,u6⟩:=zc7 x.bk;refine zFg (v:=.agg #[.int .i64 40,K,"",K,.int .u64 (an:Nat),(),()]) (by simp[results,results76,go_sem,u0,u1,u2,u3,u4,u5,u6]) rfl ?_;obtain rfl:=HR.out;exact⟨_,rfl,eG.leaf _ _ _ _ _ _ _ _ M.out d,x.below _ _ ab.bel Xh.out⟩
  case neg=>
  by_cases af:op<24
  case pos=>
   as_aux_lemma=>
   have bd:((op:Int)==21)=false:=zB (by omega)
   have bl:((op:Int)==23)=false:=zB (by omega)
   have b9:(op:Int)<24:=by omega
   have a:=aH.out;unfold Xf at a;rw[zF2 hc,zF2 F,zF2 Nw,zF3 af]at a;have HR:=zH a;have M:Hid (n<18446744073709551616):=zH (by omega);have q2:=O.kx.cell 2;have JL:=Q5.out;have H:=J.out;clear aH a hc F Nw af ag;have f1:=H.frozen 1;have c1:=H.cell 1;have S:=H.put 1 (.int .u64 (n:Nat));have JM:Below W W (w2.setCell ⟨L,1,none⟩ (.int .u64 (n:Nat))):=JL.setCell (by have:=b5.out;show W.heap.size<=L;omega) _;have X:=Gn.old JM;have E:=X.kr;have Z:=X.kx.cell 0;have v0:(w2.setCell ⟨L,1,none⟩ (.int .u64 (n:Nat))).cell? ⟨L,0,none⟩=some (.int .i64 K):=S.cell 0;have v1:(w2.setCell ⟨L,1,none⟩ (.int .u64 (n:Nat))).cell? ⟨L,1,none⟩=some (.int .u64 (n:Nat)):=S.cell 1;have ab:=zH X;clear H S JL JM X Gn Q5 J LX o;go_wp2_with (first|(refine ae gG rfl _ _ rfl rfl [.int .i64 40,.int .i64 K,.slice none 0 0,.int .i64 K,.int .u64 (n:Nat),.int .i64 0,.int .i64 0] rfl E rfl rfl rfl ?_;intro w9 x))
   obtain⟨u0,u1,u2,u3,u4,u5,u6⟩:=zc7 x.bk;refine zFg (v:=.agg #[.int .i64 40,K,"",K,.int .u64 (n:Nat),(),()]) (by simp[results,results76,go_sem,u0,u1,u2,u3,u4,u5,u6]) rfl ?_;obtain rfl:=HR.out;exact⟨_,rfl,eG.leaf _ _ _ _ _ _ _ _ M.out d,x.below _ _ ab.bel Xh.out⟩
  case neg=>
  have bd:((op:Int)==21)=false:=zB (by omega)
  have bl:((op:Int)==23)=false:=zB (by omega)
  have b9:¬(op:Int)<24:=by omega
  have aa:=HM.old (Gn.bel.trans (Q5.mono Gn.bel.size));have hF:=xP b B s iv m w2 G aa HN.out;obtain⟨⟨⟨nm,xb,xp,H,xf,xk⟩,fb⟩,hx⟩:∃z,ed G.toList m.items=z:=⟨_,rfl⟩
  have a:=aH.out;unfold Xf at a;rw[zF2 hc,zF2 F,zF2 Nw,zF2 af,hx]at a;rw[hx]at hF;simp only[dh.cells]at hF a;obtain⟨S,z⟩:=zN (if S2.toList≠iY then dA s xk S2.toList else -1)
  rw[z]at a;have UU:=zH z;obtain⟨M,hM⟩:=zN (bytes nm)
  rw[hM]at hF;have xG:=zH hF;have HR:=zH a;have al:Hid (∀(W':World),Below w.heap.size w W'->Calls prog 73 #[.agg #[.slice s.ta s.types.length s.tc,.slice s.sa s.syms.length s.sc],xk,S2] W' λe w'=>e=.returned (.int .i64 (dA s xk S2.toList))/\Below W'.heap.size W' w'):=zH λW' hW=>wF s xk S2 W' ((HM.old hW).Eh.more (zG5 (HM.old hW).bk.lt))
  have q4:=O.kx.cell 4;clear aH a hF hx hM z aa ag hc F Nw v0 v1 J;go_wp2_with fail
  refine xG.mono ?_;rintro r w4 ⟨rfl,P⟩;clear xG Z q4;go_upto_region 19 with(first|(refine ae iw rfl _ _ rfl rfl [.string M,.int .i64 xb,.int .i64 xp,.int .i64 H,.int .i64 xf,.int .i64 xk] rfl (Bk.new w4 _ _) rfl rfl rfl ?_;intro w5 p5;go_frame))
  have ak:Below w2 w2 w5:=p5.below _ _ (P.alloc P.size _) P.size;have X:=Gn.old (Q5.trans (ak.mono Q5.size));have J:=O.kn.old ak;have ad:=p5.bk;have bi:=P.size;have cb:f<w2.heap.size:=O.kn.lt;obtain⟨gi,am⟩:=zN w4.heap.size
  rw[am]at ad bi⊢;have GM:bx≠f:=by omega
  have GN:gr≠f:=by omega
  have f5:=J.frozen 5;have c5:w5.cell? ⟨f,5,none⟩=some (.int .i64 0):=J.cell 5;have y3:w5.cell? ⟨gi,3,none⟩=some (.int .i64 H):=ad.cell 3;have F:Bk (w5.setCell ⟨f,5,none⟩ (.int .i64 H)) f 122 #[op,K,.slice A j c,(),.int .u64 0,H,()]:=J.put 5 _;have z:=X.set Em I GM GN 5 (.int .i64 H);have ab:=ad.far (p:=⟨f,5,none⟩) (by show gi≠f;omega) (.int .i64 H);clear p5 P ak X J ad am Gn Q5 O;go_upto_region 20 with fail
  generalize w5.setCell ⟨f,5,none⟩ (.int .i64 H)=w6 at F z ab⊢;clear f5 c5 y3;have Z:=z.kx.cell 0;have ad:=zH z
  by_cases O:op=25
  case pos=>
   as_aux_lemma=>
   have bv:((op:Int) !=25)=false:=by rw[zG0];omega
   have ak:((op:Int)==24)=false:=zB (by omega)
   have a:=HR.out;rw[zF3 O]at a;have J:=zH a;have E:=z.kr;obtain⟨x0,x1,x2,x3,x4,x5,x6⟩:=zc7 F;clear HR a O af F ab z al UU HM;go_wp2_with (first|(refine ae gG rfl _ _ rfl rfl [.int .i64 op,.int .i64 K,.slice A j c,.int .i64 0,.int .u64 0,.int .i64 H,.int .i64 0] rfl E rfl rfl rfl ?_;intro w9 x))
   obtain⟨u0,u1,u2,u3,u4,u5,u6⟩:=zc7 x.bk;refine zFg (v:=.agg #[op,K,.slice A j c,(),.int .u64 0,H,()]) (by simp[results,results76,go_sem,u0,u1,u2,u3,u4,u5,u6]) rfl ?_;obtain rfl:=J.out;have:=ad.node o.out U (by omega) Xh.out LX.out (by decide) a0.out x;exact⟨_,rfl,this.1,this.2⟩
  case neg=>
  have bv:((op:Int) !=25)=true:=by rw[zG1];omega
  have a:=HR.out;rw[zF2 O]at a;have J:=zH a;have f6:=F.frozen 6;have c6:w6.cell? ⟨f,6,none⟩=some (.int .i64 0):=F.cell 6;have ap:Bk (w6.setCell ⟨f,6,none⟩ (.int .i64 (-1))) f 122 #[op,K,.slice A j c,(),.int .u64 0,H,.int .i64 (-1)]:=F.put 6 _;have Xi:=z.set Em I GM GN 6 (.int .i64 (-1));have b3:=ab.far (p:=⟨f,6,none⟩) (by show gi≠f;omega) (.int .i64 (-1));clear HR a O F z ab;go_upto_region 22 with fail
  generalize w6.setCell ⟨f,6,none⟩ (.int .i64 (-1))=w7 at ap Xi b3⊢;clear f6 c6 Z ad;have q5:=Xi.kx.cell 5;obtain⟨tm,Iu⟩:=zN (S2.toList==[84,73,77,69])
  have N:(S2.toList !=[84,73,77,69])= !tm:=by rw[bne,Iu]
  cases tm
  case true=>
   have aw:S= -1:=by rw[<-UU.out,zF2 (by rw[show S2.toList=iY from eq_of_beq Iu];simp)]
   subst aw;have N:(S2.toList !=[84,73,77,69])=false:=N;clear UU al;go_upto_region 24 with fail
   clear N Iu q5;have Yi:=zH Xi;have Q7:=zH ap;have Z:=Xi.kx.cell 0;clear Xi ap
   by_cases xU:op=24
   case pos=>
    have ak:((op:Int)==24)=true:=by rw[zFt];omega
    have a:=J.out;rw[zF3 xU]at a;have z:=zH a;have f0:=Q7.frozen 0;have c0:w7.cell? ⟨f,0,none⟩=some (.int .i64 op):=Q7.cell 0;have Ny:Bk (w7.setCell ⟨f,0,none⟩ (.int .i64 42)) f 122 #[.int .i64 42,K,.slice A j c,(),.int .u64 0,H,.int .i64 (-1)]:=Q7.put 0 _;have D9:=Yi.set Em I GM GN 0 (.int .i64 42);clear a J xU Yi Q7;go_upto_region 26 with fail
    generalize w7.setCell ⟨f,0,none⟩ (.int .i64 42)=wa at Ny D9⊢;clear f0 c0 Z ak;have q4:=D9.kx.cell 4;have UX:=zH D9
    by_cases F:G.toList=AS.toList
    case pos=>
     as_aux_lemma=>
     have am:(G.toList==AS.toList)=true:=by rw[zFt];exact F
     have a:=z.out;rw[zF3 F]at a;have ab:=zH a;have f0:=Ny.frozen 0;have c0:wa.cell? ⟨f,0,none⟩=some (.int .i64 42):=Ny.cell 0;have Yj:Bk (wa.setCell ⟨f,0,none⟩ (.int .i64 41)) f 122 #[.int .i64 41,K,.slice A j c,(),.int .u64 0,H,.int .i64 (-1)]:=Ny.put 0 _;have aq:=D9.set Em I GM GN 0 (.int .i64 41);have f5:=Yj.frozen 5;have c5:(wa.setCell ⟨f,0,none⟩ (.int .i64 41)).cell? ⟨f,5,none⟩=some (.int .i64 H):=Yj.cell 5;have ad:Bk ((wa.setCell ⟨f,0,none⟩ (.int .i64 41)).setCell ⟨f,5,none⟩ (.int .i64 0)) f 122 #[.int .i64 41,K,.slice A j c,(),.int .u64 0,(),.int .i64 (-1)]:=Yj.put 5 _;have O:=aq.set Em I GM GN 5 (.int .i64 0);have av:=zH O;clear a z F D9 UX Ny aq Yj;go_upto_region 28 with fail
     generalize(wa.setCell ⟨f,0,none⟩ (.int .i64 41)).setCell ⟨f,5,none⟩ (.int .i64 0)=wc at ad O av⊢;clear f0 c0 f5 c5 q4 am;have E:=O.kr;obtain⟨x0,x1,x2,x3,x4,x5,x6⟩:=zc7 ad;clear ad O;go_wp2_with (first|(refine ae gG rfl _ _ rfl rfl [.int .i64 41,.int .i64 K,.slice A j c,.int .i64 0,.int .u64 0,.int .i64 0,.int .i64 (-1)] rfl E rfl rfl rfl ?_;intro w9 x))
     obtain⟨u0,u1,u2,u3,u4,u5,u6⟩:=zc7 x.bk;refine zFg (v:=.agg #[.int .i64 41,K,.slice A j c,(),.int .u64 0,(),.int .i64 (-1)]) (by simp[results,results76,go_sem,u0,u1,u2,u3,u4,u5,u6]) rfl ?_;obtain rfl:=ab.out;have:=av.node o.out U (by omega) Xh.out LX.out (by decide) a0.out x;exact⟨_,rfl,this.1,this.2⟩
    case neg=>
     as_aux_lemma=>
     have am:(G.toList==AS.toList)=false:=by rw[zFz];exact F
     have a:=z.out;rw[zF2 F]at a;have ab:=zH a;have E:=D9.kr;obtain⟨x0,x1,x2,x3,x4,x5,x6⟩:=zc7 Ny;clear a z F D9 Ny;go_wp2_with (first|(refine ae gG rfl _ _ rfl rfl [.int .i64 42,.int .i64 K,.slice A j c,.int .i64 0,.int .u64 0,.int .i64 H,.int .i64 (-1)] rfl E rfl rfl rfl ?_;intro w9 x))
     obtain⟨u0,u1,u2,u3,u4,u5,u6⟩:=zc7 x.bk;refine zFg (v:=.agg #[.int .i64 42,K,.slice A j c,(),.int .u64 0,H,.int .i64 (-1)]) (by simp[results,results76,go_sem,u0,u1,u2,u3,u4,u5,u6]) rfl ?_;obtain rfl:=ab.out;have:=UX.node o.out U (by omega) Xh.out LX.out (by decide) a0.out x;exact⟨_,rfl,this.1,this.2⟩
   case neg=>
    as_aux_lemma=>
    have ak:((op:Int)==24)=false:=zB (by omega)
    have a:=J.out;rw[zF2 xU]at a;have z:=zH a;have E:=Yi.kr;have ax:=Q7.out;obtain⟨x0,x1,x2,x3,x4,x5,x6⟩:=zc7 ax;clear a J xU Q7 ax;go_wp2_with (first|(refine ae gG rfl _ _ rfl rfl [.int .i64 op,.int .i64 K,.slice A j c,.int .i64 0,.int .u64 0,.int .i64 H,.int .i64 (-1)] rfl E rfl rfl rfl ?_;intro w9 x))
    obtain⟨u0,u1,u2,u3,u4,u5,u6⟩:=zc7 x.bk;refine zFg (v:=.agg #[op,K,.slice A j c,(),.int .u64 0,H,.int .i64 (-1)]) (by simp[results,results76,go_sem,u0,u1,u2,u3,u4,u5,u6]) rfl ?_;obtain rfl:=z.out;have:=Yi.node o.out U (by omega) Xh.out LX.out (by decide) a0.out x;exact⟨_,rfl,this.1,this.2⟩
  case false=>
   have aw:S=dA s xk S2.toList:=by
    rw[<-UU.out,zF3];intro he;rw[he]at Iu;exact absurd Iu (by decide)
   have N:(S2.toList !=[84,73,77,69])=true:=N;obtain⟨b2⟩:Nonempty (Hid (S=dA s xk S2.toList)):=⟨zH aw⟩
   have b1:Hid (∀(W':World),Below w.heap.size w W'->Calls prog 73 #[.agg #[.slice s.ta s.types.length s.tc,.slice s.sa s.syms.length s.sc],xk,S2] W' λe w'=>e=.returned (.int .i64 S)/\Below W'.heap.size W' w'):=zH λW' h=>by rw[aw];exact al.out W' h
   have s0:w7.cell? ⟨b,0,none⟩=some (.slice s.ta s.types.length s.tc):=(HM.old Xi.bel).bk.cell 0;have s1:w7.cell? ⟨b,1,none⟩=some (.slice s.sa s.syms.length s.sc):=(HM.old Xi.bel).bk.cell 1;have y5:w7.cell? ⟨gi,5,none⟩=some (.int .i64 xk):=b3.cell 5;have x5:w7.cell? ⟨bx,5,none⟩=some (.string S2):=Xi.kx.cell 5;clear UU al aw b2;go_upto_region 23 with fail
   clear N Iu q5
   refine wx (λk => false) [.is (.pointer (some ⟨b, 0, none⟩)),
     .is (.pointer (some ⟨b,0,none⟩)),
     .is (.pointer (some ⟨b,0,none⟩)),
     .is (.agg #[.slice s.ta s.types.length s.tc,.slice s.sa s.syms.length s.sc]),
     .is (.pointer (some ⟨gi,5,none⟩)),
     .is (.int .i64 xk),
     .is (.pointer (some ⟨bx,5,none⟩)),
     .is (.string S2)] [3] (by kernel_rfl) (by kernel_rfl) (by kernel_rfl)
     (λC=>.c (px C rfl (λ_ _=>rfl)) <|
     .c (px C rfl (λ_ _=>rfl)) <|
     .c (px C rfl (λ_ _=>rfl)) <|
     .c (pz [2] [] (by kernel_rfl) λqK qa wr l Q D R=>?_) <|
     .c (px C rfl (λ_ _=>rfl)) <|
     .c (px C rfl (λ_ h=>bH (lD (bc h y5)))) <|
     .c (px C rfl (λ_ _=>rfl)) <|
     .c (px C rfl (λ_ h=>bH (I7 (bc h x5)))) <| .nil) ?_
   ·have b2:=aA D.1 rfl rfl;clear Q D;have D:=zE l s0;have b7:=zE l s1;go_simp;exact R _ _ zR rfl
   intro qx wr l a hS;clear a hS;simp only[bJ,zF0,zGb,zF1,zFp,zFd,zFh,zF4,Act.put,zFf,zFw,zFx];have D:=ap.old l;have Q:=Xi.old l;clear l s0 s1 y5 x5 ap Xi b3;have b4:=zH Q;have b2:=zH D;clear D Q HM;go_wp2_with fail
   refine(b1.out wr b4.bel).mono ?_;rintro r w8 ⟨rfl,b8⟩;have D:=b2.old b8;have Q:=b4.old b8;have f6:=D.frozen 6;have c6:w8.cell? ⟨f,6,none⟩=some (.int .i64 (-1)):=D.cell 6;have bb:Bk (w8.setCell ⟨f,6,none⟩ (.int .i64 S)) f 122 #[op,K,.slice A j c,(),.int .u64 0,H,S]:=D.put 6 _;have R:=Q.set Em I GM GN 6 (.int .i64 S);clear b1 b8 b4 b2 D Q;go_upto_region 24 with fail
   generalize w8.setCell ⟨f,6,none⟩ (.int .i64 S)=b1 at bb R⊢;clear f6 c6;have Yi:=zH R;have Q7:=zH bb;have Z:=R.kx.cell 0;clear R bb
   by_cases xU:op=24
   case pos=>
    have ak:((op:Int)==24)=true:=by rw[zFt];omega
    have a:=J.out;rw[zF3 xU]at a;have z:=zH a;have f0:=Q7.frozen 0;have c0:b1.cell? ⟨f,0,none⟩=some (.int .i64 op):=Q7.cell 0;have Ny:Bk (b1.setCell ⟨f,0,none⟩ (.int .i64 42)) f 122 #[.int .i64 42,K,.slice A j c,(),.int .u64 0,H,.int .i64 (S)]:=Q7.put 0 _;have D9:=Yi.set Em I GM GN 0 (.int .i64 42);clear a J xU Yi Q7;go_upto_region 26 with fail
    generalize b1.setCell ⟨f,0,none⟩ (.int .i64 42)=wa at Ny D9⊢;clear f0 c0 Z ak;have q4:=D9.kx.cell 4;have UX:=zH D9
    by_cases F:G.toList=AS.toList
    case pos=>
     as_aux_lemma=>
     have am:(G.toList==AS.toList)=true:=by rw[zFt];exact F
     have a:=z.out;rw[zF3 F]at a;have ab:=zH a;have f0:=Ny.frozen 0;have c0:wa.cell? ⟨f,0,none⟩=some (.int .i64 42):=Ny.cell 0;have Yj:Bk (wa.setCell ⟨f,0,none⟩ (.int .i64 41)) f 122 #[.int .i64 41,K,.slice A j c,(),.int .u64 0,H,.int .i64 (S)]:=Ny.put 0 _;have aq:=D9.set Em I GM GN 0 (.int .i64 41);have f5:=Yj.frozen 5;have c5:(wa.setCell ⟨f,0,none⟩ (.int .i64 41)).cell? ⟨f,5,none⟩=some (.int .i64 H):=Yj.cell 5;have ad:Bk ((wa.setCell ⟨f,0,none⟩ (.int .i64 41)).setCell ⟨f,5,none⟩ (.int .i64 0)) f 122 #[.int .i64 41,K,.slice A j c,(),.int .u64 0,(),.int .i64 (S)]:=Yj.put 5 _;have O:=aq.set Em I GM GN 5 (.int .i64 0);have av:=zH O;clear a z F D9 UX Ny aq Yj;go_upto_region 28 with fail
     generalize(wa.setCell ⟨f,0,none⟩ (.int .i64 41)).setCell ⟨f,5,none⟩ (.int .i64 0)=wc at ad O av⊢;clear f0 c0 f5 c5 q4 am;have E:=O.kr;obtain⟨x0,x1,x2,x3,x4,x5,x6⟩:=zc7 ad;clear ad O;go_wp2_with (first|(refine ae gG rfl _ _ rfl rfl [.int .i64 41,.int .i64 K,.slice A j c,.int .i64 0,.int .u64 0,.int .i64 0,.int .i64 (S)] rfl E rfl rfl rfl ?_;intro w9 x))
     obtain⟨u0,u1,u2,u3,u4,u5,u6⟩:=zc7 x.bk;refine zFg (v:=.agg #[.int .i64 41,K,.slice A j c,(),.int .u64 0,(),.int .i64 (S)]) (by simp[results,results76,go_sem,u0,u1,u2,u3,u4,u5,u6]) rfl ?_;obtain rfl:=ab.out;have:=av.node o.out U (by omega) Xh.out LX.out (by decide) a0.out x;exact⟨_,rfl,this.1,this.2⟩
    case neg=>
     as_aux_lemma=>
     have am:(G.toList==AS.toList)=false:=by rw[zFz];exact F
     have a:=z.out;rw[zF2 F]at a;have ab:=zH a;have E:=D9.kr;obtain⟨x0,x1,x2,x3,x4,x5,x6⟩:=zc7 Ny;clear a z F D9 Ny;go_wp2_with (first|(refine ae gG rfl _ _ rfl rfl [.int .i64 42,.int .i64 K,.slice A j c,.int .i64 0,.int .u64 0,.int .i64 H,.int .i64 (S)] rfl E rfl rfl rfl ?_;intro w9 x))
     obtain⟨u0,u1,u2,u3,u4,u5,u6⟩:=zc7 x.bk;refine zFg (v:=.agg #[.int .i64 42,K,.slice A j c,(),.int .u64 0,H,.int .i64 (S)]) (by simp[results,results76,go_sem,u0,u1,u2,u3,u4,u5,u6]) rfl ?_;obtain rfl:=ab.out;have:=UX.node o.out U (by omega) Xh.out LX.out (by decide) a0.out x;exact⟨_,rfl,this.1,this.2⟩
   case neg=>
    as_aux_lemma=>
    have ak:((op:Int)==24)=false:=zB (by omega)
    have a:=J.out;rw[zF2 xU]at a;have z:=zH a;have E:=Yi.kr;have ax:=Q7.out;obtain⟨x0,x1,x2,x3,x4,x5,x6⟩:=zc7 ax;clear a J xU Q7 ax;go_wp2_with (first|(refine ae gG rfl _ _ rfl rfl [.int .i64 op,.int .i64 K,.slice A j c,.int .i64 0,.int .u64 0,.int .i64 H,.int .i64 (S)] rfl E rfl rfl rfl ?_;intro w9 x))
    obtain⟨u0,u1,u2,u3,u4,u5,u6⟩:=zc7 x.bk;refine zFg (v:=.agg #[op,K,.slice A j c,(),.int .u64 0,H,.int .i64 (S)]) (by simp[results,results76,go_sem,u0,u1,u2,u3,u4,u5,u6]) rfl ?_;obtain rfl:=z.out;have:=Yi.node o.out U (by omega) Xh.out LX.out (by decide) a0.out x;exact⟨_,rfl,this.1,this.2⟩
def Q8:az->Prop
 |.leaf _ n sc _ _ _=>n<=9223372036854775807/\sc<=1000
 |.un _ x _=>Q8 x
 |.bin _ x y _=>Q8 x/\Q8 y
def JQ (s:ai) (m:MS):az->Prop
 |.leaf op n sc nm a p=>(eH s (.leaf op n sc nm a p) m).2=m
 |.un op x p=>(eH s (.un op x p) m).2=m/\JQ s m x
 |.bin op x y p=>(eH s (.bin op x y p) m).2=m/\JQ s m x/\JQ s m y
def opsE:az->Prop
 |.leaf ..=>True
 |.un op x _=>op≠23/\opsE x
 |.bin op x y _=>op≠23/\opsE x/\opsE y
def AU:az->Nat
 |.leaf ..=>1
 |.un _ x _=>AU x+1
 |.bin _ x y _=>max (AU x) (AU y)+1
theorem eG.upTo {S:Nat->Prop} {d a:Nat} {t:T} {cs:List Value} {w:World} (c:d<=a) (h:eG S d t cs w):eG S a t cs w:=by
 obtain⟨k,rfl⟩:=Nat.exists_eq_add_of_le c
 induction k with
 |zero=>exact h
 |succ k b=>exact(b (by omega)).up
theorem xR.upTo {d a:Nat} {t:T} {W:World} {r:Ending} {W':World} (f:d<=a):xR d t W r W'->xR a t W r W':=λ⟨cs,b,c,e⟩=>⟨cs,b,c.upTo f,e⟩
theorem iK.below {b B:Nat} {s:ai} {d:Value} {m:MS} {W W':World} (h:jR b B s d m W) (a:iK b B s d m W W'):Below W W W':=
 ⟨a.grown.os,a.grown.tape,a.grown.output,a.grown.size,λk e=>by
  by_cases c:k=b
  ·subst c;exact a.st.bk.trans h.bk.symm
  exact a.grown.block k e (aG c)⟩
theorem Yk {s:ai} {m:MS} {op:Nat} {b a:Str} {p:Nat} (d:m.err=0) (h:(nV s op b a p [] m).2=m):op=23->0<=fP b 0 (s.syms.map (·.toList)):=by
 intro c;subst c;unfold nV at h;rw[zF2 (by simp[d])]at h
 by_cases c:fP b 0 (s.syms.map (·.toList))<0
 ·simp only[reduceCtorEq,zF3 c,Nat.reduceEqDiff,↓reduceIte]at h;have:=zGv MS.err h;simp[dI,d]at this
 omega
theorem xW {P:Nat->Prop} (b B:Nat) (s:ai) (k:Value) (m:MS) (i:ByteArray) (f:b<B) (z:∀g,P g->g≠b) (F:m.err=0) (o:m.items.length<=1000):∀(e:az) (cs:List Value) (w:World),jR b B s k m w->mM P w e cs->Q8 e->JQ s m e->opsE e->
  Calls prog 76 #[.pointer (some ⟨b,0,none⟩),.agg cs.toArray,i] w (xR (AU e) (Pz s m i.toList e) w)
 |.leaf op n G H a p,cs,w,e,h,c,l,_=>by
  obtain rfl:cs=iF op n G H a p:=h
  have:=yU b B 0 s k m op n G p (bytes H) (bytes a) i none 0 0 [] (eH s (.leaf op n G H a p) m).1 rfl (by omega) w e o c.1 c.2 (by rw[aI];exact Yk F l) (λW d=>by
   refine(lM (P:=P) b B s k f z (.leaf op n G H a p) _ m W o (e.old d) rfl).mono ?_;rintro r w' ⟨rfl,t⟩;rw[l]at t
   exact⟨rfl,iK.below (e.old d) t⟩) (λj D=>absurd D (by simp))
  rw[aI,aI]at this;exact this
 |.un op x p,cs,w,e,h,c,l,A=>by
  obtain⟨g,xs,rfl,Y,v,E⟩:=id h;obtain⟨L,I,Q,O,J,N,M,rfl,K⟩:=E.seven
  have:=yU b B (AU x) s k m op 0 0 p ⟨#[]⟩ ⟨#[]⟩ i (some ⟨g,0,none⟩) 1 1 [Pz s m i.toList x] (eH s (.un op x p) m).1 rfl (by omega) w e o (by omega) (by omega) (λh=>by have:=A.1;omega) (λW d=>by
   refine(lM (P:=P) b B s k f z (.un op x p) _ m W o (e.old d) (h.old d)).mono ?_;rintro r w' ⟨rfl,t⟩;rw[l.1]at t
   exact⟨rfl,iK.below (e.old d) t⟩) (λj D=>by
   match j,D with
   |0,_=>exact⟨⟨g,L,I,Q,O,J,N,M,rfl,v.lt,λq u C=>by rw[v.cell];simpa using C,λW d=>xW b B s k m i f z F o x _ W (e.old d) (E.old d) c l.2 A.2⟩⟩)
  rw[show(⟨#[]⟩:ByteArray).toList=[] by rw[zFm]]at this;exact this
 |.bin op x y p,cs,w,e,h,c,l,A=>by
  obtain⟨g,xs,ys,rfl,Y,v,E,K⟩:=id h;obtain⟨S,Z,X,R,x4,x5,U,rfl,_⟩:=E.seven;obtain⟨L,I,Q,O,J,N,M,rfl,_⟩:=K.seven
  have:=yU b B (max (AU x) (AU y)) s k m op 0 0 p ⟨#[]⟩ ⟨#[]⟩ i (some ⟨g,0,none⟩) 2 2 [Pz s m i.toList x,Pz s m i.toList y] (eH s (.bin op x y p) m).1 rfl (by omega) w e o (by omega) (by omega) (λh=>by have:=A.1;omega) (λW d=>by
   refine(lM (P:=P) b B s k f z (.bin op x y p) _ m W o (e.old d) (h.old d)).mono ?_;rintro r w' ⟨rfl,t⟩;rw[l.1]at t
   exact⟨rfl,iK.below (e.old d) t⟩) (λj D=>by
   match j,D with
   | 0, _ => exact ⟨⟨g, S, Z, X, R, x4, x5, U, rfl, v.lt, λq u C => by
     rw[v.cell];have hq:q<7:=(zFc.1 C).1;rw[zF7]
     rw[zGh (by simp;omega),zHm,zFr,C],λW d=>(xW b B s k m i f z F o x _ W (e.old d) (E.old d) c.1 l.2.1 A.2.1).mono λ_ _=>xR.upTo (Nat.le_max_left _ _)⟩⟩
   | 1, _ => exact ⟨⟨g, L, I, Q, O, J, N, M, rfl, v.lt, λq u C => by
     rw[v.cell];rw[zF7];rw[zGd (by simp)]
     simpa using C,λW d=>(xW b B s k m i f z F o y _ W (e.old d) (K.old d) c.2 l.2.2 A.2.2).mono λ_ _=>xR.upTo (Nat.le_max_right _ _)⟩⟩)
  rw[show(⟨#[]⟩:ByteArray).toList=[] by rw[zFm]]at this;exact this
def LkW (w:World) (e:Ending) (w':World):Prop:=∃(q:Bool) (x:Int),e=.returned (.tuple #[.bool q,x])/\Below w w w'
theorem SG (d:Nat) (E:∀(S:Nat->Prop) (n:ah) (w:World),okS S d n w->Calls prog 49 #[.agg n.cells.toArray] w (LkW w))
  (S:Nat->Prop) (op kind:Int) (A:Option Addr) (c:Nat) (f:List ah) (vk:Int) (vb:Nat) (pos a:Int) (w:World) (h:okS S (d+1) (.mk op kind A c f vk vb pos a) w):
  Calls prog 49 #[.agg #[op,kind,.slice A f.length c,vk,.int .u64 vb,pos,a]] w (LkW w):=by
 have O:=zH E;have g:=Bk.new w 122 #[op,kind,.slice A f.length c,vk,.int .u64 vb,pos,a];have e:=ba w (.cells #[op,kind,.slice A f.length c,vk,.int .u64 vb,pos,a] 122);have p:=h.keep (dB.old e);clear E h
 go_enter func49,ntmps49
 go_upto_region 1 with fail
 generalize w.alloc (.cells #[op,kind,.slice A f.length c,vk,.int .u64 vb,pos,a] 122)=L at *;have H:=zH p;obtain⟨l,m⟩:=zN f.length
 have F:=zH m;rw[m]at g⊢;clear m p;have J:=zH e;have P:l<=1048576:=by rw[<-F.out];exact H.2.1
 have K:=e.size;clear e;have s:=g.cell 0;have G:=g.cell 2;have I:=g.cell 5;go_upto_region 2 with fail
 obtain⟨R,e⟩:=zN (op==41)
 rw[e];clear e
 go_cut[30] (λv wx=>∃q:Bool,v=.bool q/\wx=L)
 case first=>
  by_cases t: -1<pos
  ·by_cases e:op=42
   ·subst e;go_wp2_with fail
    go_meet
    exact⟨_,rfl,rfl⟩
   have m:(op==42)=false:=by rw[zFz];exact e
   by_cases r:25<=op
   ·by_cases p:op<=31
    ·go_wp2_with fail
     go_meet
     exact⟨_,rfl,rfl⟩
    go_wp2_with fail
    go_meet
    exact⟨_,rfl,rfl⟩
   go_wp2_with fail
   go_meet
   exact⟨_,rfl,rfl⟩
  by_cases e:op=42
  ·subst e;go_wp2_with fail
   go_meet
   exact⟨_,rfl,rfl⟩
  have m:(op==42)=false:=by rw[zFz];exact e
  by_cases r:25<=op
  ·by_cases p:op<=31
   ·go_wp2_with fail
    go_meet
    exact⟨_,rfl,rfl⟩
   go_wp2_with fail
   go_meet
   exact⟨_,rfl,rfl⟩
  go_wp2_with fail
  go_meet
  exact⟨_,rfl,rfl⟩
 case rest=>
 obtain⟨q,rfl,e⟩:=hcut;subst e;have B:=zH g;clear s G I g;have I:=B.cell 5;have G:=B.cell 2;cases q
 all_goals
  go_upto_region 5 with fail
  go_loopw[4,5,6,7,8,36] (λe g _ _ _ i wr=>∃(k:Nat) (y:Bool) (x:Int),k<=l/\e=.bool y/\g=.int .i64 x/\i=.int .i64 k/\Hid (Below wc wc wr)) (λ_ _ _ _ _ i _=>l-(intOf i).toNat)
  case atStart=>exact⟨0,_,_,zFj _,rfl,rfl,rfl,zH zR⟩
  case round=>
   obtain⟨k,y,x,U,rfl,rfl,rfl,m⟩:=hrel;obtain⟨t,rfl⟩:∃z:World,z=wr:=⟨_,rfl⟩
   by_cases p:k<l
   ·have g:k<f.length:=by rw[F.out];exact p
    have r:=H.keep (dB.old m.out)
    obtain⟨b,o,M,hb,C⟩:∃b o,A=some ⟨b,o,none⟩/\b<t.heap.size/\∀(j:Nat) (u:Value),f[k].cells[j]? =some u->t.cell? ⟨b,o+k*7+j,none⟩=some u:=by
     rcases r.1 with s|⟨b,o,z,Q,D,N⟩
     ·have:=jl (n:=7) ah.cells f λx _=>x.len
      rw[s]at this;simp at this;omega
     exact⟨b,o,z,D,λj u e=>by
      rw[zJb]
      exact N _ _ (by rw[jd (n:=7) ah.cells f (λx _=>x.len) k j g (by have:=(zFc.1 e).1;rwa [ah.len]at this)];exact e)⟩
    subst M;have D:=zH (O.out _ f[k] t (r.2.2.2 _ (zFe g)));obtain⟨cs,e⟩:=zN (f[k].cells)
    rw[e]at C D;have z:cs.length=7:=by rw[<-e];exact ah.len _
    clear e r;have Q:t.cell? ⟨w.heap.size,2,none⟩=some (.slice (some ⟨b,o,none⟩) l c):=(B.old m.out).cell 2;go_wp2_with (refine aj dR rfl _ rfl rfl cs z C ?_)
    refine D.mono ?_;rintro e w2 ⟨N,M,rfl,s⟩;have r:=zH s;clear s C D Q;cases y
    ·go_wp2_with fail
     go_roundw
     case rel=>exact⟨k+1,_,_,p,rfl,rfl,by go_num,zH (m.trans (r.mono m.size))⟩
     case measure=>simp[intOf];omega
    go_wp2_with fail
    go_roundw
    case rel=>exact⟨k+1,_,_,p,rfl,rfl,by go_num,zH (m.trans (r.mono m.size))⟩
    case measure=>simp[intOf];omega
   obtain rfl:l=k:=by omega
   go_wp2_with fail
   go_ret2
   exact⟨_,_,rfl,J.trans (m.mono J.size)⟩
theorem WH:∀(d:Nat) (S:Nat->Prop) (n:ah) (w:World),okS S d n w->Calls prog 49 #[.agg n.cells.toArray] w (LkW w)
 |0,_,_,_,h=>h.elim
 |d+1,S,.mk op kind A c b vk vb pos a,w,h=>SG d (WH d) S op kind A c b vk vb pos a w h
end Go.Proofs.YtbjnhllkdilpfaaGreat
