/- Part 49 of the proof. No conditions. -/
import Derived.Test.YtbjnhllkdilpfaaGreatZf44
import Derived.Test.YtbjnhllkdilpfaaGreatZf45
import Derived.Test.YtbjnhllkdilpfaaGreatZf34
import Derived.Test.YtbjnhllkdilpfaaGreatZf46
import Derived.Test.YtbjnhllkdilpfaaGreatZf48
set_option linter.unusedVariables false
set_option linter.unusedSimpArgs false
set_option maxRecDepth 100000
set_option maxHeartbeats 16000000
namespace Go.Proofs.YtbjnhllkdilpfaaGreat
open Go.RowKit _root_.Go.Proofs.Tryz
def wU:az->Bool
 |.leaf _ n _ _ _ _=>decide (n<=9223372036854775807)
 |.un _ x _=>wU x
 |.bin _ x y _=>wU x&&wU y
theorem uN:∀e:az,wU e=true->gm e
 |.leaf _ n _ _ _ _,h=>by
  show n<=_
  simpa[wU]using h
 |.un _ x _,h=>uN x h
 |.bin _ x y _,h=>by
  simp only[wU,zFn]at h;exact⟨uN x h.1,uN y h.2⟩
def qbB (q:di):Bool:=q.cond.all wU&&(decide (q.branches.length<=1000)&&(decide (q.cond.length<=100000)&&(decide (q.aS<=1000)&&(decide (q.window<=9223372036854775807)&&(q.branches.all (λl=>decide (l.length<=1000))&&decide (iJ q<=1000000))))))
theorem zEy {q:di} (h:qbB q=true):QB q:=by
 unfold qbB at h;simp only[zFn,zF9,zGu]at h;exact⟨λe a=>uN e (h.1 e a),h.2.1,h.2.2.1,h.2.2.2.1,h.2.2.2.2.1,h.2.2.2.2.2.1,h.2.2.2.2.2.2⟩
def Bc:Str:=[80,65,84,84,69,82,78,32,83,69,81,40,65,32,97,44,32,33,67,32,110,44,32,66,43,32,98,44,32,33,67,32,109,41,32,87,72,69,82,69,32,67,79,85,78,84,40,98,41,32,62,32,49,32,83,84,82,65,84,69,71,89,32,65,78,89,32,87,73,84,72,73,78,32,57]
theorem qb14:qbB (jK Bc).1=true:=by decide+kernel
theorem ok14 (h:Nat):(jH (jm h) Bc).2=true:=by kernel_rfl
theorem st14 (h:Nat):(jH (jm h) Bc).1.aS=3:=by kernel_rfl
theorem rowI {w:World} {B:Nat} {v:Value} {ks:List Int} (h:w.ownsRow B 3 1 v ks.length (dw ks)) (e:ks.length<=1000000000000):Sl gK (λ_=>True) ks v w:=by
 obtain⟨A,c,rfl,_⟩:=aK h
 have d:∀l:List Int,(l.map λk=>(k,[Value.int .i64 k])).flatMap Prod.snd=dw l:=λl=>by
  induction l with
  |nil=>rfl
  |cons k l a=>rw[zGq,zGx,a];rfl
 exact⟨A,c,rfl,e,ks.map λk=>(k,[.int .i64 k]),by rw[zHh];exact zLc _,by rw[d];exact(gX h).keep λb _ a=>⟨trivial,a,rfl⟩,λp a=>by obtain⟨k,_,rfl⟩:=zGa.1 a;rfl⟩
def plK (t:qg):Bool:=decide (t.keys.length<=1000000000000)&&(decide (t.branches.length<=1000000000000)&&t.branches.all λb=>decide (b.ps.length<=1000000000000)&&b.ps.all λp=>decide (p.gs.length<=1048576)&&decide (p.cs.length<=1048576))
theorem iV.row {D B:Nat} {t:qg} {v:Value} {W:World} (h:iV D B t v W) (hb:plK t=true):∃cs:List Value,v=.agg cs.toArray/\dO D (λ_=>True) t.aS t.keys t.branches cs W:=by
 obtain⟨L,bv,bs,o,H,n,u⟩:=h;unfold plK at hb;simp only[zFn,zF9,zGu]at hb;have r:bs.length=t.branches.length:=by rw[<-u];simp
 have e:∀b∈bs,fJ D b∈t.branches:=λb d=>by rw[<-u];exact zGa.2 ⟨b,d,rfl⟩
 have F:=n.dJ;obtain⟨J,G,rfl,_⟩:=aK F;refine⟨[_,_,_],o,_,_,rfl,rowI H hb.1,J,G,by rw[r],hb.2.1,bs.map λb=>(fJ D b,b.cells),by rw[zHh,<-u];rfl,?_,λq s=>?_⟩
 ·rw[zHw];exact(gX F).keep λb _ a=>⟨trivial,a,rfl⟩
 obtain⟨b,d,rfl⟩:=zGa.1 s;have f:=n.prt b d;obtain⟨E,x,j,_⟩:=aK f;rw[j]at f
 have w:b.ps.length<=1000000000000:=by
  have:=(hb.2.2 _ (e b d)).1
  simpa[fJ]using this
 refine⟨b.parts,rfl,E,x,by rw[j];show _=Value.slice E (b.ps.map (partT D)).length x;rw[zF5],by show(b.ps.map (partT D)).length<=_;rw[zF5];exact w,b.ps.map λp=>(partT D p,p.cells),by rw[zHh];rfl,?_,λq s=>?_⟩
 ·rw[zHw];exact(gX f).keep λb _ a=>⟨trivial,a,rfl⟩
 obtain⟨p,k,rfl⟩:=zGa.1 s;have C:=(hb.2.2 _ (e b d)).2 (partT D p) (zGa.2 ⟨p,k,rfl⟩);have m:∀z∈dQ p,z∈bI bs:=λz m=>zGn.2 ⟨b,d,zGn.2 ⟨p,k,m⟩⟩
 have i:∀z∈dQ p,z.2.length<=1048576->Nd D (λ_=>True) (z.2.map (eP D)) z.1 W:=λz l K=>by
  have f:=n.mO z (m z l);obtain⟨A,c,o,_⟩:=aK f;rw[o]at f;exact⟨A,c,z.2,o,(gX f).keep λb _ a=>⟨trivial,a,rfl⟩,λy I=>(n.kids z (m z l) y I).keep λb _ a=>⟨trivial,a,rfl⟩,rfl,K⟩
 exact⟨p.g,p.c,rfl,i (p.g,p.gs) (by simp[dQ]) (by simpa[partT]using C.1),i (p.c,p.cs) (by simp[dQ]) (by simpa[partT]using C.2)⟩
def Oy (l:List fQ):List (Int×Int×Bool×Int×Nat×List (Int×Nat×Nat)):=l.map λs=>(s.parent,s.type,s.many,s.window,s.bars.length,s.ends.map λe=>(e.branch,e.cs.length,e.bars.length))
theorem pk14 (h:Nat):plK (jH (jm h) Bc).1=true:=by kernel_rfl
theorem sk14 (h:Nat):Oy (gU 3 (jH (jm h) Bc).1.keys (jH (jm h) Bc).1.branches).1.states=[(-1,0,false,9,0,[]),(0,1,true,9,1,[(0,1,1)])]:=by kernel_rfl
theorem ek14 (h:Nat):(gU 3 (jH (jm h) Bc).1.keys (jH (jm h) Bc).1.branches).2=0:=by kernel_rfl
theorem gk14 (h:Nat):(gU 3 (jH (jm h) Bc).1.keys (jH (jm h) Bc).1.branches).1.aS=3:=by kernel_rfl
theorem zEz {l:List fQ} (h:Oy l=[(-1,0,false,9,0,[]),(0,1,true,9,1,[(0,1,1)])]):∃b a e,l=[b,a]/\a.parent=0/\a.bars.length=1/\a.ends=[e]/\e.cs.length=1/\e.bars.length=1/\VX 3 l:=by
 unfold Oy at h;have k:l.length=2:=by simpa using zGv List.length h
 obtain⟨b,a,rfl⟩:∃b a,l=[b,a]:=by
  match l,k with
  |[x,y],_=>exact⟨x,y,rfl⟩
 simp only[zGq,zHc,zK1,and_true,Prod.mk.injEq,List.map_eq_nil_iff]at h;obtain⟨⟨t,w,s,v,q,o⟩,b1,b2,r,u,n,f⟩:=h
 obtain⟨e,c⟩:∃e,a.ends=[e]:=by
  have d:a.ends.length=1:=by simpa using zGv List.length f
  match g:a.ends,d with
  |[x],_=>exact⟨x,rfl⟩
 rw[c]at f;simp only[zGq,zHc,zK1,and_true,Prod.mk.injEq]at f;refine⟨b,a,e,rfl,b1,n,c,f.2.1,f.2.2,by decide,by simp,λi p=>?_⟩
 match i,p with
 | 0, _ => exact ⟨by show -1 ≤ b.parent ∧ b.parent < 0; omega, by show 0 ≤ b.type; omega, by show 0 ≤ b.window ∧ b.window ≤ _; omega, λj d => by
   have d:j<b.ends.length:=d;rw[o]at d
   cases d⟩
 | 1, _ => exact ⟨by show -1 ≤ a.parent ∧ a.parent < 1; omega, by show 0 ≤ a.type; omega, by show 0 ≤ a.window ∧ a.window ≤ _; omega, λj d => by
   have m:j<a.ends.length:=d
   have:∀x∈a.ends,0<=x.branch:=λx g=>by
    rw[c]at g;simp only[zF6,zGi,zHt]at g;subst g;omega
   exact this _ (zFe m)⟩
theorem nO (w:World):Calls prog 6 #[] w (Yes w):=by
 have c:Hid (∀W:World,Calls prog 17 #[] W λr w'=>r=.returned (.agg #[.slice (jm W.heap.size).ta 3 (jm W.heap.size).tc,.slice (jm W.heap.size).sa 1 (jm W.heap.size).sc])/\(jm W.heap.size).ok w' w'.heap.size/\Below W W w'):=zH λW=>VS W
 go_enter func6,ntmps6
 go_wp2_with fail
 refine(c.out w).mono ?_;rintro r w1 ⟨rfl,a,b⟩;obtain⟨h,o⟩:=zN w.heap.size
 rw[o]at a;have p:=zH (Dv 200 zL (jm h) ⟨Bc.toArray⟩ w1 a (λ_=>zEy (by rw[zFm];exact qb14)));rw[zFm]at p;have j:=zH b;have u:=zH o;clear a b c;rw[o];go_wp2_with fail
 refine p.mono ?_;rintro r w2 ⟨pv,rfl,b,n⟩;have e:=ok14 h;have m:=st14 h;obtain⟨cs,J,c⟩:=b.row (pk14 h);rw[m]at c;have g:=sk14 h;have f:=ek14 h;have a:=gk14 h;obtain⟨⟨t,QX⟩,s⟩:∃z,jH (jm h) Bc=z:=⟨_,rfl⟩
 rw[s]at e g f a b c⊢;simp only at e g f a b c⊢;subst e J;obtain⟨kv,bv,rfl,q,hb⟩:=c;obtain⟨L,I,rfl⟩:=q.form;obtain⟨M,K,rfl⟩:=hb.form;have l:=zH (j.trans (n.mono j.size));have e:=zH (zA g (zA f a));have c:=zH (zA q hb);clear q hb n b p j u g f a m s o;go_upto_region 2 with(refine ae aP rfl _ _ rfl rfl [.int .i64 (3:Nat),.slice L t.keys.length I,.slice M t.branches.length K] rfl (Bk.new _ _ _) rfl rfl rfl ?_;intro w3 f;go_frame)
 have a:Below w2 w2 w3:=f.below _ _ (ba _ _) zL;have j:=zH (l.trans (a.mono l.size));have b:=Ov (d:=200) (S:=λ_=>True) (ax:=3) (ks:=t.keys) (bs:=t.branches) (cs:=[.int .i64 3,.slice L t.keys.length I,.slice M t.branches.length K]) (w:=w3) ⟨_,_,rfl,c.1.keep (.old a),c.2.keep (.old a)⟩;rw[e.2.1,e.2.2]at b;have P:=zH b;have YT:=zH f.bk;clear f a b c l;go_wp2_with (refine aV aP eF rfl (.tmp 1) rfl rfl [.int .i64 3,.slice L t.keys.length I,.slice M t.branches.length K] rfl (λi v J=>by rw[zFr,YT.cell i];simpa using J) ?_)
 refine P.mono ?_;rintro r b ⟨a4,rfl,c,N⟩;obtain⟨s0,q,U,hl,f1,f2,u,f4,f5,m⟩:=zEz e.1;rw[hl]at c m;obtain⟨En,a5,rfl,a,AS,H,rfl,B,p⟩:=c;obtain⟨A,D,rfl⟩:=a.form;obtain⟨c,f,a3,rfl,_,x,l,g⟩:=p.elem (k:=1) (by simp);obtain⟨v4,v5,v6,v7,rfl,i4,_,_,A7,c7,rfl,_,Z⟩:=l;obtain⟨G,F,a6,rfl,_,O,n,l⟩:=Z.elem (k:=0) (by show 0<q.ends.length;rw[u];simp);obtain⟨u1,u2,rfl,j1,X⟩:=n;obtain⟨B4,Y,rfl⟩:=i4.form;obtain⟨B1,d1,rfl⟩:=j1.form;obtain⟨B2,d2,rfl⟩:=X.form
 have E8:b.cell? ⟨c,f+8,none⟩=some (.int .i64 0):=by
  have h:b.cell? ⟨c,f+8,none⟩=some (.int .i64 q.parent):=g 0 _ rfl
  rwa [f1]at h
 have C:b.cell? ⟨c,f+8+4,none⟩=some (.slice B4 1 Y):=by
  have h:b.cell? ⟨c,f+8+4,none⟩=some (.slice B4 q.bars.length Y):=g 4 _ rfl
  rwa [f2]at h
 have E:b.cell? ⟨c,f+8+7,none⟩=some (.slice (some ⟨G,F,none⟩) 1 c7):=by
  have h:b.cell? ⟨c,f+8+7,none⟩=some (.slice (some ⟨G,F,none⟩) q.ends.length c7):=g 7 _ rfl
  rwa [u]at h
 obtain⟨e2,n⟩:∃z,([s0,q][1]).ends[0]'(by show 0<q.ends.length;rw[u];simp)=z:=⟨_,rfl⟩
 have o:e2=U:=by
  rw[<-n];have:q.ends[0]'(by rw[u];simp)=U:=by simp[u]
  exact this
 subst o
 have F1:b.cell? ⟨G,F+1,none⟩=some (.slice B1 1 d1):=by
  have h:=l 1 _ rfl;rw[n,f4,zHm,Nat.add_zero]at h;exact h
 have F2:b.cell? ⟨G,F+2,none⟩=some (.slice B2 1 d2):=by
  have h:=l 2 _ rfl;rw[n,f5,zHm,Nat.add_zero]at h;exact h
 have s:=zH (j.trans (N.mono j.size));obtain⟨Q,z⟩:=zN ((gU 3 t.keys t.branches).fst.keys)
 rw[z]at a⊢;obtain⟨nk,o⟩:=zN Q.length
 have R:Hid (∀W,Below b b W->Calls prog 13 #[.agg #[.int .i64 3,.slice A nk D,.slice (some ⟨c,f,none⟩) 2 H]] W (Yes W)):=zH λW hW=>by
  have y:=a.keep (.old hW);rw[<-o];exact zAe (ks:=Q) (cs:=[_,_,_]) ⟨_,_,rfl,y,some ⟨c,f,none⟩,H,rfl,by simp,p.old hW⟩ m
 rw[o];have y:c<b.heap.size:=x;clear a p i4 Z j1 X g l m B z o e P j;go_wp2_with (first|(refine ae gZ rfl _ _ rfl rfl [.int .i64 3,.slice A nk D,.slice (some ⟨c,f,none⟩) 2 H] rfl (Bk.new b _ _) rfl rfl rfl ?_;intro P l;refine Hid.out ?_))
 refine zH ?_;have a:Below b b P:=l.below _ _ (ba _ _) zL;obtain⟨o,z,p⟩:=zc3 l.bk;simp only[zF7,zGe,zGg]at o z p;have X:=bc a E8;have m:=bc a C;have j:=bc a E;have H1:=bc a F1;have Z:=bc a F2;have g:=zH (R.out P a);have B:=zH (s.trans (a.mono s.size));obtain⟨g4,e⟩:=zN b.heap.size
 rw[e]at o z p⊢;clear l a E8 C E F1 F2 x O y e R s;go_wp2_with fail
 refine g.mono ?_;rintro r l ⟨rfl,a⟩;have e:=zH (B.trans (a.mono B.size));clear a g B o z p X m j H1 Z;go_wp2_with fail
 go_ret
 exact⟨rfl,e.out⟩
def TkB (t:aC):Prop:=t.n<=9223372036854775807
theorem Sv:(0:Nat)<=9223372036854775807:=zFj _
theorem Qi:∀(l:Str) (n:Nat),iM n l+23<=(n+23)*10^l.length
 |[],n=>by show n+23<=(n+23)*1;omega
 |c::r,n=>by
  have a:=Qi r (10*n+(c.toNat-48));have e:c.toNat<256:=c.toNat_lt;have b:10*n+(c.toNat-48)+23<=(n+23)*10:=by omega
  have d:=zJq (10^r.length) b;rw[zFh,Nat.pow_succ,zLi (10^r.length) 10,<-zJf];exact zFi a d
theorem zC7 (l:Str):TkB (su l).1:=by
 unfold su TkB
 (repeat' split)<;>try(exact Sv)
 ·unfold ED;simp only
  (repeat' split)<;>exact Sv
 ·unfold numberT;simp only
  split
  ·exact Sv
  rename_i b
  split
  ·split
   ·assumption
   exact Sv
  rename_i l c r _ _ d
  simp only[not_or,not_and,Nat.not_lt]at b
  have a:(List.take (eX false (c::r)) (c::r)++List.take (vz (c::r) (eX false (c::r))) (List.drop (eX false (c::r)+1) (c::r))).length<=15:=by
   have:=b.2.2 (by omega);rw[zFu,zG9,zG9];omega
  have e:=Qi (List.take (eX false (c::r)) (c::r)++List.take (vz (c::r) (eX false (c::r))) (List.drop (eX false (c::r)+1) (c::r))) 0;have f:=zJr (n:=10) (by decide) a
  show iM 0 _<=_
  omega
 unfold Qv;simp only
 split<;>exact Sv
theorem Lj (s:Str):∀(f p:Nat) (b:List aC),(∀t∈b,TkB t)->∀t∈(pO s f p b).1,TkB t
 |0,p,b,h,t,a=>by simp[pO]at a
 |f+1,p,b,h,t,a=>by
  rw[vU s f p _ b rfl]at a
  split at a
  ·rcases zFy.1 a with a|a
   ·exact h t a
   rw[zG3.1 a];exact Sv
  split at a
  ·cases a
  refine Lj s f _ _ (λu c=>?_) t a;rcases zFy.1 c with c|c
  ·exact h u c
  rw[zG3.1 c];exact zC7 _
theorem Wp (s:Str):∀t∈(jW s).1,TkB t:=by
 unfold jW
 split
 ·intro t a;cases a
 exact Lj s _ 0 [] λt a=>absurd a (by simp)
theorem Wq {L:List aC} (c:PS->az×PS) (d:∀s,gm (c s).1) (a:Nat):∀(k:Nat) (x:az) (s:PS),gm x->gm (rQ L c a k x s).1
 |0,x,s,b=>b
 |k+1,x,s,b=>by
  rw[Ce]
  (repeat' split)
  ·exact b
  ·exact b
  ·exact⟨b,d _⟩
  exact Wq c d a k _ _ ⟨b,d _⟩
theorem OD:∀e:az,gm e->∀x∈jB e,gm x
 |.leaf _ _ _ _ _ _,hb,x,c=>by rw[zG3.1 c];exact hb
 |.un _ _ _,hb,x,c=>by rw[zG3.1 c];exact hb
 |.bin op a b p,hb,x,c=>by
  unfold jB at c
  split at c
  ·rcases zFy.1 c with c|c
   ·exact OD a hb.1 x c
   exact OD b hb.2 x c
  rw[zG3.1 c];exact hb
section
variable {L:List aC} (h:∀t∈L,TkB t)
include h
theorem Ig (s:PS):(bC L s).n<=9223372036854775807:=by
 unfold bC;rw[zGy];rcases hx:L[s.i]? with _|t
 ·exact Sv
 exact h t (zGj hx)
theorem zC8 (a:PS->az×PS) (b:∀s,gm (a s).1) (s:PS):gm (pR L a s).1:=by
 unfold pR;simp only
 split
 ·exact Ig h s
 split
 ·exact Ig h s
 split
 ·exact Sv
 split
 ·exact Sv
 split
 ·exact b _
 split
 ·show(if fD L s EE=true then 1 else 0)<=9223372036854775807
  split<;>decide
 split
 ·exact b _
 unfold fA;exact Sv
theorem uQ:∀(f a:Nat) (s:PS),gm (aW L f a s).1
 |0,_,_=>zFj _
 |f+1,a,s=>by
  rw[yN]
  (repeat' split)
  ·exact Sv
  ·unfold sN
   (repeat' split)
   ·exact uQ f _ _
   exact uQ f _ _
  ·exact zC8 h _ (uQ f 1) s
  exact Wq _ (uQ f _) a _ _ _ (uQ f _ _)
theorem Y2 (s:PS):∀e∈(ig L s).1,gm e:=by
 unfold ig
 split
 ·intro e a;cases a
 simp only
 split
 ·intro e a;cases a
 refine OD _ ?_;unfold mV;simp only
 split
 ·exact Sv
 exact uQ h _ _ _
theorem zC9 (s:PS):(mW L s).1.2.1<=9223372036854775807:=by
 rw[xN];unfold tailE
 split
 ·exact Sv
 split
 ·exact Ig h _
 exact Ig h _
end
theorem Ll (L:List aC):∀(l:List Str) (i:Nat) (r:Nat×PS),r.1<=i+l.length->(gB L i l r).1<=i+l.length
 |[],i,r,h=>h
 |w::l,i,(a,s),h=>by
  rw[CE,zFh,show i+(l.length+1)=i+1+l.length by omega];refine Ll L l (i+1) _ ?_
  split
  ·show i+1<=_;omega
  simp only[zFh]at h;show a<=_;omega
theorem Y3 (L:List aC) (s:PS):(mW L s).1.1<=3:=by
 have h:=Ll L oV 0 (0,aQ L jh s) (zFj _);rw[xN];unfold tailE
 (repeat' split)<;>exact h
theorem F7 (L:List aC):∀(k:Nat) (l:List bn) (s:PS),l.length<=8->(oW L k l s).1.length<=9
 |0,l,s,h=>zLa h
 |k+1,l,s,h=>by
  rw[uz]
  split
  ·exact zLa h
  split
  ·show(l++[_]).length<=9
   simp;omega
  rename_i a
  refine F7 L k _ _ ?_;simp only[zFu,zFh,zF4]
  by_cases b:l.length=8
  ·rw[b]at a;exact absurd (E5 L s) λh=>a (.inl h)
  omega
theorem DR (L:List aC) (a:Nat) (s:PS):(dY L a s).1.length<=9:=by
 rw[qJ];exact F7 L _ [] _ (by simp)
theorem DT (L:List aC):∀(k:Nat) (b:List (List bn)) (s:PS),(b.length<=4\/b.length=5/\s.err≠0)->(∀l∈b,l.length<=9)->(ji L k b s).1.length<=5/\∀l∈(ji L k b s).1,l.length<=9
 |0,b,s,e,c=>⟨by show b.length<=5;omega,c⟩
 |k+1,b,s,e,c=>by
  rw[qP]
  split
  ·exact⟨by show b.length<=5;omega,c⟩
  rename_i f
  have g:b.length<=4:=e.resolve_right λh=>f (.inl h.2)
  refine DT L k _ _ ?_ λl a=>?_
  ·by_cases d:b.length=4
   ·refine .inr ⟨by simp[d],?_⟩;rw[d];exact Ad L _
   left;simp;omega
  rcases zFy.1 a with a|a
  ·exact c l a
  rw[zG3.1 a];exact DR L _ _
theorem DU:∀(l:List az) (i:Nat),l.length<=aX i l
 |[],_=>zFj _
 |x::l,i=>by
  have:=DU l (i+1);have a:1<=aF x:=by cases x<;>simp[aF]<;>omega
  unfold aX;rw[zFh];omega
theorem Sz {bs:List (List bn)} {b:List az} {q:Nat×Nat×Str×Nat} {s:PS} (a:(y8 bs b q s).2.2=0):(y8 bs b q s).1=⟨bs,b,q.1,q.2.1,q.2.2.1,q.2.2.2⟩/\aX 0 b<=200:=by
 unfold y8 at a⊢
 by_cases c:s.err≠0
 ·rw[zF3 c]at a;exact absurd a c
 rw[zF2 c]at a⊢
 by_cases d:200<iJ ⟨bs,b,q.1,q.2.1,q.2.2.1,q.2.2.2⟩
 ·rw[zF3 d]at a;cases a
 rw[zF2 d];exact⟨rfl,Nat.le_of_not_lt d⟩
theorem Ws (L:List aC) (d:∀t∈L,TkB t) (b:(BI L).2.2=0):QB (BI L).1:=by
 rw[FC]at b⊢;obtain⟨e,h⟩:=Sz b;rw[e];have hb:(xY L).1.length<=5/\∀l∈(xY L).1,l.length<=9:=DT L (L.length+1) [(dY L 0 (aQ L l7 ⟨0,0,0,0⟩)).1] (dY L 0 (aQ L l7 ⟨0,0,0,0⟩)).2 (.inl (by simp)) λl c=>by rw[zG3.1 c];exact DR L _ _
 have f:=Y2 d (xY L).2;have i:=Y3 L (ig L (xY L).2).2;have g:=zC9 d (ig L (xY L).2).2;clear e b;generalize(xY L).1=bs at *;generalize(mW L (ig L (xY L).2).2).1=q at *;generalize(ig L (xY L).2).1=a at *;have e:=DU a 0;exact⟨f,by show bs.length<=1000;omega,by show a.length<=100000;omega,by show q.1<=1000;omega,g,λl c=>by have:=hb.2 l c;omega,by show aX 0 a<=1000000;omega⟩
theorem Wu (b:Str) (a:(jK b).2.2=0):QB (jK b).1:=by
 unfold jK at a⊢;simp only at a⊢
 by_cases c:(jW b).2.2≠0
 ·rw[zF3 c]at a;exact absurd a c
 rw[zF2 c]at a⊢;exact Ws _ (Wp b) a
theorem zAm {d N:Nat} {S:Nat->Prop} {ax:Int} {ks:List Int} {bs:List dL} {cs:List Value} {w:World} (h:dO d S ax ks bs cs w) (F:qy N bs) (r:17*N<=1048576):Calls prog 7 #[.int .i64 5,.agg cs.toArray] w (Ol d (17*N) ax ks w):=by
 have e:=h;obtain⟨kv,bv,rfl,a,hb⟩:=h;obtain⟨l,k,rfl⟩:=a.form;obtain⟨m,f,rfl⟩:=hb.form;clear a hb
 go_enter func7,ntmps7
 go_upto_region 1 with fail
 have n:=(Bk.new w 29 #[ax,.slice l ks.length k,.slice m bs.length f]).alloc (.cells #[(),"",""] 29);have c:=Bk.newAt (w:=w.alloc (.cells #[ax,.slice l ks.length k,.slice m bs.length f] 29)) (g:=w.heap.size+1) (by simp) 29 #[(),"",""];have a:=bel2 w (.cells #[ax,.slice l ks.length k,.slice m bs.length f] 29) (.cells #[(),"",""] 29);generalize(w.alloc (.cells #[ax,.slice l ks.length k,.slice m bs.length f] 29)).alloc (.cells #[(),"",""] 29)=w0 at *;have I:=zH (WA (e.old a) F (by omega));have Tm:=c.lt;have x:=zH (zA a c);clear e F a c;go_wp2_with (refine aV aP eF rfl (.tmp 3) rfl rfl [.int .i64 ax,.slice l ks.length k,.slice m bs.length f] rfl (λj u hu=>by rw[zFr,n.cell j];simpa using hu) ?_)
 refine I.mono ?_;rintro e w1 ⟨J,zh,rfl,a,c,i⟩;have p:=zH (zA (zE2 a c r) i);clear a c i n;go_wp2_with fail
 refine p.1.mono ?_;rintro e w2 ⟨Q,FH,rfl,a,c,i⟩;have o:=zH (zA (zDj a c r) i);clear a c i;go_wp2_with fail
 refine o.1.mono ?_;rintro e w3 ⟨H,R,rfl,i,c,a⟩;have q:=zH (zA (zE0 i c r) a);clear i c a;go_wp2_with fail
 refine q.1.mono ?_;rintro e w4 ⟨K,a,rfl,c,t,s⟩;obtain⟨En,Y,rfl,i,A⟩:=c;obtain⟨E,z,rfl⟩:=i.form;obtain⟨C,D,rfl⟩:=A.form;have O:=q.2.trans (s.mono q.2.size);have Z:=o.2.trans (O.mono o.2.size);have B:=p.2.trans (Z.mono p.2.size);have U:=x.2.old B;have X:=p.2.size;have M:=o.2.size;have W:=q.2.size;go_wp2_with (refine ae aP rfl _ _ rfl rfl [.int .i64 ax,.slice E ks.length z,.slice C a.length D] rfl U rfl rfl rfl ?_;intro V n)
 obtain⟨P,G,L⟩:=zc3 n.bk;have y:=x.1.trans (B.mono x.1.size);exact zFg (v:=.agg #[ax,.slice E ks.length z,.slice C a.length D]) (by simp[results,results7,go_sem,P,G,L]) rfl ⟨[_,_,_],a,rfl,⟨_,_,rfl,(i.keep (dB.fE n λb hb=>by omega)).keep λb hb c=>⟨by omega,c,rfl⟩,(A.keep (dB.fE n λb hb=>by omega)).keep λb hb c=>⟨by omega,c,rfl⟩⟩,t,n.below _ _ y (by omega)⟩
end Go.Proofs.YtbjnhllkdilpfaaGreat
