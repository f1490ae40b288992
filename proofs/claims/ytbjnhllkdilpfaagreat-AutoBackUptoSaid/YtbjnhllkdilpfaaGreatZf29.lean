/- Part 29 of the proof. No conditions. -/
import Derived.Test.YtbjnhllkdilpfaaGreatZf28
import Derived.Test.YtbjnhllkdilpfaaGreatZf26
set_option linter.unusedVariables false
set_option linter.unusedSimpArgs false
set_option maxRecDepth 100000
set_option maxHeartbeats 16000000
namespace Go.Proofs.YtbjnhllkdilpfaaGreat
open Go.RowKit _root_.Go.Proofs.Tryz
def Bv (x:bn):Nat:=(if x.form=3 then 1 else 0)+x.type.length+(if x.form=2 then 1 else 0)+1+x.name.length
def Dc:Nat->List bn->Nat
 |_,[]=>0
 |i,x::l=>(if 0<i then 2 else 0)+Bv x+Dc (i+1) l
def kX (l:List bn):Nat:=4+Dc 0 l+1
def GZ (l:List bn):Prop:=∀x∈l,x.type.length<=24/\x.name.length<=24
theorem G5:∀(l:List bn) (i:Nat),GZ l->Dc i l<=60*l.length
 |[],i,_=>zFv _
 |x::l,i,h=>by
  have b:=h x (by simp);have d:=G5 l (i+1) λy a=>h y (by simp[a])
  have e:(if 0<i then 2 else 0)<=2:=by split<;>omega
  have f:Bv x<=1+24+1+1+24:=by
   unfold Bv;have a:(if x.form=3 then 1 else 0)<=1:=by split<;>omega
   have c:(if x.form=2 then 1 else 0)<=1:=by split<;>omega
   omega
  show(if 0<i then 2 else 0)+Bv x+Dc (i+1) l<=60*(l.length+1)
  omega
theorem Df (x:bn):x.cells.length=4:=rfl
theorem Rk (l:List bn) (A:Option Addr) (c:Nat) (w:World) (L:Rd w w.heap.size A (l.flatMap bn.cells)) (hl:l.length<=8) (I:GZ l):
  Calls prog 66 #[.slice A l.length c] w (zZ (kX l) w):=by
 have xJ:=zH L;have hb:=G5 l 0 I;obtain⟨N,b⟩:=zN (4+Dc 0 l)
 have a:kX l=N+1:=by unfold kX;omega
 have a0:N<=484:=by omega
 unfold zZ;rw[a];have H0:Hid (4+Dc 0 (l.drop 0)=N):=zH (by rw[zFp];exact b);clear L hb b a I
 go_enter func66,ntmps66
 go_wp2_with fail
 go_loopw[3,8] (λs i wr=>∃(k:Nat) (S:ByteArray),k<=l.length/\s=.string S/\i=.int .i64 k/\Hid (S.size+Dc k (l.drop k)=N)/\Hid (Below w w wr)) (λ_ i _=>l.length-(intOf i).toNat)
 case atStart=>exact⟨0,_,zFj _,rfl,rfl,H0,zH zR⟩
 case round=>
  clear H0;obtain⟨k,S,hk,rfl,rfl,P,O⟩:=hrel;obtain⟨p,rfl⟩:∃p:World,p=wr:=⟨_,rfl⟩
  by_cases G:k<l.length
  ·as_aux_lemma=>
   obtain⟨g,o,rfl,K,F⟩:=xJ.elem (n:=4) Df (by omega) G;have m:=P.out;rw[zFk G]at m;obtain⟨⟨f,ty,W,ps⟩,J⟩:∃z,l[k]=z:=⟨_,rfl⟩
   rw[J]at F m;obtain⟨T,D⟩:=zN (bytes ty)
   obtain⟨M,H⟩:=zN (bytes W)
   have x:ty.length=T.size:=by rw[<-D,bZ]
   have y:W.length=M.size:=by rw[<-H,bZ]
   have r:S.size+((if 0<k then 2 else 0)+((if f=3 then 1 else 0)+T.size+(if f=2 then 1 else 0)+1+M.size)+Dc (k+1) (l.drop (k+1)))=N:=by
    rw[<-x,<-y];exact m
   have a:∀(j:Nat) (u:Value),(bn.cells ⟨f,ty,W,ps⟩)[j]? =some u->p.cell? ⟨g,o+k*4+j,none⟩=some u:=λj u h=>(bK O.out g _ K).trans (F j u h)
   have r0:p.cell? ⟨g,o+k*4,none⟩=some (.int .i64 f):=a 0 _ rfl;have R:p.cell? ⟨g,o+k*4+1,none⟩=some (.string T):=(a 1 _ rfl).trans (by rw[D]);have U:p.cell? ⟨g,o+k*4+2,none⟩=some (.string M):=(a 2 _ rfl).trans (by rw[H]);have Y:p.cell? ⟨g,o+k*4+3,none⟩=some (.int .i64 ps):=a 3 _ rfl;obtain⟨B,q⟩:=zN (if 0<k then 2 else 0:Nat)
   obtain⟨t,b⟩:=zN (if f=3 then 1 else 0:Nat)
   obtain⟨h,d⟩:=zN (if f=2 then 1 else 0:Nat)
   obtain⟨X,e⟩:=zN (Dc (k+1) (l.drop (k+1)))
   rw[q,b,d,e]at r;have z:=zH q;have C:=zH b;have E:=zH d;have Yc:=zH e;have XX:=zH r;have Q:S.size+B+t+T.size+h+1+M.size<=484:=by omega
   clear a F J m r D H x y q b d e P K;go_upto_region 5 with fail
   have a:=Bk.new p 136 #[f,T,M,ps];have Z:=zH (O.alloc O.size (.cells #[f,T,M,ps] 136));clear r0 R U Y O;generalize p.alloc (.cells #[f,T,M,ps] 136)=U at *;generalize p.heap.size=gx at *;obtain⟨q0,q1,q2⟩:=zc3 a;clear a;go_upto_if 14 with fail
   go_cut[3] (λv wx=>∃S':ByteArray,v=.string S'/\Hid (S'.size=S.size+B)/\U=wx)
   case first=>
    as_aux_lemma=>
    by_cases a:0<k
    ·have F:(0:Int)<(k:Int):=by omega
     have b:B=2:=by rw[<-z.out,zF3 a]
     have Y:¬9223372036854775807<S.size+2:=by omega
     have d:Hid ((S++(⟨#[44,32]⟩:ByteArray)).size=S.size+B):=zH (by rw[au,b];rfl);clear a b;go_wp2_with fail
     go_meet
     exact⟨_,rfl,d,rfl⟩
    have F:¬(0:Int)<(k:Int):=by omega
    have b:B=0:=by rw[<-z.out,zF2 a]
    have d:Hid (S.size=S.size+B):=zH (by omega);clear a b;go_wp2_with fail
    go_meet
    exact⟨_,rfl,d,rfl⟩
   case rest=>
   obtain⟨r,rfl,yQ,e⟩:=hcut;subst e;have q:r.size=S.size+B:=yQ.out;have H:r.size+t+T.size+h+1+M.size<=484:=by omega
   clear q;go_upto_if 19 with fail
   go_cut[3] (λv wx=>∃S':ByteArray,v=.string S'/\Hid (S'.size=r.size+t)/\U=wx)
   case first=>
    as_aux_lemma=>
    by_cases a:f=3
    ·have F:((f:Int)==3)=true:=by rw[zFt];omega
     have b:t=1:=by rw[<-C.out,zF3 a]
     have Y:¬9223372036854775807<r.size+1:=by omega
     have d:Hid ((r++(⟨#[33]⟩:ByteArray)).size=r.size+t):=zH (by rw[au,b];rfl);clear a b;go_wp2_with fail
     go_meet
     exact⟨_,rfl,d,rfl⟩
    have F:((f:Int)==3)=false:=zB (by omega)
    have b:t=0:=by rw[<-C.out,zF2 a]
    have d:Hid (r.size=r.size+t):=zH (by omega);clear a b;go_wp2_with fail
    go_meet
    exact⟨_,rfl,d,rfl⟩
   case rest=>
   obtain⟨S2,rfl,D,e⟩:=hcut;subst e;have q:S2.size=r.size+t:=D.out;have K:S2.size+T.size+h+1+M.size<=484:=by omega
   have R:¬9223372036854775807<S2.size+T.size:=by omega
   clear q;go_upto_if 28 with fail
   obtain⟨q,y⟩:=zN (S2++T)
   have x:q.size=S2.size+T.size:=by rw[<-y,au]
   have Td:=zH x;rw[y];have J:q.size+h+1+M.size<=484:=by omega
   clear y x R
   go_cut[3] (λv wx=>∃S':ByteArray,v=.string S'/\Hid (S'.size=q.size+h)/\U=wx)
   case first=>
    as_aux_lemma=>
    by_cases a:f=2
    ·have F:((f:Int)==2)=true:=by rw[zFt];omega
     have b:h=1:=by rw[<-E.out,zF3 a]
     have Y:¬9223372036854775807<q.size+1:=by omega
     have d:Hid ((q++(⟨#[43]⟩:ByteArray)).size=q.size+h):=zH (by rw[au,b];rfl);clear a b;go_wp2_with fail
     go_meet
     exact⟨_,rfl,d,rfl⟩
    have F:((f:Int)==2)=false:=zB (by omega)
    have b:h=0:=by rw[<-E.out,zF2 a]
    have d:Hid (q.size=q.size+h):=zH (by omega);clear a b;go_wp2_with fail
    go_meet
    exact⟨_,rfl,d,rfl⟩
   case rest=>
   obtain⟨a,rfl,F,e⟩:=hcut;subst e;have x:a.size=q.size+h:=F.out;have y:a.size+1+M.size<=484:=by omega
   have R:¬9223372036854775807<1+M.size:=by omega
   have a2:¬9223372036854775807<a.size+((⟨#[32]⟩:ByteArray)++M).size:=by rw[au];show¬9223372036854775807<a.size+(1+M.size);omega
   have a1:¬9223372036854775807<a.size+(1+M.size):=by omega
   have HF:Hid ((a++((⟨#[32]⟩:ByteArray)++M)).size+Dc (k+1) (l.drop (k+1))=N):=zH (by
    rw[au,au,Yc.out]
    show a.size+(1+M.size)+X=N
    have h1:=yQ.out;have b:=D.out;have h3:=Td.out;have h5:=XX.out
    omega)
   clear x yQ D Td F XX Yc z C E Q H K J;go_wp2
   go_roundw
   case rel=>exact⟨k+1,_,by omega,rfl,by go_num,HF,Z⟩
   case measure=>simp[intOf];omega
  as_aux_lemma=>
  obtain rfl:k=l.length:=by omega
  have m:=P.out;rw[zFq zL]at m;have m:S.size=N:=by simpa[Dc]using m
  have Y:¬9223372036854775807<S.size+1:=by omega
  have d:Hid ((S++(⟨#[41]⟩:ByteArray)).size=N+1):=zH (by rw[au,m];rfl);clear P m;go_wp2
  go_ret
  exact⟨_,rfl,d.out,O.out⟩
theorem wu {P:Program} {ops:Array Oper} {Q:Exit->Act->World->Prop} {r:Act} {W:World} {M:Nat} (Fr:Nat->Bool) (b:List Spec) (F:List Nat) (m:Nat) (E:Array Bool) (O:P.follows .mixedOrders=true) (l:(iU ops r.tmps.size&&I4 ops b.length&&decide (b.length<=ops.size))=true) (R:BR ops Fr b F=true)
  (X:ops.size=b.length+m) (s:doneN ops.size b.length=E) (i:BR ops Fr b F=true->AllB P Q ops Fr r W b 0 (ops.toList.take b.length))
  (n:∀(f:Nat) (x:Nat->Value) (w:World),Below W W w->(∀(k:Nat) {q:Value->World->Prop} {h:∀v w w',Below w.heap.size w w'->q v w->q v w'},b.getD k .any=.st q h->(decide (k<b.length)&&(k==ops.size||decide (b.length<=ops.size)||waits ops k ops.size))=true->q (x k) w)->
   (∀j k,j<b.length->k<b.length->j≠k->Fr j=true->Fr k=true->uk (x j)≠uk (x k))->wpAny P .any ops Q (f+m) E (bJ b x 0 (ops.toList.take b.length) r) w):
  (Code.region M ops true).wp P Q r W:=by
 simp only[zFn,zF9]at l;obtain⟨⟨l,S⟩,K⟩:=l;refine wp_region_any O ?_;refine OY (W:=W) (p:=ops.size) K l S (i R) (λd o a w N L D Z J=>?_) _ _ _ _ (by simp) (by simp) (by intro j _;simp[Array.getD]) (RX.start (Kp:=λ_=>false) (G:=λw=>Below W W w) λ_ h=>h);obtain⟨x,rfl,t,I,H,Y⟩:=J.end_ K l D;obtain⟨f,rfl⟩:∃f,d=f+m:=⟨d-m,by omega⟩
 rw[O0,XO L D Z,s];refine n f x w J.g (λk _ _ e c=>t k e (.inl c)) λj k A B y z C u=>?_
 obtain⟨_,g,t,h4,h5⟩:=H j A z;obtain⟨_,g2,U,h7,h8⟩:=H k B C;rw[t,U]at u;injection u with u
 rcases Y j k A B y z C with h|h<;>omega
def VX (ax:Int) (bs:List fQ):Prop:=(1<=ax/\ax<=3)/\bs.length<=32/\∀(i:Nat) (h:i<bs.length),(-1<=bs[i].parent/\bs[i].parent<i)/\0<=bs[i].type/\(0<=bs[i].window/\bs[i].window<=1152921504606846976)/\∀(j:Nat) (h:j<bs[i].ends.length),0<=bs[i].ends[j].branch
section
set_option maxRecDepth 100000
set_option maxHeartbeats 8000000
theorem zAe {d:Nat} {S:Nat->Prop} {ax:Int} {ks:List Int} {bs:List fQ} {cs:List Value} {w:World} (h:wO d S ax ks bs cs w) (A:VX ax bs):Calls prog 13 #[.agg cs.toArray] w (Yes w):=by
 obtain⟨kv,bv,rfl,I,H,F,rfl,C,hb⟩:=h;obtain⟨G,E,rfl⟩:=I.form;have Zt:=zH A.2.2;have q1:¬ax<1:=by have:=A.1.1;omega
 have q2:¬3<ax:=by have:=A.1.2;omega
 obtain⟨n,c⟩:=zN bs.length
 have L:n<=32:=by rw[<-c];exact A.2.1
 have q3:¬(32:Int)<(n:Int):=by omega
 go_enter func13,ntmps13
 go_upto_region 1 with fail
 rw[c]at C⊢;have e:=Bk.new w 38 #[ax,.slice G ks.length E,.slice H n F];have a:=ba w (.cells #[ax,.slice G ks.length E,.slice H n F] 38);generalize w.alloc (.cells #[ax,.slice G ks.length E,.slice H n F] 38)=K at *;have HR:=zH (hb.old a);have R:=zH a;have W:=zH c;have D:=e.cell 0;have g:=e.cell 2;clear e a I hb c A;go_wp2_with fail
 clear D g
 go_loopw[24] (λi wr=>∃(k:Nat),k<=n/\i=.int .i64 k/\Hid (Below K K wr)) (λi _=>n-(intOf i).toNat)
 case atStart=>exact⟨0,zFj _,rfl,zH zR⟩
 case round=>
  obtain⟨O,rfl⟩:∃z:World,z=wr:=⟨_,rfl⟩
  obtain⟨k,I,rfl,B⟩:=hrel
  by_cases p:k<n
  ·have x:k<bs.length:=by rw[W.out];exact p
   obtain⟨b,o,cs,rfl,_,hb,c,y⟩:=(HR.old B.out).elem x;have a:=CK.len c;have g:=Zt.out k x;go_upto_region 6 with(first|(refine aj yu rfl _ rfl rfl cs a y ?_)|(refine ae (aY yu.1) rfl _ _ rfl rfl cs rfl (Bk.new _ _ _) a rfl (CK.one c) ?_;intro W1 p1;go_frame))
   obtain⟨v4,v5,v6,v7,rfl,_,_,_,Ap,cp,rfl,s,q⟩:=c;have l:Below O O W1:=p1.below _ _ (ba _ _) zL;have Q:=zH (q.old l);have P:=zH (B.trans (l.mono B.size));have t:=zH p1.bk;obtain⟨c,e⟩:=zN (bs[k])
   rw[e]at Q t s g;obtain⟨⟨M,Y⟩,g3,⟨U,g5⟩,J⟩:=g;have X:=zH J;have r1:¬c.parent< -1:=by omega
   have r2:¬(k:Int)<=c.parent:=by omega
   have r3:¬c.type<0:=by omega
   have r4:¬c.window<0:=by omega
   have r5:¬1152921504606846976<c.window:=by omega
   have D:=t.cell 0;have Z:=t.cell 1;have N:=t.cell 3;have r:=t.cell 7;obtain⟨m,g⟩:=zN c.ends.length
   rw[g]at r s;have HM:=zH g;clear p1 y a e q M Y g3 U g5 J g;go_wp2_with fail
   clear D Z N r
   go_loopw[56] (λi wr=>∃(j:Nat),j<=m/\i=.int .i64 j/\Hid (Below W1 W1 wr)) (λi _=>m-(intOf i).toNat)
   case atStart=>exact⟨0,zFj _,rfl,zH zR⟩
   case round=>
    obtain⟨N,rfl⟩:∃z:World,z=wr:=⟨_,rfl⟩
    obtain⟨j,hj,rfl,z⟩:=hrel
    by_cases q:j<m
    ·have r:j<c.ends.length:=by rw[HM.out];exact q
     obtain⟨e,f,y,rfl,_,_,g,M⟩:=(Q.old z.out).elem r;have a:=CK.len g;have U:=X.out j r;go_upto_region 11 with(first|(refine aj Dy rfl _ rfl rfl y a M ?_)|(refine ae (aY Dy.1) rfl _ _ rfl rfl y rfl (Bk.new _ _ _) a rfl (CK.one g) ?_;intro Y p2;go_frame))
     obtain⟨v,u,rfl,_,_⟩:=g;have g:Below N N Y:=p2.below _ _ (ba _ _) zL;have J:=zH (z.trans (g.mono z.size));have Z:=p2.bk.cell 0;have r6:¬c.ends[j].branch<0:=by omega
     clear p2 M a g;go_wp2_with fail
     exact⟨⟨j+1,q,by go_num,J⟩,by simp[intOf];omega⟩
    obtain rfl:j=m:=by omega
    go_wp2_with fail
    exact⟨⟨k+1,p,by go_num,zH (P.trans (z.mono P.size))⟩,by simp[intOf];omega⟩
  obtain rfl:k=n:=by omega
  go_wp2_with fail
  go_ret
  exact⟨rfl,R.trans (B.mono R.size)⟩
end
theorem qw.lo {K:Nat->Prop} {B d:Nat} {bv:Value} {xs:List bQ} {W:World} (h:qw K B d bv xs W):qw (λq=>K q/\q<W.heap.size) B d bv xs W:=
 ⟨h.dJ,h.prt,h.tN,h.mO,h.og,λx c y a=>(h.kids x c y a).keep λb hb a=>⟨⟨⟨hb.1,a⟩,hb.2⟩,a,rfl⟩⟩
theorem yE {xs:List bQ} {k i:Nat} (b:k<xs.length) (a:i<xs[k].ps.length) (c:Bool):rowA c xs[k].ps[i]∈bI xs:=
 zGn.2 ⟨xs[k],zFe b,zGn.2 ⟨xs[k].ps[i],zFe a,by cases c<;>simp[rowA,dQ]⟩⟩
theorem qw.putR {K K':Nat->Prop} {B d:Nat} {bv:Value} {xs:List bQ} {W W1:World} {gp k i:Nat} {c:Bool} {v':Value} {ns':List ah} (h:qw K B d bv xs W) (f:∀q,K q->K' q) (m:k<xs.length) (o:i<xs[k].ps.length) (g:xs[k].parts.ownBlock=some gp)
  (hb:Bd (λq=>K' q/\aJ bv xs q) B 122 7 (Hy d) ns' v' W1) (l:W.grownBy W1 (rowA c xs[k].ps[i]).1.ownBlock) (e:v'.ownBlock=(rowA c xs[k].ps[i]).1.ownBlock\/∀q,v'.ownBlock=some q->aJ bv xs q/\¬K q):qw K' B d bv (fZ xs k i c v' ns') (W1.setCell ⟨gp,i*4+ve c,none⟩ v'):=by
 obtain⟨j,n⟩:=hb.nv;exact h.upd f m o g j l e λy a=>(n y a).keep λb hb a=>⟨⟨hb.1.1,hb.1.2,hb.2⟩,a,rfl⟩
end Go.Proofs.YtbjnhllkdilpfaaGreat
