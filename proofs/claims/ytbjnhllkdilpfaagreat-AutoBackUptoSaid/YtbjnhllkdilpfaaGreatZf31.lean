/- Part 31 of the proof. No conditions. -/
import Derived.Test.YtbjnhllkdilpfaaGreatZf30
set_option linter.unusedVariables false
set_option linter.unusedSimpArgs false
set_option maxRecDepth 100000
set_option maxHeartbeats 8000000
namespace Go.Proofs.YtbjnhllkdilpfaaGreat
open Go.RowKit _root_.Go.Proofs.Tryz
theorem Lr {bs:List fQ} (a:∀(i:Nat) (h:i<bs.length),GoodS i bs[i]) {i:Nat} (h:i<bs.length):0<(lh bs i).length:=by
 rw[uf a h];simp
theorem Ls {P:List Nat} {q:Nat} (h:q<(ints P).length):(ints P)[q]=((P[q]'(by simpa[ints]using h):Nat):Int):=by simp[ints]
def SmT (bs:List fQ):Prop:=∀s∈bs,s.ends.length<=1048576/\s.bars.length<=1048576/\∀e∈s.ends,e.bars.length<=1048576
theorem wY {bs:List fQ} {cl:List T}:∀(l:List Nat),(∀x∈l,(iD bs x).bars.length<=1048576)->(jV bs cl l).length<=l.length*1048577
 |[],_=>zFj _
 |x::l,h=>by
  have b:=wY (cl:=cl) l λy a=>h y (by simp[a])
  have a:=h x (by simp);rw[ug];simp[gQ];omega
theorem Qn {bs:List fQ} (h:∀i,(iD bs i).ends.length<=1048576):∀i,(Oo bs i).length<=i*1048576
 |0=>zFj _
 |i+1=>by
  have a:=Qn h i;have:=h i;rw[<-FZ];simp[mY];omega
theorem SmT.get {bs:List fQ} (h:SmT bs) (x:Nat):(iD bs x).ends.length<=1048576/\(iD bs x).bars.length<=1048576/\∀e∈(iD bs x).ends,e.bars.length<=1048576:=by
 unfold iD;cases hx:bs[x]? with
 |none=>exact⟨by decide,by decide,λe a=>absurd a (by simp[stZ])⟩
 |some s=>exact h s (zGj hx)
section
variable {P:Program} {o:Oper} {a:Act} {w w2:World} {K:Act->World->Prop} {Q:Exit->Act->World->Prop}
theorem ev {d:Nat} {v:Value} (h:a.tmps[d]? =some v):a.eval (.tmp d)=v:=by
 show a.tmps.getD d undef=v
 rw[zGk,h];rfl
theorem Gg {s:Sem Value} {v:Value} (c:execOp a.eval o=(do pure (.value (<-s)))) (b:s.run P w=.ok v w2) (d:K (a.put o.dst v) w2):o.wp P a w K Q:=by
 unfold Oper.wp;rw[c];simp[b,Result.andThen];exact d
theorem zDs (t e:TypeId) (x y:Operand) {p q r:Int} (b:o.op=.binOp .sub t x y e) (g:a.eval x=.int .i64 p) (c:a.eval y=.int .i64 q) (i:r=p-q) (d: -9223372036854775808<=r) (h:r<=9223372036854775807) (j:K (a.put o.dst (.int .i64 r)) w):o.wp P a w K Q:=by
 have f:IntKind.i64.wrap (p-q)=r:=by rw[<-i];exact zHk _ ⟨d,h⟩
 refine Gg (s:=do eqGuard .sub t x y (.int .i64 p) (.int .i64 q);binOp .sub t (.int .i64 p) (.int .i64 q)) (w2:=w) (by unfold execOp;rw[b];simp only[g,c]) (by simp[eqGuard,go_sem,f]) j
theorem zDt (t e:TypeId) (x y:Operand) {p q:Int} {b:Bool} (c:o.op=.binOp .gtr t x y e) (f:a.eval x=.int .i64 p) (d:a.eval y=.int .i64 q) (hb:decide (q<p)=b) (g:K (a.put o.dst (.bool b)) w):o.wp P a w K Q:=by
 refine Gg (s:=do eqGuard .gtr t x y (.int .i64 p) (.int .i64 q);binOp .gtr t (.int .i64 p) (.int .i64 q)) (w2:=w) (by unfold execOp;rw[c];simp only[f,d]) (by simp[eqGuard,go_sem,<-hb]) g
theorem zDu (t e:TypeId) (x y:Operand) {p q:Int} {b:Bool} (c:o.op=.binOp .lss t x y e) (f:a.eval x=.int .i64 p) (d:a.eval y=.int .i64 q) (hb:decide (p<q)=b) (g:K (a.put o.dst (.bool b)) w):o.wp P a w K Q:=by
 refine Gg (s:=do eqGuard .lss t x y (.int .i64 p) (.int .i64 q);binOp .lss t (.int .i64 p) (.int .i64 q)) (w2:=w) (by unfold execOp;rw[c];simp only[f,d]) (by simp[eqGuard,go_sem,<-hb]) g
theorem zDv (t:TypeId) (x:Operand) {b:Bool} (c:o.op=.unOp .not t x) (d:a.eval x=.bool b) (e:K (a.put o.dst (.bool (!b))) w):o.wp P a w K Q:=by
 refine Gg (s:=Op.unary .not (.bool b)) (w2:=w) (by unfold execOp;rw[c];simp only[d]) (by simp[go_sem]) e
theorem Qo (x y z:Operand) {b:Bool} {u v:Value} (c:o.op=.pick x y z) (f:a.eval x=.bool b) (d:a.eval y=u) (e:a.eval z=v) (g:K (a.put o.dst (bif b then u else v)) w):o.wp P a w K Q:=by
 refine Gg (s:=pure (bif b then u else v)) (w2:=w) (by unfold execOp;rw[c];simp only[f,d,e];cases b<;>rfl) rfl g
end
theorem WQ {w:World} {op:Oper} {a:Act} {K:Act->World->Prop} {Q:Exit->Act->World->Prop} {b t n e:Nat} (h:ZL b t n e) (x y:Operand) {g m c i:Nat} (d:op.op=.indexAddr b x y) (k:a.eval x=.slice (some ⟨g,0,none⟩) m c) (j:a.eval y=.int .i64 i) (o:i<m) (l:K (a.put op.dst (.pointer (some ⟨g,i*n,none⟩))) w):op.wp prog a w K Q:=by
 have f:prog.elem b=t:=by simp[Program.elem,h.und]
 refine Gg (s:=Instr.indexAt b (.slice (some ⟨g,0,none⟩) m c) (.int .i64 i)) (w2:=w) (by unfold execOp;rw[d];simp only[k,j]) ?_ l;refine(Go.run_indexAt_slice (P:=prog) w b ⟨g,0,none⟩ m c .i64 i (by rw[f];exact h.und)).trans ?_;rw[zF3 ⟨by omega,by omega⟩,f,aY h]
 show Result.ok (Value.pointer (some ((⟨g,0,none⟩:Addr).add ((i:Int).toNat * n)))) w=_
 rw[yw,Int.toNat_natCast]
section
set_option maxHeartbeats 4000000
theorem cmpB {d:Nat} {S S':Nat->Prop} {x y:dL} {xs b:List Value} {w:World} (h:xh d S x xs w) (f:xh d S' y b w) (k:x.id<=9223372036854775807) (l:y.id<=9223372036854775807):
  Calls prog 33 #[.agg xs.toArray,.agg b.toArray] w λr w'=>r=.returned (.int .i64 ((x.id:Int)-y.id))/\Below w w w':=by
 obtain⟨v,rfl,_⟩:=h;obtain⟨v',rfl,_⟩:=f;have c:=(Bk.new w 67 #[x.id,x.window,v]).alloc (.cells #[y.id,y.window,v'] 67);have e:=Bk.newAt (w:=w.alloc (.cells #[x.id,x.window,v] 67)) (g:=w.heap.size+1) (by simp) 67 #[y.id,y.window,v'];have a:Below w w ((w.alloc (.cells #[x.id,x.window,v] 67)).alloc (.cells #[y.id,y.window,v'] 67)):=(ba w _).trans ((ba _ _).mono (by simp))
 go_enter func33,ntmps33
 have i:=c.cell 0;have j:=e.cell 0;clear c e;have c:IntKind.i64.wrap ((x.id:Int)-y.id)=(x.id:Int)-y.id:=zHk _ (by omega);go_wp2
 go_ret
 exact⟨rfl,a⟩
end
def Ik (bs:List dL):Prop:=bs.length<=4/\(bs.map (λb:dL=>b.id)++[4]).Pairwise (·<·)
theorem Ik.id {bs:List dL} (h:Ik bs) {b:dL} (hb:b∈bs):b.id<4:=(zHn.1 h.2).2.2 _ (zGa.2 ⟨b,hb,rfl⟩) _ (by simp)
theorem Ik.lt {bs:List dL} (h:Ik bs) {i:Nat} (a:i+1<bs.length):bs[i].id<bs[i+1].id:=by
 have:=zH1.1 (zHn.1 h.2).1 i (i+1) (by rw[zF5];omega) (by rw[zF5];omega) (by omega);simp at this;exact this
section
set_option maxRecDepth 100000
set_option maxHeartbeats 8000000
variable {d base c n:Nat} {S:Nat->Prop} {bs:List dL} {A:Option Addr} {v:Value} {w:World}
theorem insQ (h:Bd S base 67 3 (xh d) bs (.slice A n c) w) (E:Ik bs):
  Calls prog 79 #[.slice A n c,(),n,.func (.func 33) #[] #[]] w λr w'=>r=.returned (.tuple #[])/\Below w w w':=by
 have t:=zH (zA h E);have v:=h.fH;have N:n<=4:=by have:=E.1;omega
 clear h E
 go_enter func79,ntmps79
 go_wp2
 go_loopw[8] (λo wr=>∃i:Nat,1<=i/\i<=5/\o=.int .i64 i/\Hid (Below w w wr)) (λo _=>6-(intOf o).toNat)
 case atStart=>exact⟨1,by decide,by decide,rfl,zH zR⟩
 case round=>
  obtain⟨U,rfl⟩:∃z:World,z=wr:=⟨_,rfl⟩
  obtain⟨i,O,K,rfl,D⟩:=hrel
  by_cases G:i<n
  ·have q:i<bs.length:=by omega
   have H:i-1<bs.length:=by omega
   have b:bs[i-1].id<bs[i].id:=by
    obtain⟨p,rfl⟩:∃p,i=p+1:=⟨i-1,by omega⟩
    exact t.2.lt q
   have l:=t.2.id (zFe q);obtain⟨g,xs,m,_,_,f,k⟩:=t.1.elem q;obtain⟨R,J,a,_,_,e,j⟩:=t.1.elem H;subst m;injection a with a
   injection a with a
   subst a;generalize bs[i]=x at *;generalize bs[i-1]=y at *;have m:=zH (zA f (zA e (zA k (zA j (zA b l)))));have B:=CK.len f;have F:=CK.len e;have I:i-1<n:=by omega
   clear f e k j l b v;go_wp2
   go_loopw[9] (λo wi=>o=.int .i64 i/\Hid (Below w w wi)) (λo _=>0)
   case atStart=>exact⟨rfl,D⟩
   case round=>
    clear D;obtain⟨W,rfl⟩:∃z:World,z=wr:=⟨_,rfl⟩
    obtain⟨rfl,k⟩:=hrel;go_upto_region 4 with fail
    refine wx (λ_=>false) [.is (.int .i64 (i:Nat)),.is (.int .i64 0),.is (.bool true),.is (.bool true),.is (.func (.func 33) #[] #[]),.is (.slice (some ⟨g,0,none⟩) n c),.is (.int .i64 (i:Nat)),.is (.pointer (some ⟨g,i*3,none⟩)),.is (.agg xs.toArray),
     .is (.slice (some ⟨g,0,none⟩) n c),.is (.int .i64 (i:Nat)),.is (.int .i64 ((i-1:Nat):Int)),.is (.pointer (some ⟨g,(i-1)*3,none⟩)),.is (.agg J.toArray),.is (.int .i64 ((x.id:Int)-y.id)),.is (.bool false),.is (.bool false)] [2,7,8,11,12,13,14,15,16] (by kernel_rfl) (by kernel_rfl) (by kernel_rfl)
     (λC=>.c (px C rfl (λ_ _=>rfl)) <| .c (px C rfl (λ_ _=>rfl)) <| .c (pz [0,1] [] (by kernel_rfl) λj l wr e f a b=>?_) <| .c (px C rfl (λ_ _=>rfl)) <|
      .c (px C rfl (λ_ _=>rfl)) <| .c (px C rfl (λ_ _=>rfl)) <| .c (px C rfl (λ_ _=>rfl)) <| .c (pz [5,6] [] (by kernel_rfl) λj l wr e f a b=>?_) <| .c (pz [7] [] (by kernel_rfl) λj l wr e f a b=>?_) <|
      .c (px C rfl (λ_ _=>rfl)) <| .c (px C rfl (λ_ _=>rfl)) <| .c (pz [10] [] (by kernel_rfl) λj l wr e f a b=>?_) <| .c (pz [9,11] [] (by kernel_rfl) λj l wr e f a b=>?_) <| .c (pz [12] [] (by kernel_rfl) λj l wr e f a b=>?_) <|
      .c (pz [4,8,13] [] (by kernel_rfl) λj l wr e f a b=>?_) <| .c (pz [14] [] (by kernel_rfl) λj l wr e f a b=>?_) <| .c (pz [3,15] [] (by kernel_rfl) λj l wr e f a b=>?_) .nil) ?_
    ·exact zDt _ _ _ _ rfl (ev (aA a.1 rfl rfl)) (ev (aA a.2.1 rfl rfl)) (by simp;omega) (b _ _ zR rfl)
    ·exact WQ gW.1 _ _ rfl (ev (aA a.1 rfl rfl)) (ev (aA a.2.1 rfl rfl)) G (b _ _ zR rfl)
    ·exact jw gW _ rfl (ev (aA a.1 rfl rfl)) xs B (λi u s=>bc (k.trans (e.mono k.size)) (m.2.2.1 i u s)) (b _ _ zR rfl)
    ·exact zDs _ _ _ _ rfl (ev (aA a.1 rfl rfl)) rfl (by omega) (by omega) (by omega) (b _ _ zR rfl)
    ·exact WQ gW.1 _ _ rfl (ev (aA a.1 rfl rfl)) (ev (aA a.2.1 rfl rfl)) I (b _ _ zR rfl)
    ·exact jw gW _ rfl (ev (aA a.1 rfl rfl)) J F (λi u s=>bc (k.trans (e.mono k.size)) (m.2.2.2.1 i u s)) (b _ _ zR rfl)
    ·have L:=aA a.1 rfl rfl;have M:=aA a.2.1 rfl rfl;have Q:=aA a.2.2.1 rfl rfl;have s:=k.trans (e.mono k.size);clear f a;go_simp
     go_at_call 33
     refine(cmpB (CK.keep (P:=xh d) (n:=3) (dB.old s) m.1) (CK.keep (P:=xh d) (n:=3) (dB.old s) m.2.1) (by have:=m.2.2.2.2.2;omega) (by have:=m.2.2.2.2;omega)).mono ?_;rintro r w2 ⟨rfl,z⟩;exact b _ _ z rfl
    ·exact zDu _ _ _ _ rfl (ev (aA a.1 rfl rfl)) rfl (by have:=m.2.2.2.2;simp;omega) (b _ _ zR rfl)
    ·exact Qo _ _ _ rfl (ev (aA a.1 rfl rfl)) (ev (aA a.2.1 rfl rfl)) rfl (b _ _ zR rfl)
    intro j f e b a;clear b a;simp only[bJ,List.length,List.take,List.drop,zFd];refine zM ?_
    go_frame
    have a:=zH (k.trans (e.mono k.size));clear e m;go_wp2
    go_roundw
    case rel=>exact⟨i+1,by omega,by omega,by go_num,a⟩
    case measure=>simp[intOf];omega
  go_wp2
  go_end0
  exact⟨rfl,D.out⟩
theorem Zc (h:Bd S base 67 3 (xh d) bs (.slice A n c) w) (f:Ik bs):
  Calls prog 54 #[.slice A n c,n,.func (.func 33) #[] #[]] w λr w'=>r=.returned (.tuple #[])/\Below w w w':=by
 have g:=zH (insQ h f);have i:n<=4:=by have:=f.1;have:=h.fH;omega
 clear h f
 go_enter func54,ntmps54
 go_wp2
 go_loopw[7,8] (λp q wr=>p=.int .i64 0/\q=.int .i64 20/\wr=w) (λp q _=>0)
 case atStart=>exact⟨rfl,rfl,rfl⟩
 case round=>
  obtain⟨rfl,rfl,e⟩:=hrel;rw[e];go_wp2_with fail
  refine g.mono ?_;rintro r w2 ⟨rfl,b⟩;have a:=zH b;clear b;go_wp2
  go_loopw[6] (λo wi=>o=.int .i64 20/\wi=w2) (λo _=>0)
  case atStart=>exact⟨rfl,rfl⟩
  case round=>
   obtain⟨rfl,b⟩:=hrel;go_wp2
   go_end0
   first|exact⟨rfl,a.out⟩|exact⟨rfl,by rw[b];exact a.out⟩
theorem zE5 (h:Bd S base 67 3 (xh d) bs v w) (e:Ik bs):
  Calls prog 32 #[v,.func (.func 33) #[] #[]] w λr w'=>r=.returned (.tuple #[])/\Bd S base 67 3 (xh d) bs v w'/\w.grownBy w' v.ownBlock:=by
 obtain⟨A,c,rfl,_⟩:=h.form;have a:=h.fH;have f:=zH (zA (Zc h e) h);clear h e a
 go_enter func32,ntmps32
 go_wp2_with fail
 refine f.1.mono ?_;rintro r w2 ⟨rfl,b⟩;have a:=zH b;clear b;go_wp2
 go_end0
 exact⟨rfl,f.2.old a.out,below_grown a.out _⟩
end
def nxS (cl:List T):List fQ->List T
 |[]=>cl
 |s::_=>s.lv
def emit (cl:List T):List fQ->List dU
 |[]=>[]
 |s::l=>(gQ s.bars++[qj s (nxS cl l)])++emit cl l
def EqS (a b:fQ):Prop:=a.type=b.type/\a.many=b.many/\a.bars=b.bars/\a.lv=b.lv/\a.gs=b.gs/\a.window=b.window/\a.parent=b.parent
def PtB (p:dU):Prop:=(1<=p.form/\p.form<=3)/\(p.form=3->p.cs=[])
theorem D6 {win:Int}:∀(ps:List dU) (x:Ou),(∀p∈ps,PtB p)->x.bD.length+ps.length<=32->
  ∃(y:Ou) (b:List fQ),iL win ps x=some y/\y.bD=x.bD++b/\b.length<=ps.length/\(∀(i:Nat) (s:fQ),b[i]? =some s->s.window=win/\s.ends=[]/\s.parent=(if i=0 then x.parent else(x.bD.length:Int)+i-1)/\s.bars.length<=x.bars.length+ps.length)/\
   y.parent=(if b.length=0 then x.parent else(x.bD.length:Int)+b.length-1)/\gQ x.bars++ps=emit y.lv b++gQ y.bars/\nxS y.lv b=x.lv/\y.bars.length<=x.bars.length+ps.length/\((∃p l,ps=p::l/\p.form≠3)->b≠[])
 |[],x,_,_=>⟨x,[],rfl,by simp,by simp,λi s h=>by simp at h,rfl,by simp[emit],rfl,by simp,λ⟨p,l,h,_⟩=>by cases h⟩
 |p::ps,x,C,E=>by
  have g:=C p (by simp);have m:∀q∈ps,PtB q:=λq u=>C q (zJs _ u)
  rw[zFh]at E;obtain⟨a,c,j,cs⟩:=p
  by_cases t:a=3
  ·subst t;obtain rfl:cs=[]:=g.2 rfl;obtain⟨y,b,o,e,t,B,v,f,k,w,D⟩:=D6 (win:=win) ps {x with bars:=x.bars++[⟨c,j⟩]} m (by simp only;omega);refine⟨y,b,?_,e,by simp;omega,λi s d=>?_,v,?_,k,?_,λ⟨q,l,h,u⟩=>?_⟩
   ·simpa[iL,rH]using o
   ·obtain⟨r,A,n,z⟩:=B i s d;exact⟨r,A,n,by simp at z⊢;omega⟩
   ·rw[<-f];simp[gQ]
   ·simp at w⊢;omega
   injection h with h _
   subst h;exact absurd rfl u
  obtain⟨y,b,o,e,F,B,v,f,k,w,D⟩:=D6 (win:=win) ps ⟨x.bD.length,[],cs,x.bD++[⟨x.parent,c,a==2,win,x.bars,x.lv,j,[]⟩]⟩ m (by simp;omega);refine⟨y,⟨x.parent,c,a==2,win,x.bars,x.lv,j,[]⟩::b,?_,by simpa using e,by simp;omega,λi s d=>?_,?_,?_,rfl,by simp at w⊢;omega,λ_ h=>by cases h⟩
  ·have:¬x.bD.length=32:=by omega
   simpa[iL,rH,t,this]using o
  ·cases i with
   |zero=>
    simp at d;subst d;exact⟨rfl,rfl,by simp,by simp⟩
   |succ i=>
    rw[zGg]at d;obtain⟨r,A,n,z⟩:=B i s d;refine⟨r,A,?_,by simp at z⊢;omega⟩;rw[n];simp
    split<;>omega
  ·rw[v]
   show(if b.length=0 then(x.bD.length:Int)else((x.bD++[_]).length:Int)+b.length-1)=_
   simp only[zFu,zFh,zF4];rw[zF2 (show¬b.length+1=0 by omega)]
   split<;>omega
  have f:ps=emit y.lv b++gQ y.bars:=by simpa[gQ]using f
  have n:(⟨a,c,j,cs⟩:dU)=qj ⟨x.parent,c,a==2,win,x.bars,x.lv,j,[]⟩ cs:=by
   unfold qj;have:=g.1;simp only at this
   congr 1
   by_cases e:a=2
   ·simp[e]
   simp[e];omega
  have k:nxS y.lv b=cs:=k;simp only[emit];rw[k,<-n,zJa,<-f];simp
theorem Qr {α:Type} (f:α->α):∀(a b:List α) (k:Nat),(a++b).modify (a.length+k) f=a++b.modify k f
 |[],b,k=>by simp
 |x::a,b,k=>by
  have:=Qr f a b k;rw[zFh,show a.length+1+k=a.length+k+1 by omega];simp[this]
theorem Lu {F:List fQ} (e:∀(i:Nat) (h:i<F.length),GoodS i F[i]) {a:Nat}:∀(n:Nat),a+n<F.length->(∀i,i<=n->(iD F (a+i)).parent=if i=0 then -1 else(a:Int)+i-1)->lh F (a+n)=List.range' a (n+1)
 |0,c,d=>by
  have b:=d 0 zL;rw[uO c]at b;rw[uf e c,b];simp
 |n+1,c,d=>by
  have b:=d (n+1) zL;rw[uO c,zF2 (by omega)]at b;rw[uf e c,b,zF3 (by omega),show((a:Int)+(n+1:Nat)-1).toNat=a+n by omega,Lu e n (by omega) λi f=>d i (by omega)];rw[List.range'_concat (n:=n+1),zLd]
theorem Gh {F:List fQ} (cl:List T):∀(b:List fQ) (a:Nat),(∀(i:Nat) (s:fQ),b[i]? =some s->EqS (iD F (a+i)) s)->jV F cl (List.range' a b.length)=emit cl b
 |[],a,_=>rfl
 |s::b,a,h=>by
  obtain⟨e,g,j,m,d,_⟩:=h 0 s rfl
  have c:=Gh cl b (a+1) λi t f=>by
   have:=h (i+1) t (by simpa using f)
   rwa [show a+(i+1)=a+1+i by omega]at this
  rw[zFh,zLf,ug,c]
  have k:DF F cl (List.range' (a+1) b.length)=nxS cl b:=by
   cases b with
   |nil=>rfl
   |cons t l=>
    have:=(h 1 t rfl).2.2.2.1
    simpa[zLf,DF,nxS]using this
  simp only[emit,k,Nat.add_zero]at *;unfold qj;rw[e,g,j,d]
def BrB (b:dL):Prop:=(∀p∈b.ps,PtB p)/\b.ps.length<=8/\∃p l,b.ps=p::l/\p.form≠3
def SmB (s:fQ):Prop:=s.ends.length<=1/\s.bars.length<=8/\∀e∈s.ends,e.bars.length<=8
def rowB (F:List fQ) (s:Nat):List dL:=(iD F s).ends.map (KR F s)
theorem WU:∀(bs:List dL) (a:List fQ),(∀b∈bs,BrB b)->a.length+8*bs.length<=32->∃R:List fQ,mZ bs a=some (a++R)/\(∀s∈R,SmB s)/\
  ((∀(i:Nat) (h:i<(a++R).length),GoodS i (a++R)[i])->(List.range' a.length R.length).flatMap (rowB (a++R))=bs)
 |[],a,_,_=>⟨[],by simp[mZ],by simp,λ_=>rfl⟩
 |b::bs,a,hb,W=>by
  rw[zFh]at W;obtain⟨J,U,E⟩:=hb b (by simp);obtain⟨y,d,Q,N,h3,x,A,z,h7,L,S⟩:=D6 (win:=b.window) b.ps ⟨-1,[],[],a⟩ J (by simp only;omega);have D:=S E;simp only at N x A z L;obtain⟨k,C⟩:∃k,d.length=k+1:=⟨d.length-1,by have:=List.length_pos_iff.2 D;omega⟩
  rw[C,zF2 (by omega)]at A;obtain⟨f,u⟩:∃f:fQ->fQ,(λs=>{s with ends:=s.ends++[⟨b.id,y.lv,y.bars⟩]})=f:=⟨_,rfl⟩
  have v:oz b.id y=a++d.modify k f:=by
   unfold oz;rw[zF3 (by rw[A];omega),N,A,show((a.length:Int)+(k+1:Nat)-1).toNat=a.length+k by omega,<-u,Qr]
  have j:(d.modify k f).length=k+1:=by rw[List.length_modify,C]
  obtain⟨R,X,P,Y⟩:=WU bs (a++d.modify k f) (λc e=>hb c (zJs _ e)) (by rw[zFu,j];omega)
  have m:∀i,(d.modify k f)[i]? =(d[i]?).map λs=>if k=i then f s else s:=λi=>by
   rw[zHi];cases d[i]? <;>simp
  refine⟨d.modify k f++R,?_,?_,λB=>?_⟩
  ·unfold mZ;rw[Q];simp only;rw[v,X,zJa]
  ·intro s l;rcases zFy.1 l with l|l
   ·obtain⟨i,g⟩:=zH7.1 l;rw[m]at g;cases hx:d[i]? with
    |none=>rw[hx]at g;cases g
    |some t=>
     rw[hx]at g;obtain⟨K,p,O,M⟩:=x i t hx;simp only[Option.map_some,zJ0]at g;simp only[zF4,zFr]at M L
     split at g
     ·subst g;rw[<-u];refine⟨by simp[p],by simp only;omega,λe n=>?_⟩;simp only[p,List.nil_append,zG3]at n;subst n;simp only;omega
     subst g;exact⟨by simp[p],by omega,λe n=>by simp[p]at n⟩
   exact P s l
  rw[<-zJa]at B⊢;have G:=Y B;obtain⟨F,H⟩:=zN ((a++d.modify k f)++R)
  rw[H]at B G⊢
  have e:∀i s,d[i]? =some s->iD F (a.length+i)=if k=i then f s else s:=λi s l=>by
   have g:i<d.length:=(zFc.1 l).1;unfold iD;rw[<-H,zGh (by rw[zFu,j];omega),zGd (by omega),show a.length+i-a.length=i by omega,m,l];rfl
  have w:∀i s,d[i]? =some s->EqS (iD F (a.length+i)) s:=λi s l=>by
   rw[e i s l]
   split
   ·rw[<-u];exact⟨rfl,rfl,rfl,rfl,rfl,rfl,rfl⟩
   exact⟨rfl,rfl,rfl,rfl,rfl,rfl,rfl⟩
  have Z:a.length+k<F.length:=by rw[<-H,zFu,zFu,j];omega
  have I:lh F (a.length+k)=List.range' a.length (k+1):=Lu B k Z λi g=>by
   have g:i<d.length:=by omega
   have h:=w i _ (zAg g);rw[h.2.2.2.2.2.2,(x i _ (zAg g)).2.2.1]
  rw[zFu,j,<-List.range'_append_1,zGz];rw[zFu,j]at G;rw[G]
  have h:(List.range' a.length k).flatMap (rowB F)=[]:=by
   rw[List.flatMap_eq_nil_iff];intro q o;obtain⟨i,g,rfl⟩:=List.mem_range'.1 o;have n:i<d.length:=by omega
   unfold rowB;rw[zLd,e i _ (zAg n),zF2 (by omega),(x i _ (zAg n)).2.1];rfl
  rw[List.range'_concat,zGz,h];have r:k<d.length:=by omega
  have n:=e k _ (zAg r);rw[zF3 rfl]at n;obtain⟨K,p,O,M⟩:=x k _ (zAg r)
  have o:rowB F (a.length+k)=[b]:=by
   unfold rowB;rw[n,<-u];simp only[p,List.nil_append,zGq,zHc,zK1,and_true];unfold KR;rw[I,<-C,Gh y.lv d a.length w];have z:b.ps=emit y.lv d++gQ y.bars:=by simpa[gQ]using z
   rw[<-z,n,<-u];simp only[K,Int.toNat_natCast]
  simp only[zGx,List.flatMap_nil,zLd,o,List.nil_append,zHb,List.singleton_append]
end Go.Proofs.YtbjnhllkdilpfaaGreat
