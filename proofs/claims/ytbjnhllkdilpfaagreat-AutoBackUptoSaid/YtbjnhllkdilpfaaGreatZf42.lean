/- Part 42 of the proof. No conditions. -/
import Derived.Test.YtbjnhllkdilpfaaGreatZf41
import Derived.Test.YtbjnhllkdilpfaaGreatZf29
set_option linter.unusedVariables false
set_option linter.unusedSimpArgs false
set_option maxRecDepth 100000
set_option maxHeartbeats 16000000
namespace Go.Proofs.YtbjnhllkdilpfaaGreat
open Go.RowKit _root_.Go.Proofs.Tryz
def qQ (x:bn):Bool:=((decide (1<=x.form)&&decide (x.form<=3))&&nameB x.type)&&nameB x.name
def G7 (l:List bn):Bool:=decide (0<l.length)&&l.all qQ
def AV (e:az):Bool:=uV e !=13&&dX e
def Dh (q:di):Bool:=(((decide (0<q.branches.length)&&decide (1<=q.aS))&&decide (q.aS<=3))&&decide (q.window<=1152921504606846976))&&(q.key.isEmpty||nameB q.key)
def lT (q:di):Bool:=(Dh q&&q.branches.all G7)&&q.cond.all AV
theorem qI.get {B:Nat} {w:World}:∀{d:List Value} {a:List (List bn)},qI B w d a->∀k (b:k<a.length),∃A c,d[k]? =some (.slice A a[k].length c)/\Rd w w.heap.size A (a[k].flatMap bn.cells)
 |[],[],_,k,b=>absurd b (by simp)
 |v::d,l::a,h,0,b=>by
  obtain⟨A,c,rfl,_⟩:=aK h.1;exact⟨A,c,rfl,fM h.1⟩
 |v::d,l::a,h,k+1,b=>qI.get h.2 k (by simpa using b)
 |[],_::_,h,_,_=>h.elim
 |_::_,[],h,_,_=>h.elim
theorem qI.len {B:Nat} {w:World}:∀{a:List Value} {b:List (List bn)},qI B w a b->a.length=b.length
 |[],[],_=>rfl
 |v::a,l::b,h=>by simp[qI.len h.2]
 |[],_::_,h=>h.elim
 |_::_,[],h=>h.elim
theorem lK.get {B:Nat} {w:World} {A:Option Addr} {n c:Nat} {a:List (List bn)} (h:lK B w (.slice A n c) a) (k:Nat) (p:k<a.length):
  ∃g o b c',A=some ⟨g,o,none⟩/\g<w.heap.size/\w.cell? ⟨g,o+k,none⟩=some (.slice b a[k].length c')/\Rd w w.heap.size b (a[k].flatMap bn.cells):=by
 obtain⟨v,l,q⟩:=h;obtain⟨x,u,t,_⟩:=aK l;injection t with i hn hc
 subst i;have d:=fM (by rw[hn]at l;exact l);obtain⟨b,c',r,s⟩:=q.get k p;have e:=q.len;obtain⟨g,o,i,f,m⟩:=d.at_ (j:=k) (by rw[e];exact p);exact⟨g,o,b,c',i,f,m k _ r,s⟩
theorem zS.get {B:Nat} {w:World} {A:Option Addr} {n c:Nat} {x:List az} (h:zS B w (.slice A n c) x) (k:Nat) (y:k<x.length):
  ∃g o a d m l e i f,A=some ⟨g,o,none⟩/\g<w.heap.size/\mM (λg=>B<=g) w x[k] [a,d,m,l,e,i,f]/\∀(j:Nat) (u:Value),[a,d,m,l,e,i,f][j]? =some u->w.cell? ⟨g,o+(k*7+j),none⟩=some u:=by
 obtain⟨z,r,t⟩:=h;obtain⟨D,E,C,_⟩:=aK r;injection C with s hn hc
 subst s;have p:=fM (by rw[hn]at r;exact r);obtain⟨a,d,m,l,e,i,f,q,b⟩:=t.get k y;obtain⟨g,o,s,t,v⟩:=p.at_ (j:=k*7) (by have:=(zFc.1 (b 0 a rfl)).1;simpa using this);exact⟨g,o,a,d,m,l,e,i,f,s,t,q,λj u p=>v _ u (b j u p)⟩
theorem QV.old {B:Nat} {w w':World} {q:di} {cs:List Value} (h:QV B w q cs) (hb:Below w w w'):QV B w' q cs:=by
 obtain⟨bv,b,a,d,c⟩:=h;exact⟨bv,b,a,d.old hb,c.old hb⟩
theorem zS.len {B:Nat} {w:World} {A:Option Addr} {n c:Nat} {a:List az} (h:zS B w (.slice A n c) a):n=a.length:=by
 obtain⟨b,d,e⟩:=h;obtain⟨i,g,f,_⟩:=aK d;injection f with hA hn hc
 rw[hn,e.len.1]
theorem lK.len {B:Nat} {w:World} {A:Option Addr} {n c:Nat} {a:List (List bn)} (h:lK B w (.slice A n c) a):n=a.length:=by
 obtain⟨g,b,f⟩:=h;obtain⟨i,e,d,_⟩:=aK b;injection d with hA hn hc
theorem Di {α:Type} (f:α->Bool) (l:List α) (k:Nat) (h:k<l.length):(l.drop k).all f=(f l[k]&&(l.drop (k+1)).all f):=by rw[zFk h,List.all_cons]
theorem NH (B:Nat) (w:World) (q:di) (A1 A2:Option Addr) (H P c1 c2:Nat) (a1:lK B w (.slice A1 H c1) q.branches) (a4:zS B w (.slice A2 P c2) q.cond) (ad:∀e∈q.cond,gm e) (hn:H<=1000/\P<=100000) (a:q.aS<=1000) (a0:q.window<=9223372036854775807) (a7:∀l∈q.branches,l.length<=1000):
  Calls prog 65 #[.agg (q.cells (.slice A1 H c1) (.slice A2 P c2)).toArray] w λr w'=>r=.returned (.bool (lT q))/\Below w w w':=by
 have h:=a1.len;have C:=a4.len;have Rn:=zH a1;have Yx:=zH a4;have Ip:=zH ad;have vT:=zH h;have a3:=zH C;have a2:=zH a7;have uS:Hid (∀(S:ByteArray) (W:World),Calls prog 84 #[S] W λe w'=>e=.returned (.bool (nameB S.toList))/\Below W W w'):=zH λS W=>pM S W
 obtain⟨X,c⟩:=zN (Dh q)
 obtain⟨p,b⟩:=zN (lT q)
 rw[b];unfold lT at b;rw[c]at b;unfold Dh at c;obtain⟨dJ,x,R,win,aa,ka⟩:=q;simp only at Rn Yx Ip vT a3 a2 c b a a0;unfold di.cells ja;obtain⟨K,E⟩:=zN (bytes aa)
 have A:aa=K.toList:=by rw[<-E,aI]
 rw[A]at c;have s:=zH c;have G:=zH b;have d:decide ((win:Int)<=1152921504606846976)=decide (win<=1152921504606846976):=by rw[zJ7];omega
 have m:decide ((0:Int)<=(win:Int))=true:=by rw[zF9];omega
 obtain⟨wb,t⟩:=zN (decide (win<=1152921504606846976))
 have D:=s.out;rw[t]at d D;rw[<-h]at D;have z:=zH D;obtain⟨ao,al⟩:=hn;clear a1 a4 ad h C a7 c b A t s a0 D;simp only[E];clear E
 go_enter func65,ntmps65
 have kb:=Bk.new w 52 #[.slice A1 H c1,.slice A2 P c2,R,win,K,ka];have af:=zH ((zGp w.heap.size w).alloc zL (.cells #[.slice A1 H c1,.slice A2 P c2,R,win,K,ka] 52));go_upto_region 1 with fail
 generalize w.alloc (.cells #[.slice A1 H c1,.slice A2 P c2,R,win,K,ka] 52)=w0 at *;generalize b:w.heap.size=bx at *;have kD:=zH b;have t:=zH kb;have an:=kb.lt;clear kb b;have Rq:Hid (Below w w w0):=zH (by first|exact af.out|(rw[kD.out];exact af.out))
 go_cut[3] (λv wx=>v=.bool X/\Hid (Below w0 w0 wx))
 case first=>
  as_aux_lemma=>
  have b:=z.out;have q0:=t.cell 0;have q2:=t.cell 2;have L:=t.cell 3;have J:=t.cell 4
  by_cases s:0<H
  case neg=>
   have hI:¬(0:Int)<(H:Int):=by omega
   have a:X=false:=by rw[<-b,zGf s];rfl
   subst a;clear s b d m;go_wp2_with fail
   go_meet
   exact⟨rfl,zH zR⟩
  case pos=>
  have hI:(0:Int)<(H:Int):=by omega
  rw[zGm s]at b
  by_cases U:1<=R
  case neg=>
   have F:¬(1:Int)<=(R:Int):=by omega
   have a:X=false:=by rw[<-b,zGf U];rfl
   subst a;clear s U b d m;go_wp2_with fail
   go_meet
   exact⟨rfl,zH zR⟩
  case pos=>
  have F:(1:Int)<=(R:Int):=by omega
  rw[zGm U]at b
  by_cases E:R<=3
  case neg=>
   have LY:¬(R:Int)<=(3:Int):=by omega
   have a:X=false:=by rw[<-b,zGf E];rfl
   subst a;clear s U E b d m;go_wp2_with fail
   go_meet
   exact⟨rfl,zH zR⟩
  case pos=>
  have LY:(R:Int)<=(3:Int):=by omega
  rw[zGm E]at b;cases wb
  case false=>
   have a:X=false:=by rw[<-b];rfl
   subst a;clear s U E b;go_wp2_with fail
   go_meet
   exact⟨rfl,zH zR⟩
  case true=>
  by_cases hk:K.toList=[]
  case pos=>
   have C:K.toList.isEmpty=true:=by rw[hk];rfl
   have a:X=true:=by rw[<-b,hk];rfl
   subst a;clear s U E b;go_wp2_with fail
   go_meet
   exact⟨rfl,zH zR⟩
  case neg=>
   have C:K.toList.isEmpty=false:=by rw[zH6];intro h;exact hk (by simpa using h)
   have a:X=nameB K.toList:=by rw[<-b,C];rfl
   subst a;have I:=zH (uS.out K w0);clear s U E b;go_wp2_with fail
   refine I.mono ?_;rintro r w2 ⟨rfl,D⟩;have c:=zH D;clear D;go_wp2_with fail
   go_meet
   exact⟨rfl,c⟩
 case rest=>
 obtain⟨rfl,Q⟩:=hcut;have HA:Hid (((X&&(dJ.drop 0).all G7)&&x.all AV)=p):=zH (by rw[zFp];exact G.out);clear G z d m;have q0:=(t.old Q.out).cell 0;go_wp2_with fail
 clear q0
 go_loopw[3,46] (λo i wr=>∃(k:Nat) (z:Bool),k<=H/\o=.bool z/\i=.int .i64 k/\Hid (((z&&(dJ.drop k).all G7)&&x.all AV)=p)/\Hid (Below w0 w0 wr)) (λ_ i _=>H-(intOf i).toNat)
 case atStart=>exact⟨0,X,zFj _,rfl,rfl,HA,Q⟩
 case round=>
  clear HA Q;obtain⟨k,z,hk,rfl,rfl,HR,Q⟩:=hrel;obtain⟨wo,rfl⟩:∃wo:World,wo=wr:=⟨_,rfl⟩
  by_cases am:k<H
  ·as_aux_lemma=>
   have A:k<dJ.length:=by have:=vT.out;omega
   have I:Below w w wo:=Rq.trans (Q.mono Rq.size);obtain⟨g,o,A',c',hA,hg,G,C⟩:=(Rn.old I).get k A;subst hA;have a9:=a2.out dJ[k] (zFe A);have b:=HR.out;rw[Di _ _ _ A]at b;obtain⟨l,J⟩:=zN (dJ[k])
   rw[J]at G C a9 b;obtain⟨n,hn⟩:=zN l.length
   rw[hn]at G a9;have HN:=zH hn;have xJ:=zH C;have N:=zH b;obtain⟨tl,d⟩:=zN ((dJ.drop (k+1)).all G7)
   have b:=N.out;rw[d]at b;have ak:=zH d;have D:=zH b;obtain⟨L,F⟩:=zN (z&&decide (0<n))
   have m:=zH F;clear b C J hn HR N d F I hg;go_upto_region 5 with fail
   clear G
   go_cut[3] (λv wx=>v=.bool L/\wo=wx)
   case first=>
    as_aux_lemma=>
    have d:=m.out;cases z
    case false=>
     have a:L=false:=by rw[<-d];rfl
     subst a;clear d;go_wp2_with fail
     go_meet
     exact⟨rfl,rfl⟩
    case true=>
     by_cases h0:0<n
     ·have hI:(0:Int)<(n:Int):=by omega
      have a:L=true:=by rw[<-d,zGm h0];rfl
      have C:decide (0<n)=true:=zGm h0;subst a;clear d h0;go_wp2_with fail
      go_meet
      exact⟨rfl,rfl⟩
     have hI:¬(0:Int)<(n:Int):=by omega
     have a:L=false:=by rw[<-d,zGf h0];rfl
     have C:decide (0<n)=false:=zGf h0;subst a;clear d h0;go_wp2_with fail
     go_meet
     exact⟨rfl,rfl⟩
   case rest=>
   obtain⟨rfl,d⟩:=hcut;subst d
   have d:(((L&&(l.drop 0).all qQ)&&tl)&&x.all AV)=p:=by
    rw[<-D.out,<-m.out,zFp];unfold G7;rw[HN.out];cases z<;>cases decide (0<n)<;>cases l.all qQ<;>cases tl<;>rfl
   have ab:=zH d;have ZG:=Q;clear Q d D m;go_wp2_with fail
   go_loopw[3,58] (λo i wr=>∃(j:Nat) (y:Bool),j<=n/\o=.bool y/\i=.int .i64 j/\Hid ((((y&&(l.drop j).all qQ)&&tl)&&x.all AV)=p)/\Hid (Below wo wo wr)) (λ_ i _=>n-(intOf i).toNat)
   case atStart=>exact⟨0,L,zFj _,rfl,rfl,ab,zH zR⟩
   case round=>
    clear ab;obtain⟨j,y,hj,rfl,rfl,Z,O⟩:=hrel;obtain⟨d,rfl⟩:∃d:World,d=wr:=⟨_,rfl⟩
    by_cases ag:j<n
    ·as_aux_lemma=>
     have C:j<l.length:=by have:=HN.out;omega
     obtain⟨gi,oi,rfl,a5,Y⟩:=xJ.elem (n:=4) Df (by omega) C;have b:=Z.out;rw[Di _ _ _ C]at b;obtain⟨⟨f,ty,nm,ps⟩,hx⟩:∃z,l[j]=z:=⟨_,rfl⟩
     rw[hx]at Y b;have J:∀(q:Nat) (u:Value),(bn.cells ⟨f,ty,nm,ps⟩)[q]? =some u->d.cell? ⟨gi,oi+j*4+q,none⟩=some u:=λq u h=>(bK O.out gi _ a5).trans (Y q u h)
     obtain⟨T,hT⟩:=zN (bytes ty)
     obtain⟨M,hM⟩:=zN (bytes nm)
     have r0:d.cell? ⟨gi,oi+j*4,none⟩=some (.int .i64 f):=J 0 _ rfl;have r1:d.cell? ⟨gi,oi+j*4+1,none⟩=some (.string T):=(J 1 _ rfl).trans (by rw[hT]);have r2:d.cell? ⟨gi,oi+j*4+2,none⟩=some (.string M):=(J 2 _ rfl).trans (by rw[hM]);have r3:d.cell? ⟨gi,oi+j*4+3,none⟩=some (.int .i64 ps):=J 3 _ rfl
     have D:qQ ⟨f,ty,nm,ps⟩=(((decide (1<=f)&&decide (f<=3))&&nameB T.toList)&&nameB M.toList):=by
      unfold qQ;rw[<-hT,<-hM,aI,aI]
     rw[D]at b;have h:=zH b;clear J Y a5 hx b hT hM D Z;go_upto_region 9 with fail
     have kb:=Bk.new d 136 #[f,T,M,ps];have c:=zH (O.alloc O.size (.cells #[f,T,M,ps] 136));clear r0 r1 r2 r3 O;generalize d.alloc (.cells #[f,T,M,ps] 136)=W5 at *;generalize d.heap.size=gx at *;have ZI:=zH kb;clear kb;obtain⟨J,Y⟩:=zN (y&&(((decide (1<=f)&&decide (f<=3))&&nameB T.toList)&&nameB M.toList))
     have a6:=zH Y;clear Y
     have Xd:(((J&&(l.drop (j+1)).all qQ)&&tl)&&x.all AV)=p:=by
      rw[<-h.out,<-a6.out];cases y<;>simp[zK8]
     have Y:=zH Xd;clear Xd h;have h:=a6.out;have q0:=ZI.cell 0;have q1:=ZI.cell 1;cases y
     case false=>
      have a:J=false:=by rw[<-h];rfl
      subst a;clear h;go_wp2
      go_roundw
      case rel=>exact⟨j+1,_,by omega,rfl,by go_num,Y,c⟩
      case measure=>simp[intOf];omega
     case true=>
     by_cases s:1<=f
     case neg=>
      have hI:¬(1:Int)<=(f:Int):=by omega
      have a:J=false:=by rw[<-h,zGf s];rfl
      subst a;clear h s;go_wp2
      go_roundw
      case rel=>exact⟨j+1,_,by omega,rfl,by go_num,Y,c⟩
      case measure=>simp[intOf];omega
     case pos=>
     have hI:(1:Int)<=(f:Int):=by omega
     by_cases E:f<=3
     case neg=>
      have LY:¬(f:Int)<=(3:Int):=by omega
      have a:J=false:=by rw[<-h,zGf E,zJ4];rfl
      subst a;clear h s E;go_wp2
      go_roundw
      case rel=>exact⟨j+1,_,by omega,rfl,by go_num,Y,c⟩
      case measure=>simp[intOf];omega
     case pos=>
     have LY:(f:Int)<=(3:Int):=by omega
     have a:J=(nameB T.toList&&nameB M.toList):=by rw[<-h,zGm s,zGm E];rfl
     obtain⟨t1,a8⟩:=zN (nameB T.toList)
     obtain⟨t2,a5⟩:=zN (nameB M.toList)
     have uu:=zH (uS.out T W5);rw[a8]at uu a;rw[a5]at a
     have LQ:Hid (∀W,Calls prog 84 #[M] W λe w'=>e=.returned (.bool t2)/\Below W.heap.size W w'):=zH λW=>by
      have:=uS.out M W
      rwa [a5]at this
     have e:=zH a;clear h s E a a8 a5;go_wp2_with fail
     refine uu.mono ?_;rintro r w6 ⟨rfl,h⟩;have Ru:=zH h;have q2:=(ZI.old h).cell 2;clear h uu;cases t1
     case false=>
      have hs:J=false:=e.out;subst hs;clear e;go_wp2
      go_roundw
      case rel=>exact⟨j+1,_,by omega,rfl,by go_num,Y,zH (c.trans (Ru.mono c.size))⟩
      case measure=>simp[intOf];omega
     case true=>
      have hs:J=t2:=e.out;subst hs;clear e;go_wp2_with fail
      refine(LQ.out _).mono ?_;rintro r w7 ⟨rfl,a5⟩;have a8:=zH (Ru.trans (a5.mono Ru.size));clear a5;go_wp2
      go_roundw
      case rel=>exact⟨j+1,_,by omega,rfl,by go_num,Y,zH (c.trans (a8.mono c.size))⟩
      case measure=>simp[intOf];omega
    as_aux_lemma=>
    obtain rfl:j=n:=by omega
    have b:=Z.out;rw[zFq (by rw[HN.out];exact zFv _)]at b
    have a5:((y&&(dJ.drop (k+1)).all G7)&&x.all AV)=p:=by
     rw[<-b,ak.out];cases y<;>rfl
    have a8:=zH a5;have Ru:=zH (ZG.trans (O.mono ZG.size));clear b a5 Z;go_wp2
    go_roundw
    case rel=>exact⟨k+1,y,by omega,rfl,by go_num,a8,Ru⟩
    case measure=>simp[intOf];omega
  as_aux_lemma=>
  have b:=HR.out;rw[zFq (by have:=vT.out;omega)]at b
  have c:(z&&(x.drop 0).all AV)=p:=by
   rw[<-b,zFp];cases z<;>rfl
  have N:=zH c;have q1:=(t.old Q.out).cell 1;clear b c HR Rn vT a2 uS;go_wp2_with fail
  clear q1
  go_loopw[3,88] (λo i wr=>∃(j:Nat) (y:Bool),j<=P/\o=.bool y/\i=.int .i64 j/\Hid ((y&&(x.drop j).all AV)=p)/\Hid (Below wo wo wr)) (λ_ i _=>P-(intOf i).toNat)
  case atStart=>exact⟨0,z,zFj _,rfl,rfl,N,zH zR⟩
  case round=>
   clear N;obtain⟨j,y,hj,rfl,rfl,Z,O⟩:=hrel;obtain⟨d,rfl⟩:∃d:World,d=wr:=⟨_,rfl⟩
   have M:=zH (Q.trans (O.mono Q.size))
   by_cases ag:j<P
   ·as_aux_lemma=>
    have C:j<x.length:=by have:=a3.out;omega
    have I:Below w w d:=Rq.trans (M.mono Rq.size);obtain⟨g,o,y0,y1,J,y3,y4,y5,y6,hA,hg,D,G⟩:=(Yx.old I).get j C;subst hA;obtain⟨d1,d2,d3,d4,d5,d6,c⟩:=D.op;injection c with h0 c
    injection c with s c
    injection c with U c
    injection c with E c
    injection c with h4 c
    injection c with h5 c
    injection c with h6 c
    subst h0 s U E h4 h5 h6;have b:=Z.out;rw[Di _ _ _ C]at b;have s:=Ip.out x[j] (zFe C);have U:Hid (∀W,Below d d W->Calls prog 88 #[.agg #[.int .i64 (uV x[j]),y1,J,y3,y4,y5,y6]] W λr w'=>r=.returned (.bool (dX x[j]))/\Below W.heap.size W w'):=zH λW E=>uH x[j] _ W (D.old E) s
    generalize x[j]=E at *;have q1:=(t.old M.out).cell 1;have r0:d.cell? ⟨g,o+j*7,none⟩=some (.int .i64 (uV E)):=G 0 _ rfl;have r1:d.cell? ⟨g,o+j*7+1,none⟩=some y1:=G 1 _ rfl;have r2:d.cell? ⟨g,o+j*7+2,none⟩=some J:=G 2 _ rfl;have r3:d.cell? ⟨g,o+j*7+3,none⟩=some y3:=G 3 _ rfl;have r4:d.cell? ⟨g,o+j*7+4,none⟩=some y4:=G 4 _ rfl;have r5:d.cell? ⟨g,o+j*7+5,none⟩=some y5:=G 5 _ rfl;have r6:d.cell? ⟨g,o+j*7+6,none⟩=some y6:=G 6 _ rfl;obtain⟨L,F⟩:=zN (y&&(uV E !=13&&dX E))
    have Xd:(L&&(x.drop (j+1)).all AV)=p:=by
     rw[<-b,<-F];unfold AV;cases y<;>simp[zK8]
    have Y:=zH Xd;have m:=zH F;clear b Xd F G D s I Z hg;cases y
    case false=>
     have a:L=false:=by rw[<-m.out];rfl
     subst a;clear m;go_wp2
     go_roundw
     case rel=>exact⟨j+1,_,by omega,rfl,by go_num,Y,O⟩
     case measure=>simp[intOf];omega
    case true=>
    by_cases s:uV E=13
    case pos=>
     have hI:((uV E:Int) !=13)=false:=by rw[zG0];omega
     have a:L=false:=by rw[<-m.out,s];rfl
     subst a;clear m s;go_wp2
     go_roundw
     case rel=>exact⟨j+1,_,by omega,rfl,by go_num,Y,O⟩
     case measure=>simp[intOf];omega
    case neg=>
     have hI:((uV E:Int) !=13)=true:=by rw[zG1];omega
     have a:dX E=L:=by
      rw[<-m.out];have:(uV E !=13)=true:=by rw[zG1];exact s
      rw[this];rfl
     have e:=zH a;clear m s a;go_wp2_with fail
     refine(U.out d zR).mono ?_;rintro r w6 ⟨rfl,h⟩;have Ru:=zH (O.trans (h.mono O.size));rw[e.out];clear h U r0 r1 r2 r3 r4 r5 r6 q1;go_wp2
     go_roundw
     case rel=>exact⟨j+1,_,by omega,rfl,by go_num,Y,Ru⟩
     case measure=>simp[intOf];omega
   as_aux_lemma=>
   obtain rfl:j=P:=by omega
   have b:=Z.out;rw[zFq (by have:=a3.out;omega)]at b;have e:p=y:=by rw[<-b];cases y<;>rfl
   subst e;have e:=zH (Rq.trans (M.mono Rq.size));clear b Z;go_wp2
   go_ret
   exact⟨rfl,by first|exact e.out|(rw[<-kD.out];exact e.out)|(rw[kD.out];exact e.out)⟩
def Dj:Nat->List (List bn)->Nat
 |_,[]=>0
 |i,l::r=>(if 0<i then 3 else 0)+kX l+Dj (i+1) r
def rX (n:Nat) (e:az):Nat×Nat:=if 1<n/\uV e=14 then((fH e).1+2,(fH e).2+1)else fH e
def y9 (n:Nat):Nat->List az->Nat
 |_,[]=>0
 |i,e::r=>(if i=0 then 7 else 5)+(rX n e).1+y9 n (i+1) r
def J3 (n:Nat):Nat->List az->Nat
 |d,[]=>d
 |d,e::r=>J3 n (max d (rX n e).2) r
def BA (st:Nat):Nat:=([6,4,3]:List Nat).getD (st-1) 0
def Rx (q:di):Nat:=8+Dj 0 q.branches+y9 q.cond.length 0 q.cond+(18+BA q.aS+jr q.window)+(if q.key=[]then 0 else 14+q.key.length)
def pG (q:di):Nat:=
 if lT q=false then 3
 else if 4<q.branches.length\/200<iJ q then 2
 else if q.branches.any (λl=>decide (8<l.length))=true then 2
 else if 4000<Rx q then 2
 else if 30<J3 q.cond.length 0 q.cond then 14 else 0
theorem PM (n:Nat):∀(l:List az) (i:Nat),(∀e∈l,dX e=true/\gm e)->y9 n i l<=90*aX i l
 |[],i,_=>zFv _
 |e::r,i,h=>by
  have b:=tK e (h e (by simp)).1 (h e (by simp)).2;have c:=PM n r (i+1) λx a=>h x (by simp[a])
  have d:1<=aF e:=by cases e<;>simp[aF]<;>omega
  have f:(rX n e).1<=(fH e).1+2:=by unfold rX;split<;>simp
  have a:(if i=0 then 7 else 5:Nat)<=7:=by split<;>omega
  rw[nU]
  show(if i=0 then 7 else 5)+(rX n e).1+y9 n (i+1) r<=_
  omega
theorem wL:∀(l:List az) (i:Nat),∀e∈l,aF e<=aX i l
 |[],i,e,h=>by simp at h
 |x::r,i,e,h=>by
  rw[nU];rcases zF6.1 h with rfl|h
  ·omega
  have:=wL r (i+1) e h;omega
theorem Af {q:di} (h:lT q=true):(∀l∈q.branches,GZ l)/\(∀e∈q.cond,dX e=true)/\(1<=q.aS/\q.aS<=3)/\q.window<=1152921504606846976/\q.key.length<=24/\(∀l∈q.branches,0<l.length)/\0<q.branches.length:=by
 unfold lT Dh at h;simp only[zFn,zF9,zG8,zGu]at h;refine⟨λl c x d=>?_,λe f=>?_,⟨h.1.1.1.1.1.2,h.1.1.1.1.2⟩,h.1.1.1.2,?_,λl c=>?_,h.1.1.1.1.1.1⟩
 ·have a:=h.1.2 l c;unfold G7 at a;simp only[zFn,zF9,zGu]at a;have b:=a.2 x d;unfold qQ at b;simp only[zFn]at b;exact⟨uG b.1.2,uG b.2⟩
 ·have a:=h.2 e f;unfold AV at a;simp only[zFn]at a;exact a.2
 ·rcases h.1.1.2 with a|a
  ·have:=kH a;omega
  exact uG a
 have a:=h.1.2 l c;unfold G7 at a;simp only[zFn,zF9]at a;exact a.1
def G9 (q:di) (w:World) (e:Ending) (w':World):Prop:=∃S:ByteArray,e=.returned (.tuple #[S,.int .i64 (pG q:Nat)])/\Below w w w'
theorem print_any (B:Nat) (w:World) (q:di) (A1 A2:Option Addr) (L f c1 c2:Nat) (am:lK B w (.slice A1 L c1) q.branches) (a8:zS B w (.slice A2 f c2) q.cond) (b5:∀e∈q.cond,gm e) (hn:L<=1000/\f<=100000) (br:q.aS<=1000) (ab:q.window<=9223372036854775807) (b0:∀l∈q.branches,l.length<=1000) (b3:iJ q<=1000000):
  Calls prog 43 #[.agg (q.cells (.slice A1 L c1) (.slice A2 f c2)).toArray] w (G9 q w):=by
 have p:=am.len;have n:=a8.len;have Rn:=zH am;have Yx:=zH a8;have Ip:=zH b5;have vT:=zH p;have af:=zH n;have bh:=zH b0;have y:Hid (∀W,Below w w W->Calls prog 65 #[.agg #[.slice A1 L c1,.slice A2 f c2,q.aS,q.window,.string (bytes q.key),q.keyAt]] W λr w'=>r=.returned (.bool (lT q))/\Below W.heap.size W w'):=zH λW hW=>NH B W q A1 A2 L f c1 c2 (am.old hW) (a8.old hW) b5 hn br ab b0
 have t:Hid (∀W,Below w w W->Calls prog 41 #[.agg #[.slice A1 L c1,.slice A2 f c2,q.aS,q.window,.string (bytes q.key),q.keyAt]] W λr w'=>r=.returned (.int .i64 (iJ q:Nat))/\Below W.heap.size W w'):=zH λW hW=>by
  obtain⟨a,Q,O⟩:=a8.old hW;obtain⟨m,h,b,_⟩:=aK Q;injection b with hA hnn J
  subst hA hnn J;exact CO B W q (.slice A1 L c1) A2 c2 a Q O b3
 obtain⟨RT,b⟩:=zN (lT q)
 obtain⟨NQ,m⟩:=zN (iJ q)
 obtain⟨cs,a⟩:=zN (pG q)
 have D:=zH (λh:lT q=true=>Af h);unfold G9;rw[a];unfold pG at a;rw[b]at y a;rw[m]at t a b3;have b7:=zH b;have av:=zH m;have u:=zH a;have an:=zH ab;obtain⟨z,cz⟩:=hn;obtain⟨K,F⟩:=zN (bytes q.key)
 have b9:=zH F;rw[F]at y t;unfold di.cells ja;clear am a8 b5 p n b0 a b m ab;simp only[F];clear F;generalize a:q.aS=st at *;generalize b:q.window=win at *;generalize q.keyAt=ka at *;have ao:=zH a;have ar:=zH b;clear a b
 go_enter func43,ntmps43
 have b:=Bk.new w 52 #[.slice A1 L c1,.slice A2 f c2,st,win,K,ka];have x:=zH ((zGp w.heap.size w).alloc zL (.cells #[.slice A1 L c1,.slice A2 f c2,st,win,K,ka] 52));go_upto_region 1 with fail
 generalize w.alloc (.cells #[.slice A1 L c1,.slice A2 f c2,st,win,K,ka] 52)=w0 at *;obtain⟨gx,a⟩:=zN w.heap.size
 have N:=zH a;rw[a]at b⊢;have X:=zH b;have cp:=b.lt;obtain⟨q0,q1,q2,q3,q4,q5⟩:=zc6 b;clear b a;go_wp2_with fail
 refine(y.out w0 x.out).mono ?_;rintro r w1 ⟨rfl,b⟩;have a:=zH b;clear b q0 q1 q2 q3 q4 q5 y;cases RT
 case false=>
  as_aux_lemma=>
  have b:=u.out;rw[zF3 rfl]at b;subst b;have n:=zH (x.trans (a.mono x.size));clear u;go_wp2
  go_ret2
  exact⟨_,rfl,by first|exact n.out|(rw[<-N.out];exact n.out)|(rw[N.out];exact n.out)⟩
 case true=>
 have b:=u.out;rw[zF2 (by decide)]at b;have m:=D.out b7.out;have NI:=zH m;have A:=zH b;clear u b m D;obtain⟨a5,m⟩:=zN (decide (4<L)||decide (200<NQ))
 have u:=zH m;clear m;have kq:=X.old a.out;obtain⟨q0,q1,q2,q3,q4,q5⟩:=zc6 kq;clear kq;go_upto_region 3 with fail
 go_cut[22] (λv wx=>v=.bool a5/\Hid (Below w0 w0 wx))
 case first=>
  as_aux_lemma=>
  have hb:=u.out
  by_cases y:4<L
  ·have hI:(4:Int)<(L:Int):=by omega
   have m:a5=true:=by rw[<-hb,zGm y];rfl
   subst m;clear y hb;go_wp2_with fail
   go_meet
   exact⟨rfl,a⟩
  have hI:¬(4:Int)<(L:Int):=by omega
  have m:a5=decide (200<NQ):=by rw[<-hb,zGf y];rfl
  have p:=zH m;have D:=zH (t.out w1 (x.trans (a.mono x.size)));clear y hb m;go_wp2_with fail
  refine D.mono ?_;rintro r w2 ⟨rfl,a1⟩;have M:=zH (a.trans (a1.mono a.size));clear a1 D t
  by_cases O:200<NQ
  ·have a6:(200:Int)<(NQ:Int):=by omega
   have E:a5=true:=by rw[p.out,zGm O]
   subst E;clear O;go_wp2_with fail
   go_meet
   exact⟨rfl,M⟩
  have a6:¬(200:Int)<(NQ:Int):=by omega
  have D:decide ((200:Int)<(NQ:Int))=false:=zGf a6;have E:a5=false:=by rw[p.out,zGf O]
  subst E;clear O;go_wp2_with fail
  go_meet
  exact⟨rfl,M⟩
 case rest=>
 obtain⟨rfl,HB⟩:=hcut;clear q0 q1 q2 q3 q4 q5 a t;cases a5
 case true=>
  as_aux_lemma=>
  have b:=A.out;have hb:=u.out
  rw[zF3 (by
   rw[<-vT.out]
   simpa using hb)]at b
  subst b;have n:=zH (x.trans (HB.mono x.size));clear A hb;go_wp2
  go_ret2
  exact⟨_,rfl,by first|exact n.out|(rw[<-N.out];exact n.out)|(rw[N.out];exact n.out)⟩
 case false=>
 have hb:=u.out
 have p:L<=4/\NQ<=200:=by
  have h:=hb;simp at h;omega
 have b:=A.out;rw[zF2 (by rw[<-vT.out];omega)]at b;have a:=zH b;obtain⟨ci,cf⟩:=p;clear b A hb u b3 z;obtain⟨U9,u⟩:=zN (q.branches.any (λl=>decide (8<l.length)))
 have b:=a.out;rw[u]at b;have ad:=zH b;have aq:Hid ((q.branches.drop 0).any (λl=>decide (8<l.length))=U9):=zH (by rw[zFp];exact u);have t:Hid (8+Dj 0 (q.branches.drop 0)=8+Dj 0 q.branches):=zH (by rw[zFp]);clear b a u;have q0:=(X.old HB.out).cell 0;go_wp2_with fail
 clear q0;have z:Dj 0 q.branches<=0+Dj 0 q.branches:=by omega
 obtain⟨NB,p⟩:=zN (8+Dj 0 q.branches)
 have a:=t.out;rw[p]at a;have ap:=zH a;have AB:=zH p;clear t a p z
 go_loopw[4,26] (λs i wr=>∃(k:Nat) (S:ByteArray),k<=L/\s=.string S/\i=.int .i64 k/\S.size<=8+488*k/\Hid (S.size+Dj k (q.branches.drop k)=NB)/\Hid ((q.branches.drop k).any (λl=>decide (8<l.length))=U9)/\Hid (Below w0 w0 wr)) (λ_ i _=>L-(intOf i).toNat)
 case atStart=>exact⟨0,_,zFj _,rfl,rfl,zFv _,ap,aq,HB⟩
 case round=>
  clear ap aq HB;obtain⟨k,S,hk,rfl,rfl,c3,HR,a9,HB⟩:=hrel;obtain⟨wo,rfl⟩:∃wo:World,wo=wr:=⟨_,rfl⟩
  by_cases bv:k<L
  ·as_aux_lemma=>
   have a0:k<q.branches.length:=by have:=vT.out;omega
   have a3:Below w w wo:=x.trans (HB.mono x.size);obtain⟨g,o,A',c',hA,hg,J,al⟩:=(Rn.old a3).get k a0;subst hA;have P:=HR.out;have ha:=a9.out;rw[zFk a0]at P ha;have bm:=bh.out q.branches[k] (zFe a0);have ak:=NI.1 q.branches[k] (zFe a0);obtain⟨l,hl⟩:=zN (q.branches[k])
   rw[hl]at J al P ha bm ak
   by_cases h8:8<l.length
   ·as_aux_lemma=>
    have hI:(8:Int)<(l.length:Int):=by omega
    have u:U9=true:=by
     rw[<-ha,List.any_cons,zGm h8];rfl
    have b:=ad.out;rw[u,zF3 rfl]at b;subst b;have n:=zH a3;clear P ha al hl HR a9 h8 ak u ad vT;go_wp2
    go_ret2
    exact⟨_,rfl,by first|exact n.out|(rw[<-N.out];exact n.out)|(rw[N.out];exact n.out)⟩
   as_aux_lemma=>
   have hI:¬(8:Int)<(l.length:Int):=by omega
   have D:(q.branches.drop (k+1)).any (λl=>decide (8<l.length))=U9:=by
    rw[<-ha,List.any_cons,zGf h8];rfl
   have R:=zH D;obtain⟨d1,a⟩:=zN (if 0<k then 3 else 0:Nat)
   have aa:S.size+(d1+kX l+Dj (k+1) (q.branches.drop (k+1)))=NB:=by rw[<-a];exact P
   have p:=zH aa;have t:=zH a;have a4:d1<=3:=by rw[<-a];split<;>omega
   have H:=G5 l 0 ak;have z:Hid (kX l<=485):=zH (by unfold kX;omega);have UH:Hid (∀W,Below wo wo W->Calls prog 66 #[.slice A' l.length c'] W (zZ (kX l) W)):=zH λW hW=>Rk l A' c' W ((al.below hW).more hW.size) (by omega) ak
   unfold zZ at UH;have a2:S.size<=2000:=by omega
   clear P ha D a aa al hl h8 ak H bm HR a9 ad vT a3 hg;generalize kX l=il at *;go_upto_if 35 with fail
   clear J
   go_cut[4] (λv wx=>∃S':ByteArray,v=.string S'/\Hid (S'.size=S.size+d1)/\wo=wx)
   case first=>
    as_aux_lemma=>
    by_cases H:0<k
    ·have a6:(0:Int)<(k:Int):=by omega
     have O:d1=3:=by rw[<-t.out,zF3 H]
     have E:¬9223372036854775807<S.size+3:=by omega
     have I:Hid ((S++(⟨#[32,124,32]⟩:ByteArray)).size=S.size+d1):=zH (by rw[au,O];rfl);clear H O;go_wp2_with fail
     go_meet
     exact⟨_,rfl,I,rfl⟩
    have a6:¬(0:Int)<(k:Int):=by omega
    have O:d1=0:=by rw[<-t.out,zF2 H]
    have I:Hid (S.size=S.size+d1):=zH (by omega);clear H O;go_wp2_with fail
    go_meet
    exact⟨_,rfl,I,rfl⟩
   case rest=>
   obtain⟨D,rfl,yQ,Z⟩:=hcut;subst Z;go_wp2_with fail
   refine(UH.out wo zR).mono ?_;rintro r w4 ⟨T,rfl,hT,E⟩;have HT:=zH hT;have U:=zH (HB.trans (E.mono HB.size));have a7:D.size<=2003:=by have:=yQ.out;omega
   have c6:T.size<=485:=by have:=z.out;omega
   have Y:¬9223372036854775807<D.size+T.size:=by omega
   have n:Hid ((D++T).size+Dj (k+1) (q.branches.drop (k+1))=NB):=zH (by
    rw[au,yQ.out,HT.out];have:=p.out
    omega)
   have a:(D++T).size<=8+488*(k+1):=by
    rw[au];have:=yQ.out;have:=HT.out;have:=z.out;omega
   clear hT E UH HB p t;go_wp2
   go_roundw
   case rel=>exact⟨k+1,D++T,by omega,rfl,by go_num,a,n,R,U⟩
   case measure=>simp[intOf];omega
  
  obtain rfl:k=L:=by omega
  have P:=HR.out;have ha:=a9.out;rw[zFq (by have:=vT.out;omega)]at P ha;have u:U9=false:=by rw[<-ha];rfl
  have b:=ad.out;rw[u,zF2 (by decide)]at b;have LZ:=zH b;have a:S.size=NB:=by simpa[Dj]using P
  have b6:=zH a;have hS:S.size<=2000:=by omega
  clear P ha u b HR a9 ad a Rn bh c3;have q1:=(X.old HB.out).cell 1;go_wp2_with fail
  clear q1;obtain⟨NC,p⟩:=zN (S.size+y9 f 0 q.cond)
  obtain⟨MX,a⟩:=zN (J3 f 0 q.cond)
  have z:=PM f q.cond 0 λe he=>⟨NI.2.1 e he,Ip.out e he⟩
  have t:aX 0 q.cond=NQ:=av.out;have ce:NC<=20000:=by rw[t]at z;omega
  have NJ:Hid (∀e∈q.cond,aF e<=200):=zH λe he=>by
   have:=wL q.cond 0 e he;omega
  have H0:Hid (S.size+y9 f 0 (q.cond.drop 0)=NC):=zH (by rw[zFp];exact p);have M0:Hid (J3 f 0 (q.cond.drop 0)=MX):=zH (by rw[zFp];exact a);have bb:=zH p;have bk:=zH a;clear p a z t bv hk
  go_loopw[4,7,46] (λs d i wr=>∃(j:Nat) (T:ByteArray) (p:Nat),j<=f/\s=.string T/\d=.int .i64 p/\i=.int .i64 j/\p<=500/\Hid (T.size+y9 f j (q.cond.drop j)=NC)/\Hid (J3 f p (q.cond.drop j)=MX)/\Hid (Below w0 w0 wr)) (λ_ _ i _=>f-(intOf i).toNat)
  case atStart=>exact⟨0,S,0,zFj _,rfl,rfl,rfl,by omega,H0,M0,HB⟩
  case round=>
   clear H0 M0;obtain⟨j,T,p,hj,rfl,rfl,rfl,cu,HR,HM,Ea⟩:=hrel;obtain⟨wp,rfl⟩:∃wp:World,wp=wr:=⟨_,rfl⟩
   by_cases ch:j<f
   ·as_aux_lemma=>
    have ag:j<q.cond.length:=by have:=af.out;omega
    have a3:Below w w wp:=x.trans (Ea.mono x.size);obtain⟨g,o,y0,y1,y2,y3,y4,y5,y6,hA,hg,a2,J⟩:=(Yx.old a3).get j ag;subst hA;obtain⟨d1,d2,d3,d4,d5,d6,t⟩:=a2.op;injection t with h0 t
    injection t with Q t
    injection t with O t
    injection t with h3 t
    injection t with y t
    injection t with h5 t
    injection t with h6 t
    subst h0 Q O h3 y h5 h6;have P:=HR.out;have hm:=HM.out;rw[zFk ag]at P hm;have U:=Ip.out q.cond[j] (zFe ag);have a4:=NI.2.1 q.cond[j] (zFe ag);have b1:=NJ.out q.cond[j] (zFe ag);have b2:=tK q.cond[j] a4 U;have HQ:Hid (Calls prog 67 #[.agg #[.int .i64 (uV q.cond[j]),y1,y2,y3,y4,y5,y6]] wp (wK (fH q.cond[j]) wp)):=zH (xX q.cond[j] _ wp a2 a4 U (by omega));unfold wK at HQ;generalize q.cond[j]=E at *;have q1:=(X.old Ea.out).cell 1;have r0:wp.cell? ⟨g,o+j*7,none⟩=some (.int .i64 (uV E)):=J 0 _ rfl;have r1:wp.cell? ⟨g,o+j*7+1,none⟩=some y1:=J 1 _ rfl;have r2:wp.cell? ⟨g,o+j*7+2,none⟩=some y2:=J 2 _ rfl;have r3:wp.cell? ⟨g,o+j*7+3,none⟩=some y3:=J 3 _ rfl;have r4:wp.cell? ⟨g,o+j*7+4,none⟩=some y4:=J 4 _ rfl;have r5:wp.cell? ⟨g,o+j*7+5,none⟩=some y5:=J 5 _ rfl;have r6:wp.cell? ⟨g,o+j*7+6,none⟩=some y6:=J 6 _ rfl;obtain⟨⟨cl,y⟩,R⟩:∃z,rX f E=z:=⟨_,rfl⟩
    have a7:y<=401/\cl<=16002:=by
     have Q:(rX f E).2<=(fH E).2+1/\(rX f E).1<=(fH E).1+2:=by
      unfold rX
      split
      ·exact⟨zFv _,zFv _⟩
      exact⟨zKq _ _,zKq _ _⟩
     rw[R]at Q;simp only at Q;omega
    have aa:T.size+((if j=0 then 7 else 5)+cl+y9 f (j+1) (q.cond.drop (j+1)))=NC:=by
     rw[<-P]
     show _=T.size+((if j=0 then 7 else 5)+(rX f E).1+y9 f (j+1) (q.cond.drop (j+1)))
     rw[R]
    have a:J3 f (max p y) (q.cond.drop (j+1))=MX:=by
     rw[<-hm]
     show _=J3 f (max p (rX f E).2) (q.cond.drop (j+1))
     rw[R]
    unfold rX at R;have ax:=zH R;have A:=zH aa;have oI:=zH a;have cj:T.size<=20000:=by omega
    have bs:=a7.1;have bt:=a7.2;have D:(fH E).1<=16000/\(fH E).2<=400:=by omega
    obtain⟨⟨c5,co⟩,aw⟩:∃z,fH E=z:=⟨_,rfl⟩
    have z:=ax.out;rw[aw]at HQ z D;simp only at HQ z D;have YB:=zH z;have bj:=D.1;have cc:=D.2;clear J a2 U a4 b1 b2 P aa hm a R a7 a3 aw z D ax HR HM;go_wp2_with fail
    refine HQ.mono ?_;rintro r w2 ⟨U,rfl,z,a1⟩;have HU:=zH z;have cv:U.size<=16000:=by rw[z];exact bj
    have q1:=((X.old Ea.out).old a1).cell 1;have r0:=(bK a1 g _ hg).trans r0;have M:=zH (Ea.trans (a1.mono Ea.size));clear z a1 HQ r1 r2 r3 r4 r5 r6 Ea hg;obtain⟨R,z⟩:=zN (decide (1<f)&&decide (uV E=14))
    have Yq:=zH z;clear z;go_upto_region 20 with fail
    go_cut[70] (λv wx=>v=.bool R/\w2=wx)
    case first=>
     as_aux_lemma=>
     have D:=Yq.out
     by_cases Q:1<f
     ·have hI:(1:Int)<(f:Int):=by omega
      have z:((uV E:Int)==14)=R:=by
       rw[<-D,zGm Q,zJc,zHe,zFt,zF9];omega
      clear Q D;cases R
      all_goals
       go_wp2_with fail
       go_meet
       exact⟨rfl,rfl⟩
     have hI:¬(1:Int)<(f:Int):=by omega
     have m:R=false:=by rw[<-D,zGf Q];rfl
     subst m;clear Q D;go_wp2_with fail
     go_meet
     exact⟨rfl,rfl⟩
    case rest=>
    obtain⟨rfl,Z⟩:=hcut;subst Z;clear q1 r0;go_upto_if 70 with fail
    go_cut[9,10] (λv9 m wx=>∃z:ByteArray,v9=.string z/\m=.int .i64 y/\Hid (z.size=cl)/\w2=wx)
    case first=>
     as_aux_lemma=>
     cases R
     ·have D:¬(1<f/\uV E=14):=by
       intro h;have:=Yq.out;simp[h.1,h.2]at this
      have J:=YB.out;rw[zF2 D]at J;injection J with e1 e2
      subst e1;subst e2;clear D;go_wp2_with fail
      go_meet
      exact⟨U,rfl,rfl,HU,rfl⟩
     have D:1<f/\uV E=14:=by simpa using Yq.out
     have J:=YB.out;rw[zF3 D]at J;injection J with e1 e2
     subst e1;subst e2;have Y:¬9223372036854775807<1+U.size:=by omega
     have a4:¬9223372036854775807<((⟨#[40]⟩:ByteArray)++U).size+1:=by rw[au];show¬9223372036854775807<1+U.size+1;omega
     have a2:¬9223372036854775807<1+U.size+1:=by omega
     have I:Hid ((((⟨#[40]⟩:ByteArray)++U)++(⟨#[41]⟩:ByteArray)).size=c5+2):=zH (by
      rw[au,au];have:=HU.out
      show 1+U.size+1=_
      omega)
     clear D YB;go_wp2_with fail
     go_meet
     exact⟨_,rfl,by go_num,I,rfl⟩
    case rest=>
    obtain⟨z,rfl,rfl,I,Z⟩:=hcut;subst Z;have cq:z.size<=16002:=by have:=I.out;omega
    clear YB HU Yq R;have a7:max p y<=500:=by omega
    by_cases b1:j=0
    ·as_aux_lemma=>
     subst b1
     have Xj:Hid ((T++((⟨#[32,87,72,69,82,69,32]⟩:ByteArray)++z)).size+y9 f (0+1) (q.cond.drop (0+1))=NC):=zH (by
      rw[au,au,I.out];have:=A.out;rw[zF3 rfl]at this
      show T.size+(7+cl)+_=NC
      omega)
     have Y:¬9223372036854775807<7+z.size:=by omega
     have a4:¬9223372036854775807<T.size+((⟨#[32,87,72,69,82,69,32]⟩:ByteArray)++z).size:=by rw[au];show¬9223372036854775807<T.size+(7+z.size);omega
     have a2:¬9223372036854775807<T.size+(7+z.size):=by omega
     have Tf:=zH (M.alloc M.size (.cells #[.string ⟨#[32,87,72,69,82,69,32]⟩,.string ⟨#[32,65,78,68,32]⟩] 9));have kk:=Bk.new w2 9 #[.string ⟨#[32,87,72,69,82,69,32]⟩,.string ⟨#[32,65,78,68,32]⟩];have b2:=kk.cell 0;clear kk A I
     by_cases D:p<y
     ·have Xa:(p:Int)<(y:Int):=by omega
      have m:max p y=y:=by omega
      have a:=oI.out;rw[m]at a;have R:=zH a;clear D m a oI a7;go_wp2
      go_roundw
      case rel=>exact⟨0+1,_,y,by omega,rfl,by go_num,by go_num,by omega,Xj,R,Tf⟩
      case measure=>simp[intOf];omega
     have Xa:¬(p:Int)<(y:Int):=by omega
     have m:max p y=p:=by omega
     have a:=oI.out;rw[m]at a;have R:=zH a;clear D m a oI a7;go_wp2
     go_roundw
     case rel=>exact⟨0+1,_,p,by omega,rfl,by go_num,by go_num,by omega,Xj,R,Tf⟩
     case measure=>simp[intOf];omega
    by_cases aw:j=1
    ·as_aux_lemma=>
     subst aw
     have Xj:Hid ((T++((⟨#[32,65,78,68,32]⟩:ByteArray)++z)).size+y9 f (1+1) (q.cond.drop (1+1))=NC):=zH (by
      rw[au,au,I.out];have:=A.out;rw[zF2 (by decide)]at this
      show T.size+(5+cl)+_=NC
      omega)
     have Y:¬9223372036854775807<5+z.size:=by omega
     have a4:¬9223372036854775807<T.size+((⟨#[32,65,78,68,32]⟩:ByteArray)++z).size:=by rw[au];show¬9223372036854775807<T.size+(5+z.size);omega
     have a2:¬9223372036854775807<T.size+(5+z.size):=by omega
     have Tf:=zH (M.alloc M.size (.cells #[.string ⟨#[32,87,72,69,82,69,32]⟩,.string ⟨#[32,65,78,68,32]⟩] 9));have kk:=Bk.new w2 9 #[.string ⟨#[32,87,72,69,82,69,32]⟩,.string ⟨#[32,65,78,68,32]⟩];have ax:=kk.cell 1;clear kk A I
     by_cases D:p<y
     ·have Xa:(p:Int)<(y:Int):=by omega
      have m:max p y=y:=by omega
      have a:=oI.out;rw[m]at a;have R:=zH a;clear D m a oI a7;go_wp2
      go_roundw
      case rel=>exact⟨1+1,_,y,by omega,rfl,by go_num,by go_num,by omega,Xj,R,Tf⟩
      case measure=>simp[intOf];omega
     have Xa:¬(p:Int)<(y:Int):=by omega
     have m:max p y=p:=by omega
     have a:=oI.out;rw[m]at a;have R:=zH a;clear D m a oI a7;go_wp2
     go_roundw
     case rel=>exact⟨1+1,_,p,by omega,rfl,by go_num,by go_num,by omega,Xj,R,Tf⟩
     case measure=>simp[intOf];omega
    as_aux_lemma=>
    have b4:¬(j:Int)<=1:=by omega
    have Xj:Hid ((T++((⟨#[32,65,78,68,32]⟩:ByteArray)++z)).size+y9 f (j+1) (q.cond.drop (j+1))=NC):=zH (by
     rw[au,au,I.out];have:=A.out;rw[zF2 b1]at this
     show T.size+(5+cl)+_=NC
     omega)
    have Y:¬9223372036854775807<5+z.size:=by omega
    have a4:¬9223372036854775807<T.size+((⟨#[32,65,78,68,32]⟩:ByteArray)++z).size:=by rw[au];show¬9223372036854775807<T.size+(5+z.size);omega
    have a2:¬9223372036854775807<T.size+(5+z.size):=by omega
    have Tf:=zH (M.alloc M.size (.cells #[.string ⟨#[32,87,72,69,82,69,32]⟩,.string ⟨#[32,65,78,68,32]⟩] 9));have kk:=Bk.new w2 9 #[.string ⟨#[32,87,72,69,82,69,32]⟩,.string ⟨#[32,65,78,68,32]⟩];have ax:=kk.cell 1;clear kk A I b1 aw
    by_cases D:p<y
    ·have Xa:(p:Int)<(y:Int):=by omega
     have m:max p y=y:=by omega
     have a:=oI.out;rw[m]at a;have R:=zH a;clear D m a oI a7;go_wp2
     go_roundw
     case rel=>exact⟨j+1,_,y,by omega,rfl,by go_num,by go_num,by omega,Xj,R,Tf⟩
     case measure=>simp[intOf];omega
    have Xa:¬(p:Int)<(y:Int):=by omega
    have m:max p y=p:=by omega
    have a:=oI.out;rw[m]at a;have R:=zH a;clear D m a oI a7;go_wp2
    go_roundw
    case rel=>exact⟨j+1,_,p,by omega,rfl,by go_num,by go_num,by omega,Xj,R,Tf⟩
    case measure=>simp[intOf];omega
   
   obtain rfl:j=f:=by omega
   have P:=HR.out;have hm:=HM.out;rw[zFq (by have:=af.out;omega)]at P hm;have m:T.size=NC:=by simpa[y9]using P
   have D:p=MX:=hm;subst D;have cx:=zH m;have c6:T.size<=20000:=by omega
   have R:Rx q=T.size+(18+BA st+jr win)+(if q.key=[]then 0 else 14+q.key.length):=by
    unfold Rx;rw[m,<-bb.out,b6.out,<-AB.out,<-af.out,ao.out,ar.out]
   have aw:=zH R;have D:J3 q.cond.length 0 q.cond=p:=by rw[<-af.out];exact bk.out
   have b:=LZ.out;rw[D]at b;have bi:=zH b;clear P hm m R D b HR HM LZ bb b6 AB bk af Ip NJ Yx av;have kq:=X.old Ea.out;have q2:=kq.cell 2;have q3:=kq.cell 3;clear kq;obtain⟨R,ax⟩:∃R,st=R+1:=⟨st-1,by have:=NI.2.2.1.1;omega⟩
   have m:R<3:=by have:=NI.2.2.1.2;omega
   obtain⟨G,rY,Xl⟩:∃G:ByteArray,(#[.string ⟨#[83,84,82,73,67,84]⟩,.string ⟨#[78,69,88,84]⟩,.string ⟨#[65,78,89]⟩]:Array Value)[R]? =some (.string G)/\G.size=BA st:=by
    rw[ax]
    match R,m with
    |0,_=>exact⟨_,rfl,rfl⟩
    |1,_=>exact⟨_,rfl,rfl⟩
    |2,_=>exact⟨_,rfl,rfl⟩
   have ca:G.size<=6:=by
    rw[Xl,ax]
    match R,m with
    |0,_|1,_|2,_=>decide
   obtain⟨D,hD⟩:=zN (bytes (Lib.itoa (win:Int)))
   have b2:D.size=jr win:=by rw[<-hD];rfl
   have b8:win<=9223372036854775807:=an.out;have bl:D.size<=20:=by rw[b2];exact uD win b8
   have be:Hid (∀W:World,Calls prog 68 #[win] W λe w'=>e=.returned (.string D)/\Below W.heap.size W w'):=zH λW=>by
    have:=Bh (win:Int) ⟨by omega,by omega⟩ W
    rwa [hD]at this
   have Yu:=zH Xl;have b4:=zH b2;have bd:(st:Int)-1=(R:Int):=by omega
   have c7:IntKind.i64.wrap (R:Int)=(R:Int):=by rw[zJx];omega
   have c8:(R:Int)<3:=by omega
   have Y:¬9223372036854775807<10+G.size:=by omega
   have a4:¬9223372036854775807<((⟨#[32,83,84,82,65,84,69,71,89,32]⟩:ByteArray)++G).size+8:=by rw[au];show¬9223372036854775807<10+G.size+8;omega
   have a2:¬9223372036854775807<10+G.size+8:=by omega
   have bw:¬9223372036854775807<(((⟨#[32,83,84,82,65,84,69,71,89,32]⟩:ByteArray)++G)++(⟨#[32,87,73,84,72,73,78,32]⟩:ByteArray)).size+D.size:=by rw[au,au];show¬9223372036854775807<10+G.size+8+D.size;omega
   have c4:¬9223372036854775807<10+G.size+8+D.size:=by omega
   have cb:¬9223372036854775807<T.size+((((⟨#[32,83,84,82,65,84,69,71,89,32]⟩:ByteArray)++G)++(⟨#[32,87,73,84,72,73,78,32]⟩:ByteArray))++D).size:=by rw[au,au,au];show¬9223372036854775807<T.size+(10+G.size+8+D.size);omega
   have bx:¬9223372036854775807<T.size+(10+G.size+8+D.size):=by omega
   clear hD b2 Xl ax b8 m ao ar an;go_upto_region 25 with fail
   obtain⟨W,hW⟩:=zN wp
   subst hW
   refine wx (λk => false) [.is (.string T),
     .st (λv w=>∃g,v=.slice (some ⟨g,0,none⟩) 3 3/\Bk w g 9 #[.string {data:=#[83,84,82,73,67,84]},.string {data:=#[78,69,88,84]},.string {data:=#[65,78,89]}]) (λ_ _ _ hb ⟨g,Q,O⟩=>⟨g,Q,O.old hb⟩),
     .is (.pointer (some ⟨gx,2,none⟩)),
     .is (.int .i64 (st:Nat)),
     .is (.int .i64 (R:Nat)),
     .st (λv w=>∃g,v=.pointer (some ⟨g,R,none⟩)/\Bk w g 9 #[.string ⟨#[83,84,82,73,67,84]⟩,.string ⟨#[78,69,88,84]⟩,.string ⟨#[65,78,89]⟩]) (λ_ _ _ hb ⟨g,Q,O⟩=>⟨g,Q,O.old hb⟩),
     .is (.string G),
     .is (.string ((⟨#[32,83,84,82,65,84,69,71,89,32]⟩:ByteArray)++G)),
     .is (.string (((⟨#[32,83,84,82,65,84,69,71,89,32]⟩:ByteArray)++G)++(⟨#[32,87,73,84,72,73,78,32]⟩:ByteArray))),
     .is (.pointer (some ⟨gx,3,none⟩)),
     .is (.int .i64 (win:Nat)),
     .is (.string D),
     .is (.string ((((⟨#[32,83,84,82,65,84,69,71,89,32]⟩:ByteArray)++G)++(⟨#[32,87,73,84,72,73,78,32]⟩:ByteArray))++D)),
     .is (.string (T++((((⟨#[32,83,84,82,65,84,69,71,89,32]⟩:ByteArray)++G)++(⟨#[32,87,73,84,72,73,78,32]⟩:ByteArray))++D)))] [1,4,5,6,7,8,11,12,13] (by kernel_rfl) (by kernel_rfl) (by kernel_rfl)
     (λC=>.c (px C rfl (λ_ _=>rfl)) <|
     .c (pz [] [] (by kernel_rfl) λqK qa wr Q O m F=>?_) <|
     .c (px C rfl (λ_ _=>rfl)) <|
     .c (px C rfl (λ_ h=>bH (lD (bc h q2)))) <|
     .c (pz [3] [] (by kernel_rfl) λqK qa wr Q O m F=>?_) <|
     .c (pz [1,4] [] (by kernel_rfl) λqK qa wr Q O m F=>?_) <|
     .c (pz [5] [] (by kernel_rfl) λqK qa wr Q O m F=>?_) <|
     .c (pz [6] [] (by kernel_rfl) λqK qa wr Q O m F=>?_) <|
     .c (pz [7] [] (by kernel_rfl) λqK qa wr Q O m F=>?_) <|
     .c (px C rfl (λ_ _=>rfl)) <|
     .c (px C rfl (λ_ h=>bH (ld2 (bc h q3)))) <|
     .c (pz [10] [] (by kernel_rfl) λqK qa wr Q O m F=>?_) <|
     .c (pz [8,11] [] (by kernel_rfl) λqK qa wr Q O m F=>?_) <|
     .c (pz [0,12] [] (by kernel_rfl) λqK qa wr Q O m F=>?_) <| .nil) ?_
   ·clear O m;go_simp;exact F _ _ (zR.alloc zL _) ⟨_,rfl,Bk.new _ _ _⟩
   ·have cn:=aA m.1 rfl rfl;clear O m;go_simp;exact F _ _ zR (by first|rfl|(show(_:Value)=_;simp;omega))
   ·obtain⟨u90,b2,r1⟩:=m.1;obtain⟨ax,b8,bp⟩:=(show∃g,u90=.slice (some ⟨g,0,none⟩) 3 3/\Bk wr g 9 #[.string {data:=#[83,84,82,73,67,84]},.string {data:=#[78,69,88,84]},.string {data:=#[65,78,89]}]from r1)
    subst b8;have b2:qa.tmps[90]? =some (.slice (some ⟨ax,0,none⟩) 3 3):=b2;have ct:=aA m.2.1 rfl rfl;clear O m;go_simp;exact F _ _ zR ⟨ax,by first|rfl|simp,bp⟩
   ·obtain⟨u94,b8,r5⟩:=m.1;obtain⟨bo,c9,bq⟩:=(show∃g,u94=.pointer (some ⟨g,R,none⟩)/\Bk wr g 9 #[.string ⟨#[83,84,82,73,67,84]⟩,.string ⟨#[78,69,88,84]⟩,.string ⟨#[65,78,89]⟩]from r5)
    subst c9;have b8:qa.tmps[94]? =some (.pointer (some ⟨bo,R,none⟩)):=b8;clear O m;have cy:wr.cell? ⟨bo,R,none⟩=some (.string G):=(bq.cell R).trans rY;go_simp;exact F _ _ zR rfl
   ·have d0:=aA m.1 rfl rfl;clear O m;go_simp;exact F _ _ zR rfl
   ·have cm:=aA m.1 rfl rfl;clear O m;go_simp;exact F _ _ zR rfl
   ·have cr:=aA m.1 rfl rfl;clear O m;go_simp
    go_at_call 68
    refine(be.out wr).mono ?_;rintro r w9 ⟨rfl,dM⟩;exact F _ _ dM rfl
   ·have cw:=aA m.1 rfl rfl;have c9:=aA m.2.1 rfl rfl;clear O m;go_simp;exact F _ _ zR rfl
   ·have ck:=aA m.1 rfl rfl;have cg:=aA m.2.1 rfl rfl;clear O m;go_simp;exact F _ _ zR rfl
   intro qx wr Q b hS;clear b hS;simp only[bJ,zF0,zGb,zF1,zFp,zFd,zFh,zF4,Act.put,zFf,zFw,zFx];have xK:=zH (Ea.trans (Q.mono Ea.size));have q4:=(X.old xK.out).cell 4;clear q2 q3 Q be Ea rY bd c7 c8 Y a4 a2 bw c4 cb;go_upto_region 26 with fail
   obtain⟨O,b2⟩:=zN (T++((((⟨#[32,83,84,82,65,84,69,71,89,32]⟩:ByteArray)++G)++(⟨#[32,87,73,84,72,73,78,32]⟩:ByteArray))++D))
   have ax:O.size=T.size+(18+BA st+jr win):=by
    rw[<-b2,au,au,au,au,<-Yu.out,<-b4.out]
    show T.size+(10+G.size+8+D.size)=_
    omega
   rw[b2];have m:=zH ax;have bd:O.size<=20100:=by rw[ax,<-Yu.out,<-b4.out];omega
   have b8:K.size<=24:=by
    rw[<-b9.out,bZ];exact NI.2.2.2.2.1
   have a0:q.key=K.toList:=by rw[<-b9.out,aI]
   have ZA:=zH a0;clear b2 ax Yu b4 ca bl bx a0;go_upto_if 105 with fail
   generalize ax:K.toList.isEmpty=ke;have qM:=zH ax;clear ax
   go_cut[4] (λv wx=>∃S2:ByteArray,v=.string S2/\Hid (S2.size=Rx q)/\wr=wx)
   case first=>
    as_aux_lemma=>
    cases ke
    rotate_left
    ·have H:K.toList=[]:=by have:=qM.out;simpa using this
     have I:Hid (O.size=Rx q):=zH (by
      rw[aw.out,ZA.out,H,zF3 rfl,m.out]
      rfl)
     clear H;go_wp2_with fail
     go_meet
     exact⟨_,rfl,I,rfl⟩
    have H:¬K.toList=[]:=by intro h;have:=qM.out;rw[h]at this;cases this
    have Y:¬9223372036854775807<14+K.size:=by omega
    have a4:¬9223372036854775807<O.size+((⟨#[32,80,65,82,84,73,84,73,79,78,32,66,89,32]⟩:ByteArray)++K).size:=by rw[au];show¬9223372036854775807<O.size+(14+K.size);omega
    have a2:¬9223372036854775807<O.size+(14+K.size):=by omega
    have I:Hid ((O++((⟨#[32,80,65,82,84,73,84,73,79,78,32,66,89,32]⟩:ByteArray)++K)).size=Rx q):=zH (by
     rw[aw.out,ZA.out,zF2 H,au,au,m.out,bW]
     rfl)
    clear H;go_wp2_with fail
    go_meet
    exact⟨_,rfl,I,rfl⟩
   case rest=>
   obtain⟨S2,rfl,I,Z⟩:=hcut;subst Z;have n:=zH (x.trans (xK.mono x.size));have b:=bi.out;rw[<-I.out]at b;have H:=zH b;clear q4 bi b aw ZA m bd b8 I xK NI
   by_cases Xn:4000<S2.size
   ·as_aux_lemma=>
    have hI:(4000:Int)<(S2.size:Int):=by omega
    have b:=H.out;rw[zF3 Xn]at b;subst b;clear Xn H;go_wp2
    go_ret2
    first|exact⟨_,rfl,n.out⟩|exact⟨⟨_,rfl⟩,n.out⟩|exact⟨⟨_,rfl⟩,by rw[<-N.out];exact n.out⟩|exact⟨_,rfl,by rw[<-N.out];exact n.out⟩|exact n.out|(rw[<-N.out];exact n.out)|(rw[N.out];exact n.out)
   have hI:¬(4000:Int)<(S2.size:Int):=by omega
   have b:=H.out;rw[zF2 Xn]at b;have m:=zH b;clear Xn H b
   by_cases h:30<p
   ·as_aux_lemma=>
    have a6:(30:Int)<(p:Int):=by omega
    have b:=m.out;rw[zF3 h]at b;subst b;clear h m;go_wp2
    go_ret2
    first|exact⟨_,rfl,n.out⟩|exact⟨⟨_,rfl⟩,n.out⟩|exact⟨⟨_,rfl⟩,by rw[<-N.out];exact n.out⟩|exact⟨_,rfl,by rw[<-N.out];exact n.out⟩|exact n.out|(rw[<-N.out];exact n.out)|(rw[N.out];exact n.out)
   as_aux_lemma=>
   have a6:¬(30:Int)<(p:Int):=by omega
   have b:=m.out;rw[zF2 h]at b;subst b;clear h m;go_wp2
   go_ret2
   first|exact⟨_,rfl,n.out⟩|exact⟨⟨_,rfl⟩,n.out⟩|exact⟨⟨_,rfl⟩,by rw[<-N.out];exact n.out⟩|exact⟨_,rfl,by rw[<-N.out];exact n.out⟩|exact n.out|(rw[<-N.out];exact n.out)|(rw[N.out];exact n.out)
end Go.Proofs.YtbjnhllkdilpfaaGreat
