/- Part 21 of the proof. No conditions. -/
import Derived.Test.YtbjnhllkdilpfaaGreatZf20
import Derived.Test.YtbjnhllkdilpfaaGreatZf17
set_option linter.unusedVariables false
set_option linter.unusedSimpArgs false
set_option maxRecDepth 100000
set_option maxHeartbeats 16000000
namespace Go.Proofs.YtbjnhllkdilpfaaGreat
open Go.RowKit _root_.Go.Proofs.Tryz
theorem Jr (s:Str):∀(f p:Nat) (b:List aC),s.length+1<=p+f->p<=s.length->b.length<=p->∀L a e,pO s f p b=(L,a,e)->e=0->dS L/\L.length<=s.length+1
 |0,p,b,i,k,j,L,a,e,h,d=>by omega
 |f+1,p,b,i,k,j,L,a,e,h,d=>by
  rw[vU s f p _ b rfl]at h;have hb:=yM (s.drop p);rw[zHj]at hb;generalize n:p+fU (s.drop p)=q at *;have m:q<=s.length:=by omega
  split at h
  ·injection h with h4 h5
   subst h4;exact⟨⟨b,setPos qA q,rfl,rfl⟩,by simp;omega⟩
  rename_i l
  split at h
  ·injection h with h4 h5
   injection h5 with h5 h6
   omega
  rename_i g
  have c:=one_le (s.drop q);rw[zHj]at c;exact Jr s f _ _ (by omega) (by omega) (by simp;omega) L a e h d
theorem Ur (s:Str) (h:(jW s).2.2=0):dS (jW s).1/\(jW s).1.length<=4001:=by
 by_cases b:4000<s.length
 ·have e:jW s=([],0,2):=zF3 b;rw[e]at h;cases h
 have e:jW s=pO s (s.length+1) 0 []:=zF2 b;rw[e]at h⊢;generalize c:pO s (s.length+1) 0 []=r at *;obtain⟨L,a,x⟩:=r;have:=Jr s (s.length+1) 0 [] (by omega) (by omega) (by simp) L a x c h;exact⟨this.1,by have:=this.2;show L.length<=4001;omega⟩
theorem jZ.get {P:Nat->Prop} {w:World}:∀{m:List az} {a:List (List Value)},jZ P w m a->∀k (b:k<m.length),∃f c o n d i g:Value,mM P w m[k] [f,c,o,n,d,i,g]/\∀(j:Nat) (u:Value),[f,c,o,n,d,i,g][j]? =some u->a.flatten[k*7+j]? =some u
 |[],[],_,k,b=>absurd b (by simp)
 |e::m,cs::a,h,k,b=>by
  obtain⟨y,x,s,q,r,p,v,rfl,A⟩:=h.1.seven
  match k,b with
  |0,_=>
   refine⟨y,x,s,q,r,p,v,h.1,λj u l=>?_⟩;have t:j<7:=(zFc.1 l).1;rw[List.flatten_cons,zGh (by simp;omega),zHm,zFr,l]
  |k+1,b=>
   obtain⟨f,c,o,n,d,i,g,t,z⟩:=jZ.get h.2 k (by simpa using b);refine⟨f,c,o,n,d,i,g,t,λj u l=>?_⟩;rw[List.flatten_cons,zGd (by simp;omega)];rw[<-z j u l]
   congr 1
   simp;omega
 |[],_::_,h,_,_=>h.elim
 |_::_,[],h,_,_=>h.elim
def di.cells (bv wv:Value) (q:di):List Value:=ja bv wv q.aS q.window q.key q.keyAt
def QV (B:Nat) (w:World) (q:di) (cs:List Value):Prop:=∃bv wv,cs=q.cells bv wv/\lK B w bv q.branches/\zS B w wv q.cond
theorem QQ (a:List az):∀(i:Nat) (b:List az),aX i (a++b)=aX i a+aX (i+a.length) b:=by
 induction a with
 |nil=>intro i b;simp[aX]
 |cons x a c=>
  intro i b
  show aF x+(if 0<i then 1 else 0)+aX (i+1) (a++b)=_
  rw[c,zFh,show i+1+a.length=i+(a.length+1) by omega]
  show _=aF x+(if 0<i then 1 else 0)+aX (i+1) a+_
  omega
theorem vZ:∀(e:az) (i:Nat),aX i (jB e)<=aF e+(if 0<i then 1 else 0)
 |.leaf ..,i=>by show _+(if 0<i then 1 else 0)+0<=_;simp
 |.un ..,i=>by show _+(if 0<i then 1 else 0)+0<=_;simp
 |.bin op x y p,i=>by
  by_cases h:op=13
  ·have a:jB (.bin op x y p)=jB x++jB y:=by show(if op=13 then _ else _)=_;rw[zF3 h]
   rw[a,QQ];have b:=vZ x i;have c:=vZ y (i+(jB x).length);have d:(if 0<i+(jB x).length then 1 else 0)<=1:=by split<;>omega
   show _<=1+aF x+aF y+(if 0<i then 1 else 0)
   omega
  have a:jB (.bin op x y p)=[.bin op x y p]:=by show(if op=13 then _ else _)=_;rw[zF2 h]
  rw[a]
  show _+(if 0<i then 1 else 0)+0<=_;simp
theorem nU (i:Nat) (x:az) (l:List az):aX i (x::l)=aF x+(if 0<i then 1 else 0)+aX (i+1) l:=rfl
theorem CO (B:Nat) (w:World) (q:di) (bv:Value) (A:Option Addr) (c:Nat) (f:List (List Value)) (t:w.ownsRow B 110 7 (.slice A f.length c) f.length f.flatten) (v:jZ (λg=>B<=g) w q.cond f) (S:iJ q<=1000000):
  Calls prog 41 #[.agg (q.cells bv (.slice A f.length c)).toArray] w λr w'=>r=.returned (.int .i64 (iJ q:Nat))/\Below w w w':=by
 have a:=fM t;have b:=v.len.1;have I:=zH v;have xJ:=zH a;obtain⟨N,e⟩:=zN (iJ q)
 rw[e]at S⊢;have C:Hid (0+aX 0 (q.cond.drop 0)=N):=zH (by rw[<-e,zFp,zFr];rfl);have Zw:Hid (N<=1000000):=zH S
 have m:q.cond.length<=N:=by
  have d:∀(l:List az) (i:Nat),l.length<=aX i l:=by
   intro l
   induction l with
   |nil=>intro i;simp
   |cons x l h=>
    intro i;have p:=h (i+1);have s:1<=aF x:=by cases x<;>simp[aF]<;>omega
    rw[nU,zFh];omega
  have:=d q.cond 0;rw[<-e];exact this
 obtain⟨n,h⟩:=zN f.length
 have d:q.cond.length=n:=by omega
 rw[h];unfold di.cells ja;have z:=zH d;have a1:n<=1000000:=by omega
 clear e v a t b h d S m;obtain⟨qb,F,Q,O,L,K⟩:=q;simp only at I C z⊢
 go_enter func41,ntmps41
 have b:=Bk.new w 52 #[bv,.slice A n c,Q,O,.string (bytes L),K];have a:Below w w (w.alloc (.cells #[bv,.slice A n c,Q,O,.string (bytes L),K] 52)):=zR.alloc zL _;have P:(w.alloc (.cells #[bv,.slice A n c,Q,O,.string (bytes L),K] 52)).cell? ⟨w.heap.size,1,none⟩=some (.slice A n c):=b.cell 1;go_wp2
 generalize w.alloc (.cells #[bv,.slice A n c,Q,O,.string (bytes L),K] 52)=Y at *;have R:=b.lt;have HX:=zH P;have s:=zH a;clear b P a
 go_loopw[3,8] (λm i wr=>∃k a:Nat,k<=n/\m=.int .i64 a/\i=.int .i64 k/\Hid (a+aX k (F.drop k)=N)/\Hid (Below Y Y wr)) (λ_ i _=>n-(intOf i).toNat)
 case atStart=>exact⟨0,0,zFj _,rfl,rfl,C,zH zR⟩
 case round=>
  clear C;obtain⟨k,a,hk,rfl,rfl,e,D⟩:=hrel;obtain⟨p,rfl⟩:∃p:World,p=wr:=⟨_,rfl⟩
  by_cases W:k<n
  ·as_aux_lemma=>
   have H:k<F.length:=by rw[z.out];exact W
   obtain⟨U,X,y2,y3,y4,y5,y6,G,y⟩:=I.get k H;have J:=s.trans (D.mono s.size);obtain⟨g,o,rfl,hg,hc⟩:=xJ.at_ (j:=k*7) (by have:=(zFc.1 (y 0 U rfl)).1;simpa using this);have d:∀(j:Nat) (u:Value),[U,X,y2,y3,y4,y5,y6][j]? =some u->p.cell? ⟨g,o+(k*7+j),none⟩=some u:=λj u h=>(bK J g _ hg).trans (hc _ u (y j u h))
   have P:=(bK D.out w.heap.size 1 R).trans HX.out;have r0:p.cell? ⟨g,o+k*7,none⟩=some U:=d 0 _ rfl;have r1:p.cell? ⟨g,o+k*7+1,none⟩=some X:=d 1 _ rfl;have r2:p.cell? ⟨g,o+k*7+2,none⟩=some y2:=d 2 _ rfl;have r3:p.cell? ⟨g,o+k*7+3,none⟩=some y3:=d 3 _ rfl;have r4:p.cell? ⟨g,o+k*7+4,none⟩=some y4:=d 4 _ rfl;have r5:p.cell? ⟨g,o+k*7+5,none⟩=some y5:=d 5 _ rfl;have r6:p.cell? ⟨g,o+k*7+6,none⟩=some y6:=d 6 _ rfl;have b:=e.out;rw[zFk H,nU]at b;have h:=Zw.out;have Z:=zH (uy F[k] _ p (G.old J) (by omega));generalize F[k]=E at *;have a0:a+aF E<=1000000:=by omega
   have M:=zH b;clear d hc y G J e b h;generalize aF E=m at *;go_wp2_with fail
   refine Z.mono ?_;rintro r w2 ⟨rfl,d⟩;have h:=zH (zKg D.out (d.mono (zKa D.out)));clear Z d r0 r1 r2 r3 r4 r5 r6 P
   by_cases d:0<k
   ·have G:(0:Int)<(k:Int):=by omega
    have y:Hid (a+m+1+aX (k+1) (F.drop (k+1))=N):=zH (by have:=M.out;rw[zF3 d]at this;omega);clear M;go_wp2
    go_roundw
    case rel=>exact⟨k+1,a+m+1,by omega,by go_num,by go_num,y,h⟩
    case measure=>simp[intOf];omega
   obtain rfl:k=0:=by omega
   have y:Hid (a+m+aX (0+1) (F.drop (0+1))=N):=zH (by have:=M.out;rw[zF2 d]at this;omega);clear M;go_wp2
   go_roundw
   case rel=>exact⟨0+1,a+m,by omega,by go_num,by go_num,y,h⟩
   case measure=>simp[intOf];omega
  as_aux_lemma=>
  obtain rfl:k=n:=by omega
  have b:=e.out;rw[zFq (by rw[z.out];exact zFv _)]at b;have b:a=N:=by simpa[aX]using b
  subst b;have J:=zH (s.trans (D.mono s.size));clear D s e;go_wp2
  go_ret
  exact⟨rfl,J.out⟩
def bz (op:Nat):Nat:=
 if op=14 then 1 else if op=13 then 2 else if op=15 then 3 else if 7<=op/\op<=12 then 4 else if op=1\/op=2 then 5 else if 3<=op/\op<=5 then 6 else if op=6 then 7 else 8
def jr (n:Nat):Nat:=(bytes (Lib.itoa n)).size
def jE (n sc:Nat):Nat:=jr (n/10^sc)+1+max sc (jr (n%10^sc))
theorem JV:∀(k n:Nat),n<10^(k+1)->(Lib.decDigits n).length<=k+1
 |0,n,h=>by rw[pU n (by simpa using h)];simp
 |k+1,n,h=>by
  by_cases a:n<10
  ·rw[pU n a];simp
  rw[xu n a,zFu];have:=JV k (n/10) (by rw[Nat.pow_succ]at h;omega);simp;omega
theorem uD (n:Nat) (h:n<=9223372036854775807):jr n<=20:=by
 unfold jr Lib.itoa;rw[bZ,zF2 (by omega)];exact JV 19 n (by omega)
theorem Fp (op:Nat) (w:World):Calls prog 89 #[op] w λe w'=>e=.returned (.int .i64 (bz op:Nat))/\w'=w:=by
 have m:(op=14)\/(op=13)\/(op=15)\/(7<=op/\op<=12)\/(op=1)\/(op=2)\/(3<=op/\op<=5)\/(op=6)\/(op=0)\/(16<=op):=by omega
 rcases m with h|h|h|h|h|h|h|h|h|h
 ·have a:bz op=1:=by unfold bz;(repeat' split)<;>omega
  rw[a];clear a;have b:((op:Int)==14)=true:=by rw[zFt];omega
  clear h
  go_enter func89,ntmps89
  go_wp2
  go_ret
  exact⟨rfl,rfl⟩
 ·have a:bz op=2:=by unfold bz;(repeat' split)<;>omega
  rw[a];clear a;have b:((op:Int)==14)=false:=zB (by omega)
  have e:((op:Int)==13)=true:=by rw[zFt];omega
  clear h
  go_enter func89,ntmps89
  go_wp2
  go_ret
  exact⟨rfl,rfl⟩
 ·have a:bz op=3:=by unfold bz;(repeat' split)<;>omega
  rw[a];clear a;have b:((op:Int)==14)=false:=zB (by omega)
  have e:((op:Int)==13)=false:=zB (by omega)
  have c:((op:Int)==15)=true:=by rw[zFt];omega
  clear h
  go_enter func89,ntmps89
  go_wp2
  go_ret
  exact⟨rfl,rfl⟩
 ·have a:bz op=4:=by unfold bz;(repeat' split)<;>omega
  rw[a];clear a;have b:((op:Int)==14)=false:=zB (by omega)
  have e:((op:Int)==13)=false:=zB (by omega)
  have c:((op:Int)==15)=false:=zB (by omega)
  have g:(7:Int)<=(op:Int):=by omega
  have k:(op:Int)<=(12:Int):=by omega
  clear h
  go_enter func89,ntmps89
  go_wp2
  go_ret
  exact⟨rfl,rfl⟩
 ·have a:bz op=5:=by unfold bz;(repeat' split)<;>omega
  rw[a];clear a;have b:((op:Int)==14)=false:=zB (by omega)
  have e:((op:Int)==13)=false:=zB (by omega)
  have c:((op:Int)==15)=false:=zB (by omega)
  have g:¬(7:Int)<=(op:Int):=by omega
  have i:((op:Int)==1)=true:=by rw[zFt];omega
  clear h
  go_enter func89,ntmps89
  go_wp2
  go_ret
  exact⟨rfl,rfl⟩
 ·have a:bz op=5:=by unfold bz;(repeat' split)<;>omega
  rw[a];clear a;have b:((op:Int)==14)=false:=zB (by omega)
  have e:((op:Int)==13)=false:=zB (by omega)
  have c:((op:Int)==15)=false:=zB (by omega)
  have g:¬(7:Int)<=(op:Int):=by omega
  have i:((op:Int)==1)=false:=zB (by omega)
  have j:((op:Int)==2)=true:=by rw[zFt];omega
  clear h
  go_enter func89,ntmps89
  go_wp2
  go_ret
  exact⟨rfl,rfl⟩
 ·have a:bz op=6:=by unfold bz;(repeat' split)<;>omega
  rw[a];clear a;have b:((op:Int)==14)=false:=zB (by omega)
  have e:((op:Int)==13)=false:=zB (by omega)
  have c:((op:Int)==15)=false:=zB (by omega)
  have g:¬(7:Int)<=(op:Int):=by omega
  have i:((op:Int)==1)=false:=zB (by omega)
  have j:((op:Int)==2)=false:=zB (by omega)
  have f:(3:Int)<=(op:Int):=by omega
  have d:(op:Int)<=(5:Int):=by omega
  clear h
  go_enter func89,ntmps89
  go_wp2
  go_ret
  exact⟨rfl,rfl⟩
 ·have a:bz op=7:=by unfold bz;(repeat' split)<;>omega
  rw[a];clear a;have b:((op:Int)==14)=false:=zB (by omega)
  have e:((op:Int)==13)=false:=zB (by omega)
  have c:((op:Int)==15)=false:=zB (by omega)
  have g:¬(7:Int)<=(op:Int):=by omega
  have i:((op:Int)==1)=false:=zB (by omega)
  have j:((op:Int)==2)=false:=zB (by omega)
  have f:(3:Int)<=(op:Int):=by omega
  have d:¬(op:Int)<=(5:Int):=by omega
  have l:((op:Int)==6)=true:=by rw[zFt];omega
  clear h
  go_enter func89,ntmps89
  go_wp2
  go_ret
  exact⟨rfl,rfl⟩
 ·have a:bz op=8:=by unfold bz;(repeat' split)<;>omega
  rw[a];clear a;have b:((op:Int)==14)=false:=zB (by omega)
  have e:((op:Int)==13)=false:=zB (by omega)
  have c:((op:Int)==15)=false:=zB (by omega)
  have g:¬(7:Int)<=(op:Int):=by omega
  have i:((op:Int)==1)=false:=zB (by omega)
  have j:((op:Int)==2)=false:=zB (by omega)
  have f:¬(3:Int)<=(op:Int):=by omega
  have l:((op:Int)==6)=false:=zB (by omega)
  clear h
  go_enter func89,ntmps89
  go_wp2
  go_ret
  exact⟨rfl,rfl⟩
 have a:bz op=8:=by unfold bz;(repeat' split)<;>omega
 rw[a];clear a;have b:((op:Int)==14)=false:=zB (by omega)
 have e:((op:Int)==13)=false:=zB (by omega)
 have c:((op:Int)==15)=false:=zB (by omega)
 have g:(7:Int)<=(op:Int):=by omega
 have k:¬(op:Int)<=(12:Int):=by omega
 have i:((op:Int)==1)=false:=zB (by omega)
 have j:((op:Int)==2)=false:=zB (by omega)
 have f:(3:Int)<=(op:Int):=by omega
 have d:¬(op:Int)<=(5:Int):=by omega
 have l:((op:Int)==6)=false:=zB (by omega)
 clear h
 go_enter func89,ntmps89
 go_wp2
 go_ret
 exact⟨rfl,rfl⟩
theorem Fq (n f:Nat) (L:n<=9223372036854775807) (C:f<=14) (w:World):Calls prog 102 #[n,f] w λe w'=>∃S:ByteArray,e=.returned (.string S)/\S.size=jE n f/\Below w w w':=by
 have E:Hid (∀(m:Nat) (W:World),m<=9223372036854775807->Calls prog 68 #[m] W λe w'=>e=.returned (.string (bytes (Lib.itoa m)))/\Below W W w'):=zH λm W a=>Bh m ⟨by omega,by omega⟩ W
 have b:Hid (∀i,i<=14->10^i<=100000000000000/\1<=10^i):=zH λi U=>by
  match i,U with
  |0,_|1,_|2,_|3,_|4,_|5,_|6,_|7,_|8,_|9,_|10,_|11,_|12,_|13,_|14,_=>decide
 have K:=zH L;clear L
 go_enter func102,ntmps102
 go_wp2_with fail
 go_loopw[5,6] (λt i wr=>∃(k T:Nat),k<=f/\Hid (T=10^k)/\t=.int .i64 T/\i=.int .i64 k/\w=wr) (λ_ i _=>f-(intOf i).toNat)
 case atStart=>exact⟨0,1,zFj _,zH rfl,rfl,rfl,rfl⟩
 case round=>
  obtain⟨k,T,hk,h,rfl,rfl,rfl⟩:=hrel
  by_cases v:k<f
  ·as_aux_lemma=>
   have hT:T*10<=100000000000000:=by
    have y:=(b.out (k+1) (by omega)).1;rw[Nat.pow_succ,<-h.out]at y;exact y
   have A:Hid (T*10=10^(k+1)):=zH (by rw[Nat.pow_succ,<-h.out]);clear h;go_wp2
   go_roundw
   case rel=>exact⟨k+1,T*10,by omega,A,by go_num,by go_num,by trivial⟩
   case measure=>simp[intOf];omega
  obtain rfl:k=f:=by omega
  have l:1<=T/\T<=100000000000000:=by have:=b.out k C;rw[<-h.out]at this;omega
  have Q:Int.tdiv (n:Int) (T:Int)=((n/T:Nat):Int):=by rw[Int.ofNat_tdiv]
  have Iu:Int.tmod (n:Int) (T:Int)=((n%T:Nat):Int):=by rw[Int.ofNat_tmod]
  have O:(T:Int)≠0:=by omega
  have H:((T:Int)==0)=false:=zB (by omega)
  have a:n/T<=9223372036854775807:=zFi (Nat.div_le_self _ _) K.out;have c:n%T<=9223372036854775807:=zFi (Nat.mod_le _ _) K.out;have o:Hid (jr (n%T)=(bytes (Lib.itoa ((n%T:Nat):Int))).size):=zH rfl;have m:Hid (jr (n/T)=(bytes (Lib.itoa ((n/T:Nat):Int))).size):=zH rfl;have g:=zH (λW=>E.out (n%T) W c);have j:=zH (λW=>E.out (n/T) W a);have Z:=uD (n%T) c;have M:=uD (n/T) a;have Y:Hid (jE n k=jr (n/T)+1+max k (jr (n%T))):=zH (by unfold jE;rw[h.out]);clear E b h;generalize n/T=q at *;generalize n%T=r at *;have R:wrap64 (q:Int)=(q:Int):=(by unfold wrap64;omega)
  clear l a c;go_wp2_with fail
  refine(g.out w).mono ?_;rintro e w2 ⟨rfl,l⟩;obtain⟨D,p⟩:=zN (bytes (Lib.itoa (r:Int)))
  have c:=o.out;rw[p]at c⊢;have a:Hid (D.size=jr r):=zH c.symm;clear o g p c;generalize jr r=u at *;have o:=zH l;clear l;go_wp2_with fail
  go_loopw[7] (λd wr=>∃S:ByteArray,d=.string S/\Hid (u<=S.size/\(S.size=u\/S.size<=k))/\w2=wr) (λd _=>match d with|.string S=>k-S.size|_=>0)
  case atStart=>exact⟨D,rfl,zH ⟨by rw[a.out];exact zFv _,.inl a.out⟩,rfl⟩
  case round=>
   clear a;obtain⟨S,rfl,B,rfl⟩:=hrel
   by_cases v:S.size<k
   ·as_aux_lemma=>
    have N:(S.size:Int)<(k:Int):=by omega
    have I:¬9223372036854775807<1+S.size:=by omega
    have s:((⟨#[48]⟩:ByteArray)++S).size=S.size+1:=by rw[zJp];show 1+S.size=_;omega
    have x:Hid (u<=((⟨#[48]⟩:ByteArray)++S).size/\(((⟨#[48]⟩:ByteArray)++S).size=u\/((⟨#[48]⟩:ByteArray)++S).size<=k)):=zH (by rw[s];have:=B.out;omega);go_wp2
    go_roundw
    case rel=>exact⟨_,rfl,x,by trivial⟩
    case measure=>
     show k-((⟨#[48]⟩:ByteArray)++S).size<k-S.size
     rw[s];omega
   as_aux_lemma=>
   have N:¬(S.size:Int)<(k:Int):=by omega
   have c:S.size=max k u:=by have:=B.out;omega
   have z:=zH c;have J:S.size<=20:=by omega
   clear v B c;go_wp2_with fail
   refine(j.out _).mono ?_;rintro e w4 ⟨rfl,l⟩;obtain⟨g,p⟩:=zN (bytes (Lib.itoa (q:Int)))
   have c:=m.out;rw[p]at c⊢;have G:g.size<=20:=by omega
   have F:=zH c;clear c p m j;have y:(g++(⟨#[46]⟩:ByteArray)).size=g.size+1:=by rw[zJp];rfl
   have p:¬9223372036854775807<g.size+1:=by omega
   have P:¬9223372036854775807<g.size+1+S.size:=by omega
   have c:¬9223372036854775807<(g++(⟨#[46]⟩:ByteArray)).size+S.size:=by omega
   have X:=zH (o.trans (l.mono o.size));clear l;go_wp2
   go_ret
   exact⟨_,rfl,by rw[zJp,zJp,Y.out,F.out,z.out];rfl,X.out⟩
end Go.Proofs.YtbjnhllkdilpfaaGreat
