/- Part 18 of the proof. No conditions. -/
import Derived.Test.YtbjnhllkdilpfaaGreatZf10
set_option linter.unusedVariables false
set_option linter.unusedSimpArgs false
set_option maxRecDepth 100000
set_option maxHeartbeats 16000000
namespace Go.Proofs.YtbjnhllkdilpfaaGreat
open Go.RowKit _root_.Go.Proofs.Tryz
theorem kG (a:Nat) (h:a<18446744073709551616) (w:World):
  Calls prog 115 #[.int .u64 a] w λe w'=>e=.returned (.float .f64 (bg a))/\w=w':=by
 have hb:=ofBits (bg a)
 go_enter func115,ntmps115
 go_wp2_with (go_at_call 116;refine(jb a h _).mono ?_;rintro e w' ⟨rfl,rfl⟩)
 go_ret
 exact⟨rfl,rfl⟩
theorem Yd (a b:Nat) (i:a<18446744073709551616) (hb:b<18446744073709551616) (w:World):
  Calls prog 104 #[.int .i64 2,.int .u64 a,.int .u64 b] w λe w'=>e=.returned (.int .u64 (Iw .sub (bg a) (bg b):Nat))/\Below w w w':=by
 obtain⟨r,wr,l,d,j,m⟩:=lN .add (by simp) 196 (bg a) (bg b) w;obtain⟨h,k,n,g,c,f⟩:=lN .sub (by simp) 196 (bg a) (bg b) wr;rw[<-c];clear j c;have c:=bitsOf h
 go_enter func104,ntmps104
 go_wp2_with fail
 refine(kG a i _).mono ?_;rintro e w' ⟨rfl,rfl⟩;go_wp2_with fail
 refine(kG b hb _).mono ?_;rintro e w' ⟨rfl,rfl⟩;go_wp2_with fail
 refine(jb h f _).mono ?_;rintro e w' ⟨rfl,rfl⟩;go_wp2_with fail
 go_ret
 exact⟨rfl,d.trans (g.mono d.size)⟩
theorem Px (a b:Nat) (i:a<18446744073709551616) (hb:b<18446744073709551616) (w:World):
  Calls prog 104 #[.int .i64 3,.int .u64 a,.int .u64 b] w λe w'=>e=.returned (.int .u64 (Iw .mul (bg a) (bg b):Nat))/\Below w w w':=by
 obtain⟨r,wr,l,d,j,m⟩:=lN .add (by simp) 196 (bg a) (bg b) w;obtain⟨h,k,n,g,c,f⟩:=lN .mul (by simp) 196 (bg a) (bg b) wr;rw[<-c];clear j c;have c:=bitsOf h
 go_enter func104,ntmps104
 go_wp2_with fail
 refine(kG a i _).mono ?_;rintro e w' ⟨rfl,rfl⟩;go_wp2_with fail
 refine(kG b hb _).mono ?_;rintro e w' ⟨rfl,rfl⟩;go_wp2_with fail
 refine(jb h f _).mono ?_;rintro e w' ⟨rfl,rfl⟩;go_wp2_with fail
 go_ret
 exact⟨rfl,d.trans (g.mono d.size)⟩
theorem Py (a b:Nat) (i:a<18446744073709551616) (hb:b<18446744073709551616) (w:World):
  Calls prog 104 #[.int .i64 4,.int .u64 a,.int .u64 b] w λe w'=>e=.returned (.int .u64 (Iw .quo (bg a) (bg b):Nat))/\Below w w w':=by
 obtain⟨r,wr,l,d,j,m⟩:=lN .add (by simp) 196 (bg a) (bg b) w;obtain⟨h,k,n,g,c,f⟩:=lN .quo (by simp) 196 (bg a) (bg b) wr;rw[<-c];clear j c;have c:=bitsOf h
 go_enter func104,ntmps104
 go_wp2_with fail
 refine(kG a i _).mono ?_;rintro e w' ⟨rfl,rfl⟩;go_wp2_with fail
 refine(kG b hb _).mono ?_;rintro e w' ⟨rfl,rfl⟩;go_wp2_with fail
 refine(jb h f _).mono ?_;rintro e w' ⟨rfl,rfl⟩;go_wp2_with fail
 go_ret
 exact⟨rfl,d.trans (g.mono d.size)⟩
def lQ (M:Nat):Nat:=M/2048+if 1024<M%2048\/(M%2048=1024/\M/2048%2=1)then 1 else 0
theorem GL {m:Nat} (a:m≠0) (h:m<=9223372036854775808):m.log2<=63/\2^m.log2<=m/\m<2^(m.log2+1):=by
 refine⟨?_,Nat.log2_self_le a,Nat.lt_log2_self⟩;have:m.log2<64:=(Nat.log2_lt a).2 (by omega);omega
theorem shifted {m:Nat} (c:m≠0) (h:m<=9223372036854775808):9223372036854775808<=m*2^(63-m.log2)/\m*2^(63-m.log2)<18446744073709551616:=by
 obtain⟨d,b,a⟩:=GL c h
 constructor
 ·have:=zJq (2^(63-m.log2)) b;rw[<-Nat.pow_add,show m.log2+(63-m.log2)=63 by omega]at this;exact this
 have:=Nat.mul_lt_mul_of_pos_right a (Nat.two_pow_pos (63-m.log2));rw[<-Nat.pow_add,show m.log2+1+(63-m.log2)=64 by omega]at this;exact this
theorem Ye (a:Bool) (n:Nat):Ieee.Toward.even.cut a n 0=n:=by
 unfold Ieee.Toward.cut;simp[Nat.mod_one]
theorem UJ (c:Bool) (m d:Nat) (f:d<=m.log2+2):Ieee.Toward.even.cut c m d=m/2^d+if 2^d<2*(m%2^d)\/(2^d=2*(m%2^d)/\m/2^d%2=1)then 1 else 0:=by
 unfold Ieee.Toward.cut;rw[zJu f,Nat.one_shiftLeft];simp only
 congr 1
 by_cases a:2^d<2*(m%2^d)
 ·rw[zF3 (.inl a)];simp[a]
 by_cases b:2^d=2*(m%2^d)/\m/2^d%2=1
 ·rw[zF3 (.inr b)];simp[a,b.2,<-b.1]
 rw[zF2 (λh=>h.elim a b)]
 by_cases e:2^d=2*(m%2^d)
 ·have:¬m/2^d%2=1:=λh=>b ⟨e,h⟩
  simp[a,this]
 simp[a,e]
theorem kept {m:Nat} (a:Bool) (i:m≠0) (h:m<=9223372036854775808):
  Ieee.Toward.even.cut a (m <<< (0-((m.log2:Int)-52)).toNat) ((m.log2:Int)-52-0).toNat=lQ (m*2^(63-m.log2)):=by
 obtain⟨k,n,l⟩:=GL i h;unfold lQ
 by_cases o:m.log2<=52
 ·rw[show((m.log2:Int)-52-0).toNat=0 by omega,show(0-((m.log2:Int)-52)).toNat=52-m.log2 by omega,Ye,Nat.shiftLeft_eq]
  have e:m*2^(63-m.log2)=m*2^(52-m.log2)*2048:=by
   rw[show 63-m.log2=(52-m.log2)+11 by omega,Nat.pow_add,<-zJf]
  rw[e,Nat.mul_mod_left,Nat.mul_div_cancel _ (by decide)];simp
 have c:(0-((m.log2:Int)-52)).toNat=0:=by omega
 rw[c,Nat.shiftLeft_zero,show((m.log2:Int)-52-0).toNat=m.log2-52 by omega,UJ _ _ _ (by omega)]
 have e:2048=2^(m.log2-52)*2^(63-m.log2):=by
  rw[<-Nat.pow_add,show m.log2-52+(63-m.log2)=11 by omega]
 have b:=Nat.two_pow_pos (63-m.log2);have f:m*2^(63-m.log2)/2048=m/2^(m.log2-52):=by rw[e];exact Nat.mul_div_mul_right _ _ b
 have j:m*2^(63-m.log2)%2048=m%2^(m.log2-52)*2^(63-m.log2):=by rw[e];exact Nat.mul_mod_mul_right _ _ _
 rw[f,j];generalize 2^(m.log2-52)=D at *;generalize 2^(63-m.log2)=K at *;generalize m%D=r at *
 have g:1024<r*K<->D<2*r:=by
  constructor
  ·intro h;have:D*K<2*r*K:=by rw[<-e,zJf];omega
   exact Nat.lt_of_mul_lt_mul_right this
  intro h;have:=Nat.mul_lt_mul_of_pos_right h b;rw[<-e,zJf]at this;omega
 have d:r*K=1024<->D=2*r:=by
  constructor
  ·intro h;have:D*K=2*r*K:=by rw[<-e,zJf];omega
   exact Nat.eq_of_mul_eq_mul_right b this
  intro h;have:D*K=2*r*K:=by rw[h]
  rw[<-e,zJf]at this;omega
 simp only[g,d]
theorem UK {M:Nat} (b:9223372036854775808<=M) (a:M<18446744073709551616):4503599627370496<=lQ M/\lQ M<=9007199254740992:=by
 unfold lQ
 split<;>omega
def JB (n:Int):Nat:=if n<0 then 9223372036854775808 else 0
theorem Nq:ofInt 0=0:=by decide
theorem UL {n:Int} (o:I64 n) (q:n≠0):ofInt n=JB n+((1022+n.natAbs.log2)*4503599627370496+lQ (n.natAbs*2^(63-n.natAbs.log2))):=by
 unfold I64 at o;have c:n.natAbs≠0:=by omega
 have a:n.natAbs<=9223372036854775808:=by omega
 obtain⟨r,s,t⟩:=GL c a;obtain⟨h,p⟩:=shifted c a;have hb:=UK h p;have f:=kept (decide (n<0)) c a
 have e:floatOfInt .f64 n=JB n+((1022+n.natAbs.log2)*4503599627370496+lQ (n.natAbs*2^(63-n.natAbs.log2))):=by
  show Ieee.double.nearest (decide (n<0)) n.natAbs 0=_
  unfold Ieee.Format.nearest;have l:Ieee.double.leastPlace= -1074:=by decide
  have i:Ieee.double.infRung=9218868437227405312:=by decide
  have d:Ieee.double.binade=4503599627370496:=by decide
  have k:Ieee.double.fractionBits=52:=by decide
  have g:Ieee.double.signWeight=9223372036854775808:=by decide
  rw[zF2 c,l,i,d,k];have j:max (0+(n.natAbs.log2:Int)-((52:Nat):Int)) (-1074)=(n.natAbs.log2:Int)-52:=by omega
  simp only[j];rw[f];generalize lQ (n.natAbs*2^(63-n.natAbs.log2))=K at *;have m:((n.natAbs.log2:Int)-52- -1074).toNat=1022+n.natAbs.log2:=by omega
  rw[m,zJu (by omega)];unfold Ieee.Format.word JB;rw[g]
  by_cases b:n<0
  ·rw[zF3 (zGm b),zF3 b]
  rw[zF2 (by simpa using b),zF2 b];omega
 unfold ofInt;rw[e]
 apply Fe
 generalize lQ (n.natAbs*2^(63-n.natAbs.log2))=K at *;unfold qL JB
 apply zGf
 split<;>omega
theorem and_one (a:Nat) (h:a<18446744073709551616):bits .and .u64 (a:Int) 1=((a%2:Nat):Int):=by
 have:=u64_and_nat a 1 h (by omega);rw[show((1:Nat):Int)=1 from rfl]at this;rw[this,show 1=2^1-1 from by decide,zKn]
theorem Nr (n:Int) (m l:Nat) (g:(n==0)=false) (c:n<0) (p:IntKind.u64.wrap (-(IntKind.u64.wrap n))=(m:Int)) (r:l<=63)
  (d:Hid (∀j,j<63-l->m*2^j<9223372036854775808)) (b:Hid (9223372036854775808<=m*2^(63-l)/\m*2^(63-l)<18446744073709551616))
  (w:World):Calls prog 105 #[n] w λe w'=>e=.returned (.int .u64 (9223372036854775808+((1022+l)*4503599627370496+lQ (m*2^(63-l)):Nat)))/\w=w':=by
 go_enter func105,ntmps105
 go_wp2_with fail
 clear p g c
 go_loop[3,5] (λa e=>∃j:Nat,j<=63-l/\a=.int .u64 (m*2^j:Nat)/\e=.int .i64 (63-j)) (λ_ e=>(intOf e).toNat)
 case atStart=>exact⟨0,zFj _,by simp,rfl⟩
 case round=>
  obtain⟨j,q,rfl,rfl⟩:=hrel
  by_cases f:j<63-l
  ·have hb:=d.out j f;have c:m*2^(j+1)=m*2^j*2:=by rw[Nat.pow_succ,zJf]
   have o:=zH c;clear c;generalize m*2^j=M at *;have h:((M:Int)/9223372036854775808==0)=true:=by rw[zFt];omega
   have k:=zH hb;clear hb;go_wp2_with fail
   have hb:=k.out
   go_round
   case rel=>
    refine⟨j+1,by omega,?_,Be (by omega)⟩;rw[o.out];exact Be (by first|(push_cast;omega)|(rw[zH2];push_cast;omega))
   case measure=>simp[intOf];omega
  have e:j=63-l:=by omega
  subst e;have hb:=b.out;generalize e:m*2^(63-l)=M at *;have i:=zH e;clear e;have h:((M:Int)/9223372036854775808==0)=false:=zB (by omega)
  have s:=CQ M hb.2;have e:=and_one (M/2048) (by omega);rw[show((M/2048:Nat):Int)=(M:Int)/2048 from by omega]at e;clear hb;go_wp2_with fail
  all_goals go_ret
  all_goals(refine⟨gJ ?_,rfl⟩)
  all_goals have hb:=b.out
  all_goals rw[i.out]
  all_goals(try simp only[zFt,zFz,ne_eq]at *)
  all_goals unfold lQ
  all_goals(try rw[zF3 (by omega)])
  all_goals(try rw[zF2 (by omega)])
  all_goals(simp only[zH2];push_cast;omega)
theorem Ns (n:Int) (m l:Nat) (g:(n==0)=false) (c:0<n) (p:IntKind.u64.wrap n=(m:Int)) (r:l<=63)
  (d:Hid (∀j,j<63-l->m*2^j<9223372036854775808)) (b:Hid (9223372036854775808<=m*2^(63-l)/\m*2^(63-l)<18446744073709551616))
  (w:World):Calls prog 105 #[n] w λe w'=>e=.returned (.int .u64 (0+((1022+l)*4503599627370496+lQ (m*2^(63-l)):Nat)))/\w=w':=by
 go_enter func105,ntmps105
 go_wp2_with fail
 clear p g c
 go_loop[3,5] (λa e=>∃j:Nat,j<=63-l/\a=.int .u64 (m*2^j:Nat)/\e=.int .i64 (63-j)) (λ_ e=>(intOf e).toNat)
 case atStart=>exact⟨0,zFj _,by simp,rfl⟩
 case round=>
  obtain⟨j,q,rfl,rfl⟩:=hrel
  by_cases f:j<63-l
  ·have hb:=d.out j f;have c:m*2^(j+1)=m*2^j*2:=by rw[Nat.pow_succ,zJf]
   have o:=zH c;clear c;generalize m*2^j=M at *;have h:((M:Int)/9223372036854775808==0)=true:=by rw[zFt];omega
   have k:=zH hb;clear hb;go_wp2_with fail
   have hb:=k.out
   go_round
   case rel=>
    refine⟨j+1,by omega,?_,Be (by omega)⟩;rw[o.out];exact Be (by first|(push_cast;omega)|(rw[zH2];push_cast;omega))
   case measure=>simp[intOf];omega
  have e:j=63-l:=by omega
  subst e;have hb:=b.out;generalize e:m*2^(63-l)=M at *;have i:=zH e;clear e;have h:((M:Int)/9223372036854775808==0)=false:=zB (by omega)
  have s:=CQ M hb.2;have e:=and_one (M/2048) (by omega);rw[show((M/2048:Nat):Int)=(M:Int)/2048 from by omega]at e;clear hb;go_wp2_with fail
  all_goals go_ret
  all_goals(refine⟨gJ ?_,rfl⟩)
  all_goals have hb:=b.out
  all_goals rw[i.out]
  all_goals(try simp only[zFt,zFz,ne_eq]at *)
  all_goals unfold lQ
  all_goals(try rw[zF3 (by omega)])
  all_goals(try rw[zF2 (by omega)])
  all_goals(simp only[zH2];push_cast;omega)
theorem wH (n:Int) (f:I64 n) (w:World):Calls prog 105 #[n] w λe w'=>e=.returned (.int .u64 (ofInt n:Nat))/\w=w':=by
 by_cases c:n=0
 ·subst c;rw[Nq]
  go_enter func105,ntmps105
  go_wp2_with fail
  go_ret
  exact⟨rfl,rfl⟩
 have h:n.natAbs≠0:=by omega
 have d:=f;unfold I64 at d;have b:n.natAbs<=9223372036854775808:=by omega
 obtain⟨k,o,l⟩:=GL h b;have g:=shifted h b
 have i:∀j,j<63-n.natAbs.log2->n.natAbs*2^j<9223372036854775808:=by
  intro j m;have a:n.natAbs*2^(j+1)<=n.natAbs*2^(63-n.natAbs.log2):=Nat.mul_le_mul_left _ (zJr (by decide) (by omega));rw[Nat.pow_succ,<-zJf]at a;omega
 have e:=UL f c;rw[e];unfold JB
 by_cases a:n<0
 ·rw[zF3 a];exact Nr n n.natAbs n.natAbs.log2 (zFz.2 c) a (by rw[zH2,zH2];omega) k (zH i) (zH g) w
 rw[zF2 a];exact Ns n n.natAbs n.natAbs.log2 (zFz.2 c) (by omega) (by rw[zH2];omega) k (zH i) (zH g) w
theorem ah.NR (n:ah):n.cells.length=7:=by obtain⟨op,kind,A,c,b,vk,vb,pos,a⟩:=n;rfl
def Ep (g:Bool) (v:Value) (nd:ah) (p:aZ):aZ:=if g=true then {p with g:=v,gs:=p.gs++[nd]}else {p with c:=v,cs:=p.cs++[nd]}
def wM (g:Bool) (p:aZ):Value:=if g=true then p.g else p.c
def kK (g:Bool) (p:aZ):List ah:=if g=true then p.gs else p.cs
def Hf (g:Bool) (t:T) (p:dU):dU:=if g=true then {p with gs:=p.gs++[t]}else {p with cs:=p.cs++[t]}
def uX (bs:List dL) (i k:Nat) (g:Bool) (t:T):List dL:=bs.modify i λb=>{b with ps:=b.ps.modify k (Hf g t)}
theorem Va (d:Nat) (g:Bool) (v:Value) (a:ah) (p:aZ):partT d (Ep g v a p)=Hf g (eP d a) (partT d p):=by
 unfold Ep Hf partT;cases g<;>simp
theorem qX {α:Type} (f:α->α):∀(b:List α) (a:α) (c:List α),(b++a::c).modify b.length f=b++f a::c
 |[],a,c=>rfl
 |x::b,a,c=>by
  have:=qX f b a c;simp[this]
theorem Vb (d:Nat) (b1 b2:List bQ) (b:bQ) (p1 p2:List aZ) (p:aZ) (a:b.ps=p1++p::p2) (g:Bool) (v:Value) (c:ah):
  (b1++{b with ps:=p1++Ep g v c p::p2}::b2).map (fJ d)=uX ((b1++b::b2).map (fJ d)) b1.length p1.length g (eP d c):=by
 unfold uX;rw[zGr,zGq,zGr,zGq];have e:b1.length=(b1.map (fJ d)).length:=by simp
 rw[e,qX]
 congr 2
 unfold fJ;simp only[a]
 congr 1
 rw[zGr,zGq,zGr,zGq];have f:p1.length=(p1.map (partT d)).length:=by simp
 rw[f,qX,Va]
theorem Rz {b1 b2:List bQ} {b:bQ} {p1 p2:List aZ} {p:aZ} (a:b.ps=p1++p::p2) (g:Bool) (v:Value) (d:ah):∃R1 R2,bI (b1++b::b2)=R1++(wM g p,kK g p)::R2/\bI (b1++{b with ps:=p1++Ep g v d p::p2}::b2)=R1++(v,kK g p++[d])::R2:=by
 rw[oM a,oM (b:={b with ps:=p1++Ep g v d p::p2}) rfl];cases g
 ·exact⟨bI b1++p1.flatMap dQ++[(p.g,p.gs)],p2.flatMap dQ++bI b2,by simp[dQ,wM,kK],by simp[dQ,Ep,kK]⟩
 exact⟨bI b1++p1.flatMap dQ,(p.c,p.cs)::(p2.flatMap dQ++bI b2),by simp[dQ,wM,kK],by simp[dQ,Ep,kK]⟩
def J9 (g:Bool):Nat:=if g=true then 2 else 3
theorem NS (g:Bool) (v:Value) (a:ah) (p:aZ):p.cells.set (J9 g) v=(Ep g v a p).cells:=by
 cases g<;>rfl
structure AX (bv:Value) (bs bs':List bQ) (w w':World):Prop where
 os:w'.os=w.os
 tape:w'.tape=w.tape
 output:w'.output=w.output
 size:w.heap.size<=w'.heap.size
 block:∀q,q<w.heap.size->aJ bv bs q->w'.heap[q]? =w.heap[q]?
 ap:∀q,q<w.heap.size->aJ bv bs q->aJ bv bs' q
theorem AX.refl (bv:Value) (bs:List bQ) (w:World):AX bv bs bs w w:=⟨rfl,rfl,rfl,zFv _,λ_ _ _=>rfl,λ_ _ h=>h⟩
theorem AX.trans {bv:Value} {bs f d:List bQ} {w e w2:World} (h:AX bv bs f w e) (a:AX bv f d e w2):AX bv bs d w w2:=
 ⟨a.os.trans h.os,a.tape.trans h.tape,a.output.trans h.output,zFi h.size a.size,λq b c=>(a.block q (zFs b h.size) (h.ap q b c)).trans (h.block q b c),λq b c=>a.ap q (zFs b h.size) (h.ap q b c)⟩
theorem AX.below {bv:Value} {bs b:List bQ} {w a w2:World} (h:AX bv bs b w a) (hb:Below a a w2):AX bv bs b w w2:=
 h.trans ⟨hb.os,hb.tape,hb.output,hb.size,λq c _=>hb.block q c,λ_ _ h=>h⟩
theorem AX.nG {bv:Value} {bs:List bQ} {w a:World} (hb:Below w w a):AX bv bs bs w a:=(AX.refl bv bs w).below hb
theorem Ko {α:Type} (l:List α) (i:Nat) (h:i<l.length):∃a b,l=a++l[i]::b/\a.length=i:=
 ⟨l.take i,l.drop (i+1),by rw[<-zFk h,zJd],by simp;omega⟩
section
variable {B d W0:Nat} {bv:Value} {b1 b2:List bQ} {b:bQ} {p1 p2:List aZ} {p:aZ} {W w2 w3:World} {gp g9 n c:Nat} {g:Bool} {nd:ah}
theorem iC.put (h:iC B d bv (b1++b::b2) W) (y:b.ps=p1++p::p2) (F:b.parts.ownBlock=some gp) (J:(kK g p).length=n) (H:B<=W0) (D:∀q,¬aJ bv (b1++b::b2) q->q<W0) (I:W0<=W.heap.size)
  (E:okS (λq=>W0<=q) d nd W) (r:W.grownBy w2 (wM g p).ownBlock) (l:some g9=(wM g p).ownBlock\/g9=W.heap.size)
  (m:w3.ownsRow B 122 7 (.slice (some ⟨g9,0,none⟩) (n+1) c) (n+1) ((kK g p).flatMap ah.cells++nd.cells)) (s:w2.grownBy w3 (some g9)):
  iC B d bv (b1++{b with ps:=p1++Ep g (.slice (some ⟨g9,0,none⟩) (n+1) c) nd p::p2}::b2) (w3.setCell ⟨gp,p1.length*4+J9 g,none⟩ (.slice (some ⟨g9,0,none⟩) (n+1) c))/\
  AX bv (b1++b::b2) (b1++{b with ps:=p1++Ep g (.slice (some ⟨g9,0,none⟩) (n+1) c) nd p::p2}::b2) W (w3.setCell ⟨gp,p1.length*4+J9 g,none⟩ (.slice (some ⟨g9,0,none⟩) (n+1) c)):=by
 obtain⟨R1,R2,A,w⟩:=Rz (b1:=b1) (b2:=b2) y g (.slice (some ⟨g9,0,none⟩) (n+1) c) nd;have k:(wM g p,kK g p)∈bI (b1++b::b2):=by rw[A];simp
 have a:W.grownBy w3 (wM g p).ownBlock:=by
  refine⟨s.os.trans r.os,s.tape.trans r.tape,s.output.trans r.output,zFi r.size s.size,λq t f=>?_⟩;rw[s.block q (zFs t r.size) λi=>?_]
  ·exact r.block q t f
  rcases l with e|e
  ·exact f (i.trans e)
  injection i with i
  omega
 have u:(Value.slice (some ⟨g9,0,none⟩) (n+1) c).ownBlock=(wM g p).ownBlock\/(Value.slice (some ⟨g9,0,none⟩) (n+1) c).ownBlock=some W.heap.size:=by
  rcases l with e|e
  ·exact .inl e
  exact .inr (by rw[e];rfl)
 have C:=iC.app (R1:=R1) (R2:=R2) (v:=wM g p) (ns:=kK g p) (W1:=w3) (gp:=gp) h y F (j:=J9 g) (by cases g<;>decide) (NS g (.slice (some ⟨g9,0,none⟩) (n+1) c) nd p) A w H D I
  ⟨by simpa[J]using m,a,u,E⟩
 refine⟨C,a.os,a.tape,a.output,by have:=a.size;simpa using this,λq t f=>?_,λq t f=>⟨f.1,λx o=>?_,λz i=>?_⟩⟩
 ·rw[zGt w3 _ _ q (by show q≠gp;intro e;exact f.2.1 b (by simp) (by rw[F,e]))];exact a.block q t (f.2.2 _ k)
 ·rcases zFy.1 o with o|o
  ·exact f.2.1 x (by simp[o])
  rcases zF6.1 o with rfl|o
  ·exact f.2.1 b (by simp)
  exact f.2.1 x (by simp[o])
 rw[w]at i;rcases zFy.1 i with i|i
 ·exact f.2.2 z (by rw[A];simp[i])
 rcases zF6.1 i with rfl|i
 ·rcases l with e|e
  ·show some q≠some g9
   rw[e];exact f.2.2 _ k
  show some q≠some g9
  intro G;injection G with G;omega
 exact f.2.2 z (by rw[A];simp[i])
end
structure AtP (B gv i k:Nat) (bs:List bQ) (W:World) (b1 b2:List bQ) (br:bQ) (p1 p2:List aZ) (p:aZ) (g2 n2 c2:Nat):Prop where
 sp:bs=b1++br::b2
 l1:b1.length=i
 ps:br.ps=p1++p::p2
 l2:p1.length=k
 parts:br.parts=.slice (some ⟨g2,0,none⟩) n2 c2
 lt:k<n2
 n2e:br.ps.length=n2
 le:n2<=maxLen
 c2:W.cell? ⟨gv,i*3+2,none⟩=some (.slice (some ⟨g2,0,none⟩) n2 c2)
 cell:∀g:Bool,W.cell? ⟨g2,k*4+J9 g,none⟩=some (wM g p)
 frozen:∀j,W.frozen? ⟨g2,j,none⟩=false
 own:∀g:Bool,∃(A:Option Addr) (c:Nat),wM g p=.slice A (kK g p).length c/\W.ownsRow B 122 7 (wM g p) (kK g p).length ((kK g p).flatMap ah.cells)
theorem iC.at {B d y H L:Nat} {bs:List bQ} {W:World} (h:iC B d (.slice (some ⟨y,0,none⟩) H L) bs W) (x:bs.length=H) {i k:Nat} (D:i<bs.length) (r:k<bs[i].ps.length):
  ∃b1 b2 a p1 p2 p s b v,AtP B y i k bs W b1 b2 a p1 p2 p s b v/\a=bs[i]/\p=bs[i].ps[k]:=by
 obtain⟨b1,b2,z,t⟩:=Ko bs i D;obtain⟨p1,p2,F,C⟩:=Ko bs[i].ps k r;have e:bs[i]∈bs:=zFe D;have K:=h.prt _ e
 have a:∃g c,bs[i].parts=.slice (some ⟨g,0,none⟩) bs[i].ps.length c/\bs[i].ps.length<=c/\c<=maxLen:=by
  rcases K.2 with⟨_,f⟩|⟨g,c,b,l,_,_,J,I,_⟩
  ·omega
  exact⟨g,c,l,J,I⟩
 obtain⟨s,v,l,J,I⟩:=a;have q:=h.dJ;rw[x]at q;have G:=K;rw[l]at G;have E:=fM q;have w:=fM G
 have b:W.cell? ⟨y,i*3+2,none⟩=some bs[i].parts:=by
  obtain⟨g,o,f,A,m⟩:=E.elem (n:=3) YC (by omega) D;injection f with f
  injection f with hA1 hA2
  subst hA1 hA2;have:=m 2 _ rfl
  simpa using this
 have a:∀j u,bs[i].ps[k].cells[j]? =some u->W.cell? ⟨s,k*4+j,none⟩=some u:=by
  obtain⟨g,o,f,A,m⟩:=w.elem (n:=4) lU (by omega) r;injection f with f
  injection f with hA1 hA2
  subst hA1 hA2;intro j u M;have:=m j u M
  simpa using this
 refine⟨b1,b2,bs[i],p1,p2,bs[i].ps[k],s,bs[i].ps.length,v,⟨z,t,F,C,l,r,rfl,by omega,by rw[b,l],λg=>?_,λj=>qW G rfl j,λg=>?_⟩,rfl,rfl⟩
 ·cases g
  ·exact a 3 _ rfl
  exact a 2 _ rfl
 have f:(wM g bs[i].ps[k],kK g bs[i].ps[k])∈bI bs:=by
  unfold bI;refine zGn.2 ⟨bs[i],e,zGn.2 ⟨bs[i].ps[k],zFe r,?_⟩⟩;cases g<;>simp[dQ,wM,kK]
 have m:=h.mO _ f;obtain⟨A,c,l,_⟩:=aK m;exact⟨A,c,l,m⟩
def NdP (d:Nat) (S:Nat->Prop) (t:T) (cs:List Value) (w:World):Prop:=eG S d t cs w
instance (d:Nat):CK 7 (NdP d) where
 pos:=by decide
 keep:=λhk h=>eG.keep hk h
 len:=λ⟨n,h,_⟩=>by rw[h];exact n.len
 one:=λ⟨n,h,_⟩=>by rw[h];obtain⟨op,kind,A,c,args,vk,vb,pos,a⟩:=n;rfl
theorem dR:L6 59 122 7 72:=⟨⟨underlying59,⟨.agg #[(),(),"",(),.int .u64 0,(),()],by kernel_rfl,rfl⟩,by decide⟩,λw=>by simp[isAgg,go_sem]⟩
theorem P9 {d:Nat} {S:Nat->Prop} {w:World}:∀{ps:List (T×List Value)},(∀p∈ps,NdP d S p.1 p.2 w)->∃ns:List ah,ns.map (eP d)=ps.map Prod.fst/\ns.flatMap ah.cells=ps.flatMap Prod.snd/\∀y∈ns,okS S d y w
 |[],_=>⟨[],rfl,rfl,λy a=>absurd a (by simp)⟩
 |p::ps,h=>by
  obtain⟨n,c,e,f⟩:=h p (by simp);obtain⟨ns,i,b,j⟩:=P9 (ps:=ps) λq g=>h q (zJs _ g)
  exact⟨n::ns,by simp[e,i],by simp[<-c,b],λy a=>by
   rcases zF6.1 a with rfl|a
   ·exact f
   exact j y a⟩
def VJ (d lo hi:Nat) (S:Nat->Prop) (ns:List ah) (v:Value) (w:World):Prop:=w.ownsRow lo 122 7 v ns.length (ns.flatMap ah.cells)/\(∀k,v.ownBlock=some k->k<hi)/\∀y∈ns,okS (λq=>S q/\some q≠v.ownBlock) d y w
theorem VJ.old {d b a:Nat} {S:Nat->Prop} {ns:List ah} {v:Value} {w w':World} (hb:Below w w w') (h:VJ d b a S ns v w):VJ d b a S ns v w':=
 ⟨aT h.1 hb,h.2.1,λy c=>(h.2.2 y c).keep (dB.old hb)⟩
theorem Bd.own {d base:Nat} {S:Nat->Prop} {a:List T} {v:Value} {w:World} (h:Bd S base 122 7 (NdP d) a v w):∃ns,ns.map (eP d)=a/\VJ d base w.heap.size S ns v w:=by
 obtain⟨ps,b,c,j⟩:=h;obtain⟨ns,e,g,l⟩:=P9 j;have m:ns.length=a.length:=by rw[<-zF5 (f:=eP d),e,b]
 exact⟨ns,e.trans b,by rw[m,g];exact c,λk i=>(c.lt k i).2,l⟩
theorem Z8 {d:Nat} {S:Nat->Prop} {g:List T} {v:Value} {w:World} (h:Nd d S g v w):Calls prog 23 #[v] w λe w'=>∃(A:Option Addr) (c:Nat) (ns:List ah),e=.returned (.slice A g.length c)/\ns.map (eP d)=g/\VJ d w.heap.size w'.heap.size (λq=>w.heap.size<=q/\q<w'.heap.size) ns (.slice A g.length c) w'/\Below w w w':=by
 obtain⟨A,c,ns,rfl,r,p,f,C⟩:=h;refine(twin_any d ns A c w (λx B=>(p x B).n) r.rd C).mono ?_;rintro e w' ⟨z,c',s,rfl,m,u,l,j,t⟩;have o:ns.length=g.length:=by rw[<-f,zF5]
 rw[o]at l j⊢;refine⟨z,c',s,rfl,?_,⟨by rw[m,o];exact l,λk a=>(l.lt k a).2,λy a=>(j y a).keep λb hb a=>⟨⟨⟨hb.1,a⟩,hb.2⟩,a,rfl⟩⟩,t⟩;subst f
 apply zLg (by simpa using m)
 intro i f a;simp only[zF5]at f a;rw[zH4,zH4];exact(Hq (p _ (zFe a)).n (j _ (zFe f)).n (u i _ _ (zAg a) (zAg f))).symm
structure rD (B d:Nat) (pv:Value) (ps:List aZ) (W:World):Prop where
 prt:W.ownsRow B 69 4 pv ps.length (ps.flatMap aZ.cells)
 mO:∀x∈ps.flatMap dQ,W.ownsRow B 122 7 x.1 x.2.length (x.2.flatMap ah.cells)
 og:(ps.flatMap dQ).Pairwise λx y=>x.1.ownBlock=none\/x.1.ownBlock≠y.1.ownBlock
 kids:∀x∈ps.flatMap dQ,∀y∈x.2,okS (λq=>B<=q/\some q≠pv.ownBlock/\∀z∈ps.flatMap dQ,some q≠z.1.ownBlock) d y W
theorem rD.nil {B d:Nat} {W:World}:rD B d (.slice none 0 0) [] W:=⟨zGs _ _ _ _,λx a=>absurd a (by simp),by simp,λx a=>absurd a (by simp)⟩
theorem rD.old {B d:Nat} {b:Value} {ps:List aZ} {W W':World} (h:rD B d b ps W) (hb:Below W W W'):rD B d b ps W':=
 ⟨aT h.prt hb,λx a=>aT (h.mO x a) hb,h.og,λx a y c=>(h.kids x a y c).keep (dB.old hb)⟩
theorem zt {w:World} {base e a n:Nat} {v:Value} {xs:List Value} (h:w.ownsRow base e a v n xs) {k:Nat} (b:k<base\/w.heap.size<=k):some k≠v.ownBlock:=λe=>by
 have:=h.lt k e.symm;omega
theorem Hr {w w':World} {b1 b2 f n l o g c:Nat} {a b:Value} {m j:List Value} (d:w.ownsRow b1 f l a g m) (i:w'.ownsRow b2 n o b c j) (h:w.heap.size<=b2):a.ownBlock=none\/a.ownBlock≠b.ownBlock:=by
 rcases hv:a.ownBlock with _|k
 ·exact .inl rfl
 refine .inr λe=>?_
 have:=(d.lt k hv).2;have:=(i.lt k e.symm).1;omega
theorem rD.snoc {B d:Nat} {m f:Value} {ps:List aZ} {p:aZ} {W o A:World} (h:rD B d m ps W) (hb:Below W W o)
  (C:∀x∈dQ p,o.ownsRow W.heap.size 122 7 x.1 x.2.length (x.2.flatMap ah.cells)) (D:p.g.ownBlock=none\/p.g.ownBlock≠p.c.ownBlock)
  (w:∀x∈dQ p,∀y∈x.2,okS (λq=>W.heap.size<=q/\∀z∈dQ p,some q≠z.1.ownBlock) d y o)
  (E:B<=W.heap.size) (n:o.grownBy A m.ownBlock) (G:A.ownsRow B 69 4 f (ps++[p]).length ((ps++[p]).flatMap aZ.cells)) (F:f.ownBlock=m.ownBlock\/f.ownBlock=some o.heap.size):rD B d f (ps++[p]) A:=by
 have u:(ps++[p]).flatMap dQ=ps.flatMap dQ++dQ p:=by simp
 have s:=aT h.prt hb;have b:=hb.size;have t:∀k,m.ownBlock=some k->k<W.heap.size:=λk w=>(h.prt.lt k w).2
 have r:∀q,q<o.heap.size->some q≠m.ownBlock->some q≠f.ownBlock:=λq l j=>by
  rcases F with e|e
  ·rw[e];exact j
  rw[e];intro e;injection e;omega
 refine⟨G,λx a=>?_,?_,λx a y v=>?_⟩
 ·rw[u]at a;rcases zFy.1 a with a|a
  ·exact bU (aT (h.mO x a) hb) s (by decide) n
  exact bU (bV (C x a) E) s (by decide) n
 ·rw[u];refine zHn.2 ⟨h.og,?_,λx a y v=>Hr (h.mO x a) (C y v) zL⟩;simp[dQ,D]
 rw[u]at a;rcases zFy.1 a with a|a
 ·refine(h.kids x a y v).keep λq l i=>⟨⟨l.1,r q (by omega) l.2.1,λz b=>?_⟩,by have:=n.size;omega,(n.block q (by omega) l.2.1).trans (hb.block q i)⟩
  rw[u]at b;rcases zFy.1 b with b|b
  ·exact l.2.2 z b
  exact zt (C z b) (.inl i)
 refine(w x a y v).keep λq l i=>?_
 have j:some q≠m.ownBlock:=λe=>by have:=t q e.symm;omega
 refine⟨⟨by omega,r q i j,λz b=>?_⟩,by have:=n.size;omega,n.block q i j⟩;rw[u]at b;rcases zFy.1 b with b|b
 ·exact zt (h.mO z b) (.inr l.1)
 exact l.2 z b
theorem iC.nil {B d:Nat} {W:World}:iC B d (.slice none 0 0) [] W:=⟨zGs _ _ _ _,λx a=>absurd a (by simp),by simp,λx a=>absurd a (by simp[bI]),by simp[bI],λx a=>absurd a (by simp[bI])⟩
theorem iC.snoc {B d:Nat} {bv o:Value} {bs:List bQ} {b:bQ} {W s u:World} (h:iC B d bv bs W) (hb:Below W W s) (m:rD W.heap.size d b.parts b.ps s)
  (v:B<=W.heap.size) (l:s.grownBy u bv.ownBlock) (A:u.ownsRow B 67 3 o (bs++[b]).length ((bs++[b]).flatMap bQ.cells)) (w:o.ownBlock=bv.ownBlock\/o.ownBlock=some s.heap.size):iC B d o (bs++[b]) u:=by
 have p:bI (bs++[b])=bI bs++b.ps.flatMap dQ:=by simp[bI,NK]
 have i:=aT h.dJ hb;have a:=hb.size;have t:∀k,bv.ownBlock=some k->k<W.heap.size:=λk c=>(h.dJ.lt k c).2
 have r:∀q,q<s.heap.size->some q≠bv.ownBlock->some q≠o.ownBlock:=λq g j=>by
  rcases w with e|e
  ·rw[e];exact j
  rw[e];intro e;injection e;omega
 refine⟨A,λx c=>?_,?_,λx c=>?_,?_,λx c y n=>?_⟩
 ·rcases zFy.1 c with c|c
  ·exact bU (aT (h.prt x c) hb) i (by decide) l
  simp only[zF6,zGi,zHt]at c;subst c;exact bU (bV m.prt v) i (by decide) l
 ·refine zHn.2 ⟨h.tN,by simp,λx c y n=>?_⟩;simp only[zF6,zGi,zHt]at n;subst n;exact Hr (h.prt x c) m.prt zL
 ·rw[p]at c;rcases zFy.1 c with c|c
  ·exact bU (aT (h.mO x c) hb) i (by decide) l
  exact bU (bV (m.mO x c) v) i (by decide) l
 ·rw[p];exact zHn.2 ⟨h.og,m.og,λx c y n=>Hr (h.mO x c) (m.mO y n) zL⟩
 rw[p]at c;rcases zFy.1 c with c|c
 ·refine(h.kids x c y n).keep λq g f=>⟨⟨g.1,r q (by omega) g.2.1,λz a=>?_,λz a=>?_⟩,by have:=l.size;omega,(l.block q (by omega) g.2.1).trans (hb.block q f)⟩
  ·rcases zFy.1 a with a|a
   ·exact g.2.2.1 z a
   simp only[zF6,zGi,zHt]at a;subst a;exact zt m.prt (.inl f)
  rw[p]at a;rcases zFy.1 a with a|a
  ·exact g.2.2.2 z a
  exact zt (m.mO z a) (.inl f)
 refine(m.kids x c y n).keep λq g f=>?_
 have j:some q≠bv.ownBlock:=λe=>by have:=t q e.symm;omega
 refine⟨⟨by omega,r q f j,λz a=>?_,λz a=>?_⟩,by have:=l.size;omega,l.block q f j⟩
 ·rcases zFy.1 a with a|a
  ·exact zt (h.prt z a) (.inr g.1)
  simp only[zF6,zGi,zHt]at a;subst a;exact g.2.1
 rw[p]at a;rcases zFy.1 a with a|a
 ·exact zt (h.mO z a) (.inr g.1)
 exact g.2.2 z a
def PvP (S:Nat->Prop) (x:aZ) (cs:List Value) (w:World):Prop:=cs=x.cells/\cs.all Value.oneCell'=true
def BvP (S:Nat->Prop) (x:bQ) (cs:List Value) (w:World):Prop:=cs=x.cells/\cs.all Value.oneCell'=true
instance:CK 4 PvP where
 pos:=by decide
 keep:=λ_ h=>h
 len:=λh=>by rw[h.1];rfl
 one:=λh=>h.2
instance:CK 3 BvP where
 pos:=by decide
 keep:=λ_ h=>h
 len:=λh=>by rw[h.1];rfl
 one:=λh=>h.2
theorem zCm {S:Nat->Prop} {B:Nat} {ps:List aZ} {v:Value} {w:World} (h:Bd S B 69 4 PvP ps v w):w.ownsRow B 69 4 v ps.length (ps.flatMap aZ.cells):=by
 obtain⟨a,rfl,d,b⟩:=h;rw[zHw]
 rwa [show a.flatMap (λq=>aZ.cells q.1)=a.flatMap Prod.snd from by rw[List.flatMap_def,List.flatMap_def,zJw λq c=>((b q c).1).symm]]
theorem zCn {S:Nat->Prop} {B:Nat} {bs:List bQ} {v:Value} {w:World} (h:Bd S B 67 3 BvP bs v w):w.ownsRow B 67 3 v bs.length (bs.flatMap bQ.cells):=by
 obtain⟨a,rfl,d,b⟩:=h;rw[zHw]
 rwa [show a.flatMap (λq=>bQ.cells q.1)=a.flatMap Prod.snd from by rw[List.flatMap_def,List.flatMap_def,zJw λq c=>((b q c).1).symm]]
theorem Qa {w:World} {base e a n:Nat} {v:Value} {xs:List Value} (h:w.ownsRow base e a v n xs):v.oneCell'=true:=by
 obtain⟨A,c,rfl,_⟩:=aK h;rfl
theorem rD.bd {S:Nat->Prop} {B d:Nat} {b:Value} {ps:List aZ} {W:World} (h:rD B d b ps W):Bd S B 69 4 PvP ps b W:=
 ⟨ps.map λp=>(p,p.cells),by rw[zHh];exact zLc _,by rw[zHw];exact h.prt,λq j=>by
  obtain⟨p,f,rfl⟩:=zGa.1 j;have a:∀z∈dQ p,z.1.oneCell'=true:=λz a=>Qa (h.mO z (zGn.2 ⟨p,f,a⟩))
  have e:=a (p.g,p.gs) (by simp[dQ]);have i:=a (p.c,p.cs) (by simp[dQ])
  exact⟨rfl,by simp only[aZ.cells,List.all_cons,List.all_nil,e,i];rfl⟩⟩
theorem iC.bd {S:Nat->Prop} {B d:Nat} {bv:Value} {bs:List bQ} {W:World} (h:iC B d bv bs W):Bd S B 67 3 BvP bs bv W:=
 ⟨bs.map λb=>(b,b.cells),by rw[zHh];exact zLc _,by rw[zHw];exact h.dJ,λq a=>by
  obtain⟨b,hb,rfl⟩:=zGa.1 a;have c:=Qa (h.prt b hb)
  exact⟨rfl,by simp only[bQ.cells,List.all_cons,List.all_nil,c];rfl⟩⟩
theorem rD.mono {B B' d:Nat} {c:Value} {ps:List aZ} {W:World} (h:rD B d c ps W) (b:B'<=B):rD B' d c ps W:=
 ⟨bV h.prt b,λx a=>bV (h.mO x a) b,h.og,λx a y e=>(h.kids x a y e).keep λq e a=>⟨⟨zFi b e.1,e.2⟩,a,rfl⟩⟩
theorem KJ {w w':World} {B b e a n:Nat} {v:Value} {xs:List Value} (h:w.ownsRow B e a v n xs) (c:w.grownBy w' (some b)) (hb:b<B):w'.ownsRow B e a v n xs:=h.kept c (by
 rcases hv:v.ownBlock with _|k
 ·exact .inl rfl
 exact .inr λe=>by
  injection e with e
  have:=(h.lt k hv).1
  omega)
theorem rD.grown {B d b:Nat} {e:Value} {ps:List aZ} {W W':World} (h:rD B d e ps W) (a:W.grownBy W' (some b)) (hb:b<B):rD B d e ps W':=
 ⟨KJ h.prt a hb,λx c=>KJ (h.mO x c) a hb,h.og,λx c y f=>(h.kids x c y f).keep (dB.gV a λq c=>by omega)⟩
theorem VJ.set {d c f:Nat} {S:Nat->Prop} {ns:List ah} {v:Value} {w:World} (h:VJ d c f S ns v w) {a:Addr} (u:Value) (i:∀q,S q->q≠a.block) (j:a.block<c):VJ d c f S ns v (w.setCell a u):=
 ⟨zGw h.1 (λe=>by have:=(h.1.lt _ e).1;omega) u,h.2.1,λy g=>(h.2.2 y g).keep (dB.set λb hb=>⟨hb,i b hb.1⟩)⟩
theorem VK {d c j g n N f:Nat} {t:Int} {l i:List ah} {v u:Value} {w:World} (s:N<=c) (A:N<=g) (B:j<=g\/n<=c) (o:VJ d c j (λq=>c<=q/\q<j) l v w) (m:VJ d g n (λq=>g<=q/\q<n) i u w):
  (∀x∈dQ ⟨f,t,v,u,l,i⟩,w.ownsRow N 122 7 x.1 x.2.length (x.2.flatMap ah.cells))/\(v.ownBlock=none\/v.ownBlock≠u.ownBlock)/\∀x∈dQ ⟨f,t,v,u,l,i⟩,∀y∈x.2,okS (λq=>N<=q/\∀z∈dQ ⟨f,t,v,u,l,i⟩,some q≠z.1.ownBlock) d y w:=by
 have b1:∀k,v.ownBlock=some k->c<=k/\k<j:=λk a=>⟨(o.1.lt k a).1,o.2.1 k a⟩
 have b2:∀k,u.ownBlock=some k->g<=k/\k<n:=λk a=>⟨(m.1.lt k a).1,m.2.1 k a⟩
 refine⟨λx h=>?_,?_,λx h y r=>?_⟩
 ·simp only[dQ,zF6,zGi,zHt]at h;rcases h with rfl|rfl
  ·exact bV o.1 s
  exact bV m.1 A
 ·rcases hv:v.ownBlock with _|k
  ·exact .inl rfl
  refine .inr λe=>?_
  have:=b1 k hv;have:=b2 k e.symm;omega
 simp only[dQ,zF6,zGi,zHt]at h;rcases h with rfl|rfl
 ·refine(o.2.2 y r).keep λq p a=>⟨⟨by omega,λz b=>?_⟩,a,rfl⟩
  simp only[dQ,zF6,zGi,zHt]at b;rcases b with rfl|rfl
  ·exact p.2
  exact λe=>by have:=b2 q e.symm;omega
 refine(m.2.2 y r).keep λq p a=>⟨⟨by omega,λz b=>?_⟩,a,rfl⟩
 simp only[dQ,zF6,zGi,zHt]at b;rcases b with rfl|rfl
 ·exact λe=>by have:=b1 q e.symm;omega
 exact p.2
def zEw (d:Nat) (ax:Int) (ks:List Int) (bs:List dL) (w:World) (e:Ending) (w':World):Prop:=
 ∃(kv bv:Value) (bs':List bQ) (B:Nat),e=.returned (.agg #[ax,kv,bv])/\bs'.map (fJ d)=bs/\w.heap.size<=B/\B<=w'.heap.size/\Sl gK (λq=>w.heap.size<=q/\q<B) ks kv w'/\iC B d bv bs' w'/\Below w w w'
section
set_option maxRecDepth 100000
set_option maxHeartbeats 8000000
theorem Qb {d:Nat} {S:Nat->Prop} {ax:Int} {ks:List Int} {bs:List dL} {cs:List Value} {w:World} (h:dO d S ax ks bs cs w):Calls prog 8 #[.agg cs.toArray] w (zEw d ax ks bs w):=by
 obtain⟨kv,bv,rfl,L,hb⟩:=h;obtain⟨Ak,ck,rfl⟩:=L.form;obtain⟨Ab,cb,e,al,hb⟩:=hb;subst e;have B:=zH L;have HR:=zH hb.lo;clear L hb
 go_enter func8,ntmps8
 go_upto_region 1 with fail
 obtain⟨u,r⟩:=zN ((w.alloc (.cells #[ax,.slice Ak ks.length ck,.slice Ab bs.length cb] 29)).alloc (.cells #[(),"",""] 29))
 have z:Bk u w.heap.size 29 #[ax,.slice Ak ks.length ck,.slice Ab bs.length cb]:=r▸(Bk.new _ _ _).alloc _;have k2:Bk u (w.heap.size+1) 29 #[(),"",""]:=r▸Bk.newAt (by simp) _ _;have l:Below w w u:=r▸bel2 w _ _;simp only[r];clear r;have K:u.cell? ⟨w.heap.size,0,none⟩=some (.int .i64 ax):=z.cell 0;have M:u.cell? ⟨w.heap.size,1,none⟩=some (.slice Ak ks.length ck):=z.cell 1
 refine wx (λk=>k==6) [.is (.pointer (some ⟨w.heap.size,0,none⟩)),.is (.int .i64 ax),.is (.pointer (some ⟨w.heap.size,1,none⟩)),.is (.slice Ak ks.length ck),
  sS (xg ks.length (Bd (λ_=>False) u.heap.size 3 1 gK ks) λA c=>.slice A ks.length c),sS (xg ks.length (Bd (λ_=>False) u.heap.size 3 1 gK ks) λA c=>.agg #[ax,.slice A ks.length c,""]),
  .st (λv w=>∃g,v=.pointer (some ⟨g,0,none⟩)/\u.heap.size<=g/\Bk w g 29 #[(),"",""]) (λ_ _ _ hb ⟨g,E,e,D⟩=>⟨g,E,e,D.old hb⟩)] [4,5,6] (by kernel_rfl) (by kernel_rfl) (by kernel_rfl)
  (λC=>.c (px C rfl (λ_ _=>rfl)) <| .c (px C rfl (λ_ h=>bH (lD (bc h K)))) <| .c (px C rfl (λ_ _=>rfl)) <| .c (px C rfl (λ_ h=>bH (Gq (bc h M)))) <|
   .c (pz [3] [] (by kernel_rfl) λqK Y wr m I s F=>?_) <| .c (pz [1,4] [] (by kernel_rfl) λqK Y wr m I s F=>?_) <| .c (pf [] [] (by kernel_rfl) λqK Y wr m I s F=>?_) .nil) ?_
 ·exact xZ (.tmp 12) rfl (aB (aA s.1 rfl rfl)) ((B.keep (.old l)).keep (.old m)) λA c w' E D=>F _ _ D ⟨A,c,rfl,E.NU m.size⟩
 ·have n:=aA s.1 rfl rfl;obtain⟨u13,e,A,c,rfl,y⟩:=s.2.1;have e:Y.tmps[13]? =some (.slice A ks.length c):=e;clear I s;go_simp;exact F _ _ zR ⟨A,c,rfl,y⟩
 ·clear I s;go_simp;exact F _ _ (ba _ _) ⟨_,rfl,m.size,Bk.new _ _ _⟩ ⟨_,rfl,by simp,by simp⟩
 intro qx wr m hR y;obtain⟨A3,c3,r5,Q⟩:=hR 5 rfl rfl;obtain⟨g3,e,aq,n⟩:=hR 6 rfl rfl;clear hR y;simp only[bJ,List.length,List.take,List.drop,zFd]
 go_frame
 generalize qx 6=z6 at e⊢;generalize qx 5=z5 at r5⊢;subst e r5;go_upto_region 2 with(refine ae aP rfl _ _ rfl rfl [.int .i64 ax,.slice A3 ks.length c3,.slice none 0 0] rfl n rfl rfl rfl ?_;intro G p0;go_frame)
 have H:=p0.size;have J:=m.size;have aa:=k2.lt;have P:=n.lt;have y:Below w.heap.size w G:=p0.below _ _ (l.trans (m.mono l.size)) (by omega);have oK:Hid (Bk G w.heap.size 29 #[ax,.slice Ak ks.length ck,.slice Ab bs.length cb]/\Bk G (w.heap.size+1) 29 #[(),"",""]/\Sl gK (λq=>u.heap.size<=q/\some q≠some g3) ks (.slice A3 ks.length c3) G):=zH ⟨p0.zJ (z.old m) (by omega),p0.zJ (k2.old m) (by omega),?keys⟩
 case keys=>exact(Q.Kq (S:=λq=>u.heap.size<=q/\some q≠some g3) (λb hb O=>⟨hb,λe=>Q.ne n (by decide) (e.symm.trans O.symm)⟩) (λb h=>h.elim) B.le).keep (dB.fE p0 λb hb e=>hb.2 (zGv some e))
 have HG:=zH p0;have a0:=zH y;have ag:=zH (HR.old y);have aw:=l.size;have af:g3<G.heap.size:=p0.bk.lt;have b5:u.heap.size<=G.heap.size:=by omega
 clear p0 z k2 n m l y K M Q H J B P;have y2:=oK.1.cell 2;go_wp2_with fail
 go_loopw[18] (λi wr=>∃(k:Nat) (v:Value),k<=bs.length/\i=.int .i64 k/\Hid (G.grownBy wr (some g3)/\Bk wr g3 29 #[ax,.slice A3 ks.length c3,v]/\∃xs:List bQ,xs.map (fJ d)=bs.take k/\iC G.heap.size d v xs wr)) (λi _=>bs.length-(intOf i).toNat)
 case atStart=>exact⟨0,_,zFj _,rfl,zH ⟨zF8 _ _,HG.bk,[],rfl,iC.nil⟩⟩
 case round=>
  obtain⟨k,v,L,rfl,B⟩:=hrel;obtain⟨H,rfl⟩:∃z:World,z=wr:=⟨_,rfl⟩
  obtain⟨xs,y,z⟩:=B.2.2;have l:xs.length=k:=by have:=zGv List.length y;simpa[zJu L]using this
  obtain⟨Av,cv,rfl,_⟩:=aK z.dJ;rw[l]at B z;have Az:=zH (zA y z);clear y z;have a7:=zH l;clear l;have Z:=B.1.size
  by_cases y:k<bs.length
  ·obtain⟨b,o,cs,l,b1,hb,z,K⟩:=(ag.keep (dB.gV B.1 λb hb=>by omega)).elem y;subst l;have l:=CK.len z;go_upto_region 5 with(first|(refine aj gW rfl _ rfl rfl cs l K ?_)|(refine ae (aY gW.1) rfl _ _ rfl rfl cs rfl (Bk.new _ _ _) l rfl (CK.one z) ?_;intro W1 p1;go_frame))
   obtain⟨pv,rfl,Ap,cp,rfl,ad,J⟩:=z;have P:Below H H W1:=p1.below _ _ (ba _ _) zL;have aa:W1.heap.size=H.heap.size+1:=by rw[p1.size];simp
   have pY:=zH (J.keep (.old P));have HX:=zH p1.bk;have x2:=p1.bk.cell 2;obtain⟨ps,z⟩:=zN (bs[k].ps)
   rw[z]at pY ad HX x2;have PL:=zH z;clear J p1 K l z;go_wp2_with fail
   go_loopw[6,25] (λl i wr=>∃j:Nat,j<=ps.length/\i=.int .i64 j/\Hid (Below W1 W1 wr/\∃X:List aZ,X.map (partT d)=ps.take j/\rD W1.heap.size d l X wr)) (λ_ i _=>ps.length-(intOf i).toNat)
   case atStart=>exact⟨0,zFj _,rfl,zH ⟨zGp _ _,[],rfl,rD.nil⟩⟩
   case round=>
    obtain⟨j,hj,rfl,R⟩:=hrel;obtain⟨X,z,J⟩:=R.2;have l:X.length=j:=by have:=zGv List.length z;simpa[zJu hj]using this
    obtain⟨K,M,rfl,_⟩:=aK J.prt;rw[l]at J⊢;have nN:=zH (zA z J);clear z J;have ab:=zH l;clear l
    by_cases U:j<ps.length
    ·obtain⟨b2,o2,a6,z,_,b0,l,a9⟩:=(pY.old R.1).elem U;subst z;have z:=CK.len l;go_upto_region 9 with(first|(refine aj jU rfl _ rfl rfl a6 z a9 ?_)|(refine ae (aY jU.1) rfl _ _ rfl rfl a6 rfl (Bk.new _ _ _) z rfl (CK.one l) ?_;intro W2 p2;go_frame))
     obtain⟨gv,uv,rfl,hg,hu⟩:=l;obtain⟨Ag,cg,rfl⟩:=hg.form;obtain⟨Au,cu,rfl⟩:=hu.form;have J:Below wr.heap.size wr W2:=p2.below _ _ (ba _ _) zL;have ar:W2.heap.size=wr.heap.size+1:=by rw[p2.size];simp
     have a5:=R.1.size;have k8:=p2.bk;have O:=zH (zA (hg.keep (.old J)) (hu.keep (.old J)));obtain⟨l,W⟩:=zN (ps[j])
     rw[W]at O k8;have Xq:=zH W;clear W;have v2:W2.cell? ⟨wr.heap.size,2,none⟩=some (.slice Ag l.gs.length cg):=k8.cell 2;have v3:W2.cell? ⟨wr.heap.size,3,none⟩=some (.slice Au l.cs.length cu):=k8.cell 3
     refine wi ⟨λk=>k==2||k==5,λ_ k W hi v w=>W2.heap.size<=W/\∃(A:Option Addr) (c:Nat) (ns:List ah),v=.slice A (if k=2 then l.gs else l.cs).length c/\ns.map (eP d)=(if k=2 then l.gs else l.cs)/\VJ d W hi (λq=>W<=q/\q<hi) ns v w,λhb ⟨E,A,c,ns,D,W,h4⟩=>⟨E,A,c,ns,D,W,h4.old hb⟩⟩
      [.is (.pointer (some ⟨wr.heap.size,2,none⟩)),.is (.slice Ag l.gs.length cg),.any,.is (.pointer (some ⟨wr.heap.size,3,none⟩)),.is (.slice Au l.cs.length cu),.any,.is (.pointer (some ⟨wr.heap.size,2,none⟩))] [2,5] (by kernel_rfl) (by kernel_rfl) (by kernel_rfl)
      (λC=>.c (.x bG C rfl (λ_ _=>rfl)) <| .c (.x bG C rfl (λ_ h=>bH (jD (bc h v2)))) <| .c (.fj bG [1] [] (by kernel_rfl) λqK Y wq m I s F=>?_) <|
       .c (.x bG C rfl (λ_ _=>rfl)) <| .c (.x bG C rfl (λ_ h=>bH (jD (bc h v3)))) <| .c (.fj bG [4] [] (by kernel_rfl) λqK Y wq m I s F=>?_) <| .c (.x bG C rfl (λ_ _=>rfl)) .nil) ?_
     ·have a1:=aA s.1 rfl rfl;clear I s;go_simp
      go_at_call 23
      refine(Z8 (O.1.keep (.old m))).mono ?_;rintro e w2 ⟨A,c,ns,rfl,E,D,W⟩;exact F _ _ W trivial ⟨m.size,A,c,ns,rfl,E,D⟩
     ·have a2:=aA s.1 rfl rfl;clear I s;go_simp
      go_at_call 23
      refine(Z8 (O.2.keep (.old m))).mono ?_;rintro e w2 ⟨A,c,ns,rfl,E,D,W⟩;exact F _ _ W trivial ⟨m.size,A,c,ns,rfl,E,D⟩
     intro qx w3 m hR s;obtain⟨I,W,hD⟩:=s;obtain⟨i2,l2,D,A,a2,Y,s,o2⟩:=W 2 (by simp) rfl;obtain⟨i5,l5,F,E,Iy,r5,Q,o5⟩:=W 5 (by simp) rfl;have hD:=hD 2 5 (by simp) (by simp) (by decide) rfl rfl;clear hR W;simp only[zF3]at Y s o2;rw[zF2 (by decide)]at r5 Q;generalize(I 2).1=b3 at *;generalize(I 2).2=av at *;generalize(I 5).1=an at *;generalize(I 5).2=ao at *;simp only[bJ,List.length,List.take,List.drop,zFd]
     go_frame
     generalize qx 2=z2 at Y o2⊢;generalize qx 5=z5 at r5 o5⊢;subst Y r5;have n:=k8.old m;have v2:=n.cell 2;have v3:=n.cell 3;have f2:=n.frozen 2;have f3:=n.frozen 3;have k4:=(n.put 2 (.slice D l.gs.length A)).put 3 (.slice F l.cs.length E);have Y:Below wr.heap.size wr ((w3.setCell ⟨wr.heap.size,2,none⟩ (.slice D l.gs.length A)).setCell ⟨wr.heap.size,3,none⟩ (.slice F l.cs.length E)):=((J.trans (m.mono J.size)).setCell zL _).setCell zL _;have ap:wr.heap.size<=w3.heap.size:=by have:=m.size;omega
     have W:=λo=>VK (f:=l.form) (t:=l.type) (N:=wr.heap.size) (by omega) (by omega) hD (((o2.set (a:=⟨wr.heap.size,2,none⟩) (.slice D l.gs.length A) (λq hq=>by show q≠wr.heap.size;omega) (by show wr.heap.size<_;omega)).set (a:=⟨wr.heap.size,3,none⟩) (.slice F l.cs.length E) (λq hq=>by show q≠wr.heap.size;omega) (by show wr.heap.size<_;omega)).old (ba _ o)) (((o5.set (a:=⟨wr.heap.size,2,none⟩) (.slice D l.gs.length A) (λq hq=>by show q≠wr.heap.size;omega) (by show wr.heap.size<_;omega)).set (a:=⟨wr.heap.size,3,none⟩) (.slice F l.cs.length E) (λq hq=>by show q≠wr.heap.size;omega) (by show wr.heap.size<_;omega)).old (ba _ o))
     have HO:=zH W;have HN:=zH (zA s Q);clear s o2 Q o5 hD W;have W:=nN.2.bd (S:=λ_=>True);go_wp2_with (first|(refine aj jU rfl _ rfl rfl [.int .i64 l.form,.int .i64 l.type,.slice D l.gs.length A,.slice F l.cs.length E] rfl (λi v hv=>by rw[zFr,k4.cell i];simpa using hv) ?_)|(refine dC jU rfl _ rfl [.int .i64 l.form,.int .i64 l.type,.slice D l.gs.length A,.slice F l.cs.length E] rfl rfl ?_)|(at_builtin;refine bu jU rfl _ _ rfl rfl ((W.old Y).old (ba _ _)) rfl [.int .i64 l.form,.int .i64 l.type,.slice D l.gs.length A,.slice F l.cs.length E] (Bk.newAt (by simp) _ _) (⟨l.form,l.type,.slice D l.gs.length A,.slice F l.cs.length E,a2,Iy⟩:aZ) ⟨rfl,rfl⟩ (by rw[ab.out];omega) (by simp;omega) ?_;intro A9 c9 w9 h9 lJ fV sH))
     go_roundw
     case rel=>
      refine⟨j+1,U,by go_num,zH ⟨lJ _ _ zL (by simp;omega) ((R.1.trans (Y.mono a5)).alloc (by simp;omega) _),X++[⟨l.form,l.type,.slice D l.gs.length A,.slice F l.cs.length E,a2,Iy⟩],?_,?_⟩⟩
      ·rw[zGr,nN.1,zGc U,Xq.out];simp only[zGq,zHc,partT,HN.1,HN.2]
      have s:=HO.out (.cells #[l.form,l.type,.slice D l.gs.length A,.slice F l.cs.length E] 69);exact nN.2.snoc (Y.trans ((ba _ _).mono (by simp;omega))) s.1 s.2.1 s.2.2 a5 fV (zCm h9) sH
     case measure=>simp[intOf];omega
    obtain rfl:j=ps.length:=by omega
    have Xo:=nN.1;rw[zH3]at Xo;have UX:=zH Xo;clear Xo;have kx:=HX.old R.1;have fx:=kx.frozen 2;have xx:=kx.cell 2;have b4:g3<H.heap.size:=by omega
    have am:=R.1.size;have k5:=kx.put 2 (.slice K ps.length M);have a1:Below H H wr:=P.trans (R.1.mono P.size);have ak:=a1.size;have s:=a1.setCell (p:=⟨H.heap.size,2,none⟩) zL (.slice K ps.length M);have n:=B.2.1.old s;have z2:=n.cell 2;have W:=(Az.2.old s).bd (S:=λ_=>True);have a4:=aN (Az.2.old s).dJ n (by decide);have a3:=zH ((nN.2.grown (eu (i:=2) (v:=.slice K ps.length M) (zF8 wr (some H.heap.size))) (by omega)).mono (B':=H.heap.size) (by omega))
    go_wp2_with (first|(refine aj gW rfl _ rfl rfl [.int .i64 bs[k].id,.int .i64 bs[k].window,.slice K ps.length M] rfl (λi v hv=>by rw[zFr,k5.cell i];simpa using hv) ?_)|(refine dC gW rfl _ rfl [.int .i64 bs[k].id,.int .i64 bs[k].window,.slice K ps.length M] rfl rfl ?_)|
     (at_builtin;refine bu gW rfl _ _ rfl rfl (W.old (ba _ _)) rfl [.int .i64 bs[k].id,.int .i64 bs[k].window,.slice K ps.length M] (Bk.newAt (by simp) _ _) (⟨bs[k].id,bs[k].window,.slice K ps.length M,X⟩:bQ) ⟨rfl,rfl⟩ (by rw[a7.out];omega) (by simp;omega) ?_;intro A9 c9 w9 h9 lJ fV sH;have k9:=(n.alloc _).grown fV a4;have z9:=k9.cell 2;have f9:=k9.frozen 2))
    go_roundw
    case rel=>
     have a8:=eu (i:=2) (v:=.slice A9 (xs.length+1) c9) (dD B.1 (lJ _ _ zL (by simp;omega) (((s.mono Z)).alloc (by simp;omega) _)));refine⟨_,_,_,_,⟨k+1,y,by go_num,_,zH ⟨a8,k9.put 2 _,xs++[⟨bs[k].id,bs[k].window,.slice K ps.length M,X⟩],?_,?_⟩⟩,rfl,rfl,rfl,rfl⟩
     ·rw[zGr,Az.1,zGc y];simp only[zGq,zHc,fJ,UX.out,<-PL.out]
     exact(Az.2.snoc (s.trans ((ba _ _).mono (by simp;omega))) (a3.old (ba _ _)) Z fV (zCn h9) sH).grown (eu (zF8 _ _)) af
    case measure=>simp[intOf];omega
  obtain rfl:k=bs.length:=by omega
  have Xo:=Az.1;rw[zH3]at Xo;have n:=B.2.1;obtain⟨z,s,y2⟩:=zc3 n;have k2:=oK.2.1.grown B.1 (by simp;omega);go_wp2_with (first|(refine ae aP rfl _ _ rfl rfl [.int .i64 ax,.slice A3 ks.length c3,.slice Av bs.length cv] rfl k2 rfl rfl rfl ?_;intro w9 l;have z:=l.bk.cell 0;have s:=l.bk.cell 1;have y2:=l.bk.cell 2))
  refine zFg (v:=.agg #[ax,.slice A3 ks.length c3,.slice Av bs.length cv]) (by simp[results,results8,go_sem,z,s,y2]) rfl ?_;have r:=a0.size;refine⟨_,_,xs,G.heap.size,rfl,Xo,r,by rw[l.size];exact Z,?_,Az.2.grown l.grown (by omega),l.below _ _ (a0.grown B.1 a0.size λk L=>by injection L with L;omega) (by omega)⟩;exact((oK.2.2.lo.keep (dB.gV B.1 λb hb e=>hb.1.2 (zGv some e))).keep (dB.fE l λb hb=>by omega)).keep λb hb y=>⟨by omega,y,rfl⟩
end
structure qw (K:Nat->Prop) (B d:Nat) (bv:Value) (bs:List bQ) (W:World):Prop where
 dJ:W.ownsRow B 67 3 bv bs.length (bs.flatMap bQ.cells)
 prt:∀b∈bs,W.ownsRow B 69 4 b.parts b.ps.length (b.ps.flatMap aZ.cells)
 tN:bs.Pairwise λx y=>x.parts.ownBlock=none\/x.parts.ownBlock≠y.parts.ownBlock
 mO:∀x∈bI bs,W.ownsRow B 122 7 x.1 x.2.length (x.2.flatMap ah.cells)
 og:(bI bs).Pairwise λx y=>x.1.ownBlock=none\/x.1.ownBlock≠y.1.ownBlock
 kids:∀x∈bI bs,∀y∈x.2,okS (λq=>K q/\aJ bv bs q) d y W
theorem iC.s {B d:Nat} {bv:Value} {bs:List bQ} {W:World} (h:iC B d bv bs W):qw (λq=>B<=q/\q<W.heap.size) B d bv bs W:=
 ⟨h.dJ,h.prt,h.tN,h.mO,h.og,λx c y a=>(h.kids x c y a).keep λb hb a=>⟨⟨⟨hb.1,a⟩,hb.2⟩,a,rfl⟩⟩
theorem qw.m {K:Nat->Prop} {B d:Nat} {bv:Value} {bs:List bQ} {W:World} (h:qw K B d bv bs W) (e:∀q,K q->B<=q):iC B d bv bs W:=
 ⟨h.dJ,h.prt,h.tN,h.mO,h.og,λx c y a=>(h.kids x c y a).keep λb hb a=>⟨⟨e b hb.1,hb.2⟩,a,rfl⟩⟩
theorem qw.old {K:Nat->Prop} {B d:Nat} {bv:Value} {bs:List bQ} {W W':World} (h:qw K B d bv bs W) (hb:Below W W W'):qw K B d bv bs W':=
 ⟨aT h.dJ hb,λb a=>aT (h.prt b a) hb,h.tN,λx a=>aT (h.mO x a) hb,h.og,λx a y c=>(h.kids x a y c).keep λq c a=>⟨c,zFs a hb.size,hb.block q a⟩⟩
theorem qw.wide {K K':Nat->Prop} {B d:Nat} {bv:Value} {bs:List bQ} {W:World} (h:qw K B d bv bs W) (c:∀q,K q->K' q):qw K' B d bv bs W:=
 ⟨h.dJ,h.prt,h.tN,h.mO,h.og,λx b y a=>(h.kids x b y a).keep λq b a=>⟨⟨c q b.1,b.2⟩,a,rfl⟩⟩
theorem qw.rep {K K':Nat->Prop} {B d:Nat} {bv:Value} {b1 b2:List bQ} {b:bQ} {p1 p2:List aZ} {p p':aZ} {R1 R2:List (Value×List ah)} {v v':Value} {ns ns':List ah} {W W1:World} {gp j:Nat}
  (h:qw K B d bv (b1++b::b2) W) (P:∀q,K q->K' q) (H:b.ps=p1++p::p2) (r:b.parts.ownBlock=some gp) (Z:j<4) (A:p.cells.set j v'=p'.cells) (I:bI (b1++b::b2)=R1++(v,ns)::R2) (t:bI (b1++{b with ps:=p1++p'::p2}::b2)=R1++(v',ns')::R2)
  (L:W1.ownsRow B 122 7 v' ns'.length (ns'.flatMap ah.cells)) (C:W.grownBy W1 v.ownBlock) (E:v'.ownBlock=v.ownBlock\/∀k,v'.ownBlock=some k->aJ bv (b1++b::b2) k/\¬K k)
  (YQ:∀y∈ns',okS (λq=>K' q/\aJ bv (b1++b::b2) q/\some q≠v'.ownBlock) d y W1):
  qw K' B d bv (b1++{b with ps:=p1++p'::p2}::b2) (W1.setCell ⟨gp,p1.length*4+j,none⟩ v'):=by
 have m:(v,ns)∈bI (b1++b::b2):=by rw[I];simp
 have N:=h.mO _ m;have hb:=h.prt b (by simp);have s:=Ha h.tN;have J:(∀x∈R1,_)/\_:=Ha (I▸h.og)
 have c:∀x∈R1++R2,x∈bI (b1++b::b2):=λx a=>by
  rw[I];rcases zFy.1 a with a|a<;>simp[a]
 have l:∀{e f n:Nat} {u:Value} {xs:List Value},W1.ownsRow B e f u n xs->u.ownBlock≠some gp->(W1.setCell ⟨gp,p1.length*4+j,none⟩ v').ownsRow B e f u n xs:=λI f=>zGw I f _
 have F:∀{u:Value} {n:Nat} {xs:List Value},W.ownsRow B 122 7 u n xs->u.ownBlock≠some gp:=fun {u n xs} hu e=>by
  rcases own_ne hu hb (by decide)with f|f
  ·rw[e]at f;cases f
  exact f (e.trans r.symm)
 have a0:=(hb.lt gp r).2
 have M:v'.ownBlock≠some gp:=by
  rcases E with e|e
  ·rw[e];exact F N
  intro w;exact(e gp w).1.2.1 b (by simp) r.symm
 have O:∀x∈R1++R2,x.1.ownBlock=none\/x.1.ownBlock≠v.ownBlock:=by
  intro x a;rcases zFy.1 a with a|a
  ·exact J.1 x a
  rcases J.2 x a with e|e
  ·by_cases G:x.1.ownBlock=none
   ·exact .inl G
   exact .inr λw=>G (w.trans e)
  exact .inr (zLh e)
 have U:∀x∈R1++R2,x.1.ownBlock=none\/x.1.ownBlock≠v'.ownBlock:=λx a=>by
  rcases E with e|e
  ·rw[e];exact O x a
  rcases hx1:x.1.ownBlock with _|k
  ·exact .inl rfl
  refine .inr λw=>?_
  exact(e k w.symm).1.2.2 x (c x a) hx1.symm
 have X:∀q,aJ bv (b1++b::b2) q->some q≠v'.ownBlock->aJ bv (b1++{b with ps:=p1++p'::p2}::b2) q:=by
  intro q g i;refine⟨g.1,λx a=>?_,λz o=>?_⟩
  ·rcases zFy.1 a with a|a
   ·exact g.2.1 x (by simp[a])
   rcases zF6.1 a with rfl|a
   ·exact g.2.1 b (by simp)
   exact g.2.1 x (by simp[a])
  rw[t]at o;rcases zFy.1 o with o|o
  ·exact g.2.2 z (c z (by simp[o]))
  rcases zF6.1 o with rfl|o
  ·exact i
  exact g.2.2 z (c z (by simp[o]))
 have R:∀q,K q->aJ bv (b1++b::b2) q->some q≠v'.ownBlock:=λq i g=>by
  rcases E with e|e
  ·rw[e];exact g.2.2 _ m
  intro w;exact(e q w.symm).2 i
 have Y:∀q,q<W1.heap.size->q≠gp->q<(W1.setCell ⟨gp,p1.length*4+j,none⟩ v').heap.size/\(W1.setCell ⟨gp,p1.length*4+j,none⟩ v').heap[q]? =W1.heap[q]? :=λq D Q=>
  ⟨by simpa using D,zGt W1 _ _ q (by show q≠gp;exact Q)⟩
 refine⟨?_,?_,?_,?_,?_,?_⟩
 ·have Q:(b1++{b with ps:=p1++p'::p2}::b2).length=(b1++b::b2).length:=by simp
  have S:(b1++{b with ps:=p1++p'::p2}::b2).flatMap bQ.cells=(b1++b::b2).flatMap bQ.cells:=by simp[zGz,bQ.cells]
  rw[Q,S]
  exact l (bU h.dJ N (by decide) C) (λe=>by
   rcases own_ne h.dJ hb (by decide)with f|f
   ·rw[e]at f;cases f
   exact f (e.trans r.symm))
 ·intro x a;rcases zFy.1 a with a|a
  ·have D:=h.prt x (by simp[a]);refine l (bU D N (by decide) C) λe=>?_
   rcases s.1 x a with f|f
   ·rw[e]at f;cases f
   exact f (e.trans r.symm)
  rcases zF6.1 a with rfl|a
  ·have G:=uM (bU hb N (by decide) C) r (p1.length*4+j) (by rw[FD _ _ lU,H];simp;omega) v';have Q:(p1++p'::p2).length=b.ps.length:=by rw[H];simp
   have S:(p1++p'::p2).flatMap aZ.cells=(b.ps.flatMap aZ.cells).set (p1.length*4+j) v':=by
    rw[H];exact(Dl aZ.cells 4 lU p1 p p' p2 j v' Z A).symm
   show(W1.setCell _ v').ownsRow B 69 4 b.parts (p1++p'::p2).length ((p1++p'::p2).flatMap aZ.cells)
   rw[Q,S];exact G
  have D:=h.prt x (by simp[a]);refine l (bU D N (by decide) C) λe=>?_
  rcases s.2 x a with f|f
  ·rw[r]at f;cases f
  exact f (r.trans e.symm)
 ·exact He h.tN (λx a=>s.1 x a) (λx a=>s.2 x a)
 ·intro x a;rw[t]at a;rcases zFy.1 a with a|a
  ·exact l ((h.mO x (c x (by simp[a]))).kept C (O x (by simp[a]))) (F (h.mO x (c x (by simp[a]))))
  rcases zF6.1 a with rfl|a
  ·exact l L M
  exact l ((h.mO x (c x (by simp[a]))).kept C (O x (by simp[a]))) (F (h.mO x (c x (by simp[a]))))
 ·rw[t];refine He (I▸h.og) (λx a=>U x (by simp[a])) (λx a=>?_);rcases U x (by simp[a])with e|e
  ·by_cases G:v'.ownBlock=none
   ·exact .inl G
   exact .inr λw=>G (w.trans e)
  exact .inr (zLh e)
 intro x a y D
 have G:∀z∈bI (b1++b::b2),y∈z.2->okS (λq=>K' q/\aJ bv (b1++{b with ps:=p1++p'::p2}::b2) q) d y (W1.setCell ⟨gp,p1.length*4+j,none⟩ v'):=λz o D=>by
  refine(h.kids z o y D).keep λq i f=>?_
  have w:=Y q (by have:=C.size;omega) (λe=>i.2.2.1 b (by simp) (by rw[r,e]));exact⟨⟨P q i.1,X q i.2 (R q i.1 i.2)⟩,w.1,w.2.trans (C.block q f (i.2.2.2 _ m))⟩
 rw[t]at a;rcases zFy.1 a with a|a
 ·exact G x (c x (by simp[a])) D
 rcases zF6.1 a with rfl|a
 ·refine(YQ y D).keep λq i f=>?_
  have w:=Y q f (λe=>i.2.1.2.1 b (by simp) (by rw[r,e]));exact⟨⟨i.1,X q i.2.1 i.2.2⟩,w.1,w.2⟩
 exact G x (c x (by simp[a])) D
theorem dO.any {d:Nat} {S:Nat->Prop} {ax:Int} {ks:List Int} {bs:List dL} {cs:List Value} {w:World} (h:dO d S ax ks bs cs w):dO d (λ_=>True) ax ks bs cs w:=by
 obtain⟨c,bv,e,f,g⟩:=h;exact⟨c,bv,e,f.keep λb _ a=>⟨trivial,a,rfl⟩,g.keep λb _ a=>⟨trivial,a,rfl⟩⟩
theorem dO.old {d:Nat} {S:Nat->Prop} {ax:Int} {ks:List Int} {bs:List dL} {cs:List Value} {w w':World} (h:dO d S ax ks bs cs w) (hb:Below w w w'):dO d S ax ks bs cs w':=by
 obtain⟨a,bv,b,e,c⟩:=h;exact⟨a,bv,b,e.keep (.old hb),c.keep (.old hb)⟩
theorem wO.old {d:Nat} {S:Nat->Prop} {ax:Int} {ks:List Int} {bs:List fQ} {cs:List Value} {w w':World} (h:wO d S ax ks bs cs w) (hb:Below w w w'):wO d S ax ks bs cs w':=by
 obtain⟨a,bv,b,e,c⟩:=h;exact⟨a,bv,b,e.keep (.old hb),c.keep (.old hb)⟩
theorem zCu {w:World} {op:Oper} {a:Act} {K:Act->World->Prop} {Q:Exit->Act->World->Prop} {t n:Nat} (c:∀w,(sizeOf t).run prog w=.ok n w) (e:∀w,(isAgg t).run prog w=.ok true w) (x:Operand) (d:op.op=Op.load t x) {g o:Nat} (f:a.eval x=.pointer (some ⟨g,o,none⟩)) (b:List Value) (k:b.length=n) (h:∀(j:Nat) (u:Value),b[j]? =some u->w.cell? ⟨g,o+j,none⟩=some u)
  (i:K (a.put op.dst (.agg b.toArray)) w):op.wp prog a w K Q:=by
 unfold Oper.wp;simp[execOp,d,f,dW e c b k h,Result.andThen];exact i
def stZ:fQ:=⟨0,0,false,0,[],[],[],[]⟩
def iD (bs:List fQ) (i:Nat):fQ:=(bs[i]?).getD stZ
theorem uO {bs:List fQ} {i:Nat} (h:i<bs.length):iD bs i=bs[i]:=by unfold iD;rw[zAg h];rfl
def qj (s:fQ) (cl:List T):dU:=⟨if s.many then 2 else 1,s.type,s.gs,cl⟩
def jV (bs:List fQ) (cl:List T):List Nat->List dU
 |[]=>[]
 |[x]=>gQ (iD bs x).bars++[qj (iD bs x) cl]
 |x::y::l=>(gQ (iD bs x).bars++[qj (iD bs x) (iD bs y).lv])++jV bs cl (y::l)
def DF (bs:List fQ) (cl:List T):List Nat->List T
 |[]=>cl
 |y::_=>(iD bs y).lv
theorem ug (bs:List fQ) (cl:List T) (x:Nat) (l:List Nat):jV bs cl (x::l)=(gQ (iD bs x).bars++[qj (iD bs x) (DF bs cl l)])++jV bs cl l:=by
 cases l with
 |nil=>simp[jV,DF]
 |cons y l=>rfl
theorem KQ (bs:List fQ) (cl:List T) {p:List Nat} {k:Nat} (h:k<p.length):jV bs cl (p.drop k)=(gQ (iD bs p[k]).bars++[qj (iD bs p[k]) (DF bs cl (p.drop (k+1)))])++jV bs cl (p.drop (k+1)):=by
 rw[zFk h,ug]
theorem Om (bs:List fQ) (cl:List T) {p:List Nat} {k:Nat} (h:k<p.length):DF bs cl (p.drop k)=(iD bs p[k]).lv:=by rw[zFk h];rfl
def KR (bs:List fQ) (i:Nat) (e:VG):dL:=⟨e.branch.toNat,(iD bs i).window,jV bs e.cs (lh bs i)++gQ e.bars⟩
def Oo (bs:List fQ) (i:Nat):List dL:=(List.range i).flatMap λs=>(iD bs s).ends.map (KR bs s)
def mY (bs:List fQ) (i j:Nat):List dL:=Oo bs i++((iD bs i).ends.take j).map (KR bs i)
theorem Oq (bs:List fQ) (i:Nat):mY bs i 0=Oo bs i:=by simp[mY]
theorem FZ (bs:List fQ) (i:Nat):mY bs i (iD bs i).ends.length=Oo bs (i+1):=by simp[mY,Oo,List.range_succ]
theorem Ot (bs:List fQ) (i:Nat) {j:Nat} (h:j<(iD bs i).ends.length):mY bs i (j+1)=mY bs i j++[KR bs i (iD bs i).ends[j]]:=by
 unfold mY;rw[zJa,<-List.map_singleton (f:=KR bs i),<-zGr]
 congr 2
 simp
end Go.Proofs.YtbjnhllkdilpfaaGreat
