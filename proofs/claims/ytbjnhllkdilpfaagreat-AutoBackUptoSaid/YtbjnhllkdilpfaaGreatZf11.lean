/- Part 11 of the proof. No conditions. -/
import Derived.Test.YtbjnhllkdilpfaaGreatZf03
import Derived.Test.YtbjnhllkdilpfaaGreatZf04
set_option linter.unusedVariables false
set_option linter.unusedSimpArgs false
set_option maxRecDepth 100000
set_option maxHeartbeats 16000000
namespace Go.Proofs.YtbjnhllkdilpfaaGreat
open Go.RowKit _root_.Go.Proofs.Tryz
theorem xw (c:UInt8) (n:Nat) (h:n<256):((c.toNat:Int)==(n:Int))=(c==UInt8.ofNat n):=by
 by_cases e:c=UInt8.ofNat n
 ·subst e;simp;omega
 have a:(c==UInt8.ofNat n)=false:=by simpa using e
 rw[a,zFz];intro b
 apply e
 apply UInt8.toNat_inj.1
 rw[zK3];omega
theorem Qx (c:UInt8) (w:World):
  Calls prog 55 #[.int .u8 (c.toNat:Int)] w λe w'=>e=.returned (.bool (yJ c))/\w'=w:=by
 obtain⟨b1,a⟩:=zN (c==32)
 obtain⟨b2,b⟩:=zN (c==9)
 obtain⟨f,d⟩:=zN (c==10)
 obtain⟨g,e⟩:=zN (c==13)
 have h:((c.toNat:Int)==32)=b1:=(xw c 32 (by omega)).trans a;have k:((c.toNat:Int)==9)=b2:=(xw c 9 (by omega)).trans b;have i:((c.toNat:Int)==10)=f:=(xw c 10 (by omega)).trans d;have j:((c.toNat:Int)==13)=g:=(xw c 13 (by omega)).trans e;unfold yJ;rw[a,b,d,e];clear a b d e;generalize(c.toNat:Int)=z at *;cases b1<;>cases b2<;>cases f<;>cases g<;>
 (go_enter func55,ntmps55
  go_wp2
  go_ret
  exact⟨rfl,rfl⟩)
theorem ni (a:Bool):∀l:Str,eX a l<=l.length
 |[]=>zFv _
 |c::l=>by
  have:=ni a l;unfold eX
  split
  ·simp;omega
  simp
theorem EG (a:Bool) (s:ByteArray) (p:Nat) (h:p<s.size):eX a (s.toList.drop p)=if IG a s[p]then eX a (s.toList.drop (p+1))+1 else 0:=by
 rw[dV s p h];rfl
theorem TD (a:Bool) (s:ByteArray) (p:Nat) (h:s.size<=p):eX a (s.toList.drop p)=0:=by
 rw[zFq (by rw[bW];exact h)];rfl
theorem xy (s:ByteArray) (p0:Nat) (a:Bool) (w:World) (A:p0<=s.size) (B:s.size<=1048576):
  Calls prog 82 #[s,p0,.bool a] w λe w'=>e=.returned (.int .i64 (eX a (s.toList.drop p0):Nat))/\w'=w:=by
 obtain⟨b,c⟩:=zN (eX a (s.toList.drop p0))
 have v:Hid (0+eX a (s.toList.drop (p0+0))=b):=zH (by rw[zFr];exact c);rw[c];clear c
 go_enter func82,ntmps82
 go_wp2
 go_loopw[7] (λn wr=>∃k:Nat,p0+k<=s.size/\n=.int .i64 k/\wr=w/\Hid (k+eX a (s.toList.drop (p0+k))=b)) (λn _=>s.size-(intOf n).toNat)
 case atStart=>exact⟨0,A,rfl,rfl,v⟩
 case round=>
  clear v;obtain⟨k,y,rfl,rfl,c⟩:=hrel;obtain⟨p,f⟩:=zN (p0+k)
  have z:(p0:Int)+(k:Int)=(p:Int):=by omega
  rw[f]at c y
  by_cases q:p<s.size
  ·have C:(p:Int)<(s.size:Int):=by omega
   have d:=c.out;rw[EG a s p q]at d;have h:=ui (s[p].toNat:Int);have i:=lH (s[p].toNat:Int);have l:=xw s[p] 95 (by omega);have j:IG a s[p]=(kM s[p].toNat||(a&&(jg s[p].toNat||s[p]==95))):=rfl;rw[j]at d;obtain⟨b1,r⟩:=zN (kM s[p].toNat)
   obtain⟨b2,x⟩:=zN (jg s[p].toNat)
   obtain⟨t,o⟩:=zN (s[p]==(95:UInt8))
   rw[r]at h d;rw[x]at i d;have u:((s[p].toNat:Int)==95)=t:=l.trans o;rw[o]at d;have m:=zH h;have g:=zH i;have e:=zH d;clear h i d c l r x o j;cases b1
   ·cases a
    ·as_aux_lemma=>
     have d:k=b:=by simpa using e.out
     subst d;go_wp2_with fail
     refine(m.out _).mono ?_;rintro r w2 ⟨rfl,rfl⟩;go_wp2
     go_ret
     exact⟨rfl,rfl⟩
    cases b2
    ·cases t
     ·as_aux_lemma=>
      have d:k=b:=by simpa using e.out
      subst d;go_wp2_with fail
      refine(m.out _).mono ?_;rintro r w2 ⟨rfl,rfl⟩;go_wp2_with fail
      refine(g.out _).mono ?_;rintro r w2 ⟨rfl,rfl⟩;go_wp2
      go_ret
      exact⟨rfl,rfl⟩
     as_aux_lemma=>
     have h:Hid (k+1+eX true (s.toList.drop (p0+(k+1)))=b):=zH (by have:=e.out;simp at this;rw[<-this,<-f];rw[show p0+(k+1)=p0+k+1 by omega];omega);go_wp2_with fail
     refine(m.out _).mono ?_;rintro r w2 ⟨rfl,rfl⟩;go_wp2_with fail
     refine(g.out _).mono ?_;rintro r w2 ⟨rfl,rfl⟩;go_wp2
     go_roundw
     case rel=>exact⟨k+1,by omega,by go_num,by first|rfl|trivial,h⟩
     case measure=>simp[intOf];omega
    as_aux_lemma=>
    have h:Hid (k+1+eX true (s.toList.drop (p0+(k+1)))=b):=zH (by have:=e.out;simp at this;rw[<-this,<-f];rw[show p0+(k+1)=p0+k+1 by omega];omega);go_wp2_with fail
    refine(m.out _).mono ?_;rintro r w2 ⟨rfl,rfl⟩;go_wp2_with fail
    refine(g.out _).mono ?_;rintro r w2 ⟨rfl,rfl⟩;go_wp2
    go_roundw
    case rel=>exact⟨k+1,by omega,by go_num,by first|rfl|trivial,h⟩
    case measure=>simp[intOf];omega
   as_aux_lemma=>
   have h:Hid (k+1+eX a (s.toList.drop (p0+(k+1)))=b):=zH (by have:=e.out;simp at this;rw[<-this,<-f];rw[show p0+(k+1)=p0+k+1 by omega];omega);go_wp2_with fail
   refine(m.out _).mono ?_;rintro r w2 ⟨rfl,rfl⟩;go_wp2
   go_roundw
   case rel=>exact⟨k+1,by omega,by go_num,by first|rfl|trivial,h⟩
   case measure=>simp[intOf];omega
  rw[TD a s p (by omega)]at c;have d:k=b:=by simpa using c.out
  subst d;go_wp2
  go_ret
  exact⟨rfl,rfl⟩
def sD (c:UInt8):Prop:=48<=c.toNat/\c.toNat<=57
theorem EH (d:UInt8):∀(l:Str) (n:Nat),iM n (l++[d])=10*iM n l+(d.toNat-48)
 |[],n=>rfl
 |c::l,n=>EH d l _
theorem OQ:∀(l:Str) (n:Nat),n<=iM n l
 |[],n=>zFv _
 |c::l,n=>by have:=OQ l (10*n+(c.toNat-48));show n<=iM (10*n+(c.toNat-48)) l;omega
theorem TF (q n P d:Nat) (b:q<(10*n+d+1)*P) (c:d<=9):q<(n+1)*(10*P):=by
 have a:(10*n+d+1)*P<=((n+1)*10)*P:=zJq P (by omega);rw[zJf]at a;exact zFs b a
theorem XK (l:Str):∀(n:Nat),(∀c∈l,sD c)->iM n l<(n+1)*10^l.length:=by
 induction l with
 |nil=>intro n _;show n<(n+1)*1;omega
 |cons c l a=>
  intro n h;have b:iM n (c::l)<(10*n+(c.toNat-48)+1)*10^l.length:=a (10*n+(c.toNat-48)) λx d=>h x (by simp[d])
  have d:=h c (by simp);unfold sD at d;rw[zFh,Nat.pow_succ,zLi (10^l.length) 10];exact TF (iM n (c::l)) n (10^l.length) (c.toNat-48) b (by omega)
theorem TG {d:UInt8} (h:sD d):vC (d.toNat-48)=d:=by
 unfold vC
 apply UInt8.toNat_inj.1
 rw[zK3];unfold sD at h;omega
theorem IJ:∀(n:Nat) (l:Str),l.length=n+1->(∀c∈l,sD c)->(n=0\/l[0]?≠some 48)->Lib.decDigits (iM 0 l)=l
 |0,[d],_,f,_=>by
  have h:=f d (by simp);have e:iM 0 [d]=d.toNat-48:=by show 10*0+(d.toNat-48)=_;omega
  have o:d.toNat-48<10:=by have:=h.2;omega
  rw[e,pU (d.toNat-48) o,TG h]
 |n+1,l,m,f,j=>by
  have g:l≠[]:=by intro e;rw[e]at m;simp at m
  obtain⟨b,d,rfl⟩:∃b d,l=b++[d]:=⟨l.dropLast,l.getLast g,(List.dropLast_concat_getLast g).symm⟩
  have i:b.length=n+1:=by simpa using m
  have h:=f d (by simp)
  have a:(b)[0]?≠some 48:=by
   rcases j with j|j
   ·omega
   rwa [zGh (by omega)]at j
  have s:=IJ n b i (λc k=>f c (by simp[k])) (.inr a)
  have p:1<=iM 0 b:=by
   match b,i,a with
   |c::r,_,a=>
    have k:=f c (by simp)
    have:c.toNat≠48:=by
     intro e
     apply a
     have:c=48:=UInt8.toNat_inj.1 e;rw[this];rfl
    have t:=OQ r (10*0+(c.toNat-48));have u:iM 0 (c::r)=iM (10*0+(c.toNat-48)) r:=rfl;unfold sD at k;omega
  have o:d.toNat-48<10:=by have:=h.2;omega
  have k:=TG h;rw[EH];generalize iM 0 b=v at *;generalize d.toNat-48=q at *;rw[xu (10*v+q) (by omega),show(10*v+q)/10=v by omega,show(10*v+q)%10=q by omega,s,k]
theorem EI (s:ByteArray) (n k:Nat) (h:k<s.size):iM n (s.toList.drop k)=iM (10*n+(s[k].toNat - 48)) (s.toList.drop (k+1)):=by
 rw[dV s k h];rfl
def TI (z:Int) (ok:Bool) (w:World) (e:Ending) (w':World):Prop:=e=.returned (.tuple #[z,.bool ok])/\Below w w w'
theorem IK (s:ByteArray) (w:World) (j:∀c∈s.toList,sD c) (I:1<=s.size) (z:s.size<=19) (o:s.size=1\/s.toList[0]?≠some 48):
  Calls prog 99 #[s] w (TI (wrap64 (iM 0 s.toList:Nat)) (decide (iM 0 s.toList<=9223372036854775807)) w):=by
 obtain⟨V,q⟩:=zN (iM 0 s.toList)
 obtain⟨m,f⟩:=zN (wrap64 (V:Int))
 obtain⟨u,b⟩:=zN (decide (V<=9223372036854775807))
 have a:Lib.decDigits V=s.toList:=by
  rw[<-q];refine IJ (s.size-1) s.toList (by rw[bW];omega) j ?_;rcases o with o|o
  ·exact .inl (by omega)
  exact .inr o
 have d:V<10000000000000000000:=by
  have:=XK s.toList 0 j;rw[q,bW]at this;have g:=zJr (n:=10) (by omega) z;omega
 have l: -9223372036854775808<=m/\m<=9223372036854775807:=by rw[<-f];unfold wrap64;omega
 have p:∀c:UInt8,s.toList[0]? =some c->sD c:=λc e=>j c (zGj e)
 have v:Hid (((bytes (Lib.itoa m)).toList==s.toList)=u):=zH (by
  rw[aI,<-b]
  by_cases r:V<=9223372036854775807
  ·have e:m=V:=by rw[<-f];unfold wrap64;omega
   have t:Lib.itoa m=s.toList:=by
    unfold Lib.itoa;rw[zF2 (by omega),e,Int.toNat_natCast,a]
   rw[t,zGm r];simp
  have h:m<0:=by rw[<-f];unfold wrap64;omega
  rw[zGf r,zFz];intro e;unfold Lib.itoa at e;rw[zF3 h]at e;have:=p 45 (by rw[<-e];rfl);unfold sD at this
  exact absurd this.1 (by decide))
 have r:∀h:0<s.size,((s[0].toNat:Int)==45)=false:=λh=>by
  have g:=dV s 0 h;rw[zFp]at g;have C:=j s[0] (by rw[g];simp);unfold sD at C;rw[zFz];omega
 have e:=r (by omega);have E:=zH (Bh m l);have F:Hid (∀w':World,Below w w w'->TI m u w (.returned (.tuple #[m,.bool u])) w'):=zH λw' h=>⟨rfl,h⟩
 have A:Hid (∀k (h:k<s.size),sD s[k]):=zH λk h=>j _ (by
  have g:=dV s k h
  exact zJ2 (i:=k) (by rw[g];simp))
 have D:Hid (iM 0 (s.toList.drop 0)=V):=zH (by rw[zFp];exact q);rw[q,f,b];have K:=zH f;have L:(0:Int)<(s.size:Int):=by omega
 clear q f b a d l p r o j
 go_enter func99,ntmps99
 go_wp2
 go_loopw[5,6] (λx i wr=>∃(k n:Nat),k<=s.size/\x=.int .u64 n/\i=.int .i64 k/\wr=w/\Hid (n<10^k)/\Hid (iM n (s.toList.drop k)=V)) (λ_ i _=>s.size-(intOf i).toNat)
 case atStart=>exact⟨0,0,zFj _,rfl,rfl,rfl,zH (by decide),D⟩
 case round=>
  clear D;obtain⟨k,n,Q,rfl,rfl,t,q,b⟩:=hrel;obtain rfl:wr=w:=t
  by_cases d:k<s.size
  ·as_aux_lemma=>
   have P:(k:Int)<(s.size:Int):=by omega
   have B:¬(18:Int)<(k:Int):=by omega
   have a:=b.out;rw[EI s n k d]at a;have f:=ui (s[k].toNat:Int);have p:=A.out k d;unfold sD at p;have l:kM (s[k].toNat:Int)=true:=zGm (by omega);rw[l]at f;have M:=zH f;have y:=zH a
   have r:n<1000000000000000000:=by
    have I:=zJr (n:=10) (by omega) (show k<=18 by omega);have g:=q.out;have C:(10:Nat)^18=1000000000000000000:=by decide
    omega
   have G:Hid (10*n+(s[k].toNat - 48)<10^(k+1)):=zH (by
    have g:=q.out
    rw[Nat.pow_succ];omega)
   have H:(48:Int)<=(s[k].toNat:Int):=by omega
   have O:(s[k].toNat:Int)<=57:=by omega
   have J:IntKind.u64.wrap (10*(n:Int))=10*(n:Int):=by rw[zH2];omega
   have C:IntKind.u64.wrap (10*(n:Int)+((s[k].toNat:Int)-48))=10*(n:Int)+((s[k].toNat:Int)-48):=by rw[zH2];omega
   have g:(10*(n:Int))%18446744073709551616=10*(n:Int):=by omega
   have N:(10*(n:Int)+((s[k].toNat:Int)-48))%18446744073709551616=10*(n:Int)+((s[k].toNat:Int)-48):=by omega
   clear q p r f a l b e;go_wp2_with fail
   refine(M.out wr).mono ?_;rintro r w2 ⟨rfl,rfl⟩;go_wp2
   go_roundw
   case rel=>exact⟨k+1,10*n+(s[k].toNat - 48),by omega,by first|go_num|(congr 1;omega),by go_num,by first|rfl|trivial,G,y⟩
   case measure=>simp[intOf];omega
  as_aux_lemma=>
  obtain rfl:k=s.size:=by omega
  have f:s.toList.drop s.size=[]:=zFq (by rw[bW];omega);have a:=b.out;rw[f]at a;have a:n=V:=a;subst a;have l:wrap64 (n:Int)=m:=K.out;clear b q f e;go_wp2_with fail
  refine(E.out wr).mono ?_;rintro r w2 ⟨rfl,f⟩;have p:=v.out;generalize bytes (Lib.itoa m)=T at *;clear E;go_wp2
  go_ret2
  exact F.out _ f
end Go.Proofs.YtbjnhllkdilpfaaGreat
