/- Part 12 of the proof. No conditions. -/
import Derived.Test.YtbjnhllkdilpfaaGreatZf11
import Derived.Test.YtbjnhllkdilpfaaGreatZf05
set_option linter.unusedVariables false
set_option linter.unusedSimpArgs false
set_option maxRecDepth 100000
set_option maxHeartbeats 16000000
namespace Go.Proofs.YtbjnhllkdilpfaaGreat
open Go.RowKit _root_.Go.Proofs.Tryz
def aC.cells (t:aC):List Value:=[.int .i64 t.kind,.string (bytes t.text),.int .i64 t.n,.int .i64 t.scale,.int .i64 t.pos]
def aC.val (t:aC):Value:=.agg #[t.kind,.string (bytes t.text),t.n,t.scale,t.pos]
theorem TL:(prog.info? 94).map (λi=>(i.zero,i.size,i.bytes))=some (some (.agg #[(),.string ⟨#[]⟩,(),(),()]),5,48):=by kernel_rfl
theorem fB (w:World):(sizeOf 94).run prog w=.ok 5 w:=by
 obtain⟨i,a,d,b,c⟩:=zG4 TL;simp[sizeOf,typeInfo,a,b]
def EK (r:aC×Nat) (w:World) (e:Ending) (w':World):Prop:=e=.returned (.tuple #[r.1.val,.int .i64 (r.2:Nat)])/\Below w w w'
theorem BM (a:Bool):∀l:Str,∀c∈l.take (eX a l),IG a c=true
 |[],c,h=>by simp at h
 |x::l,c,h=>by
  unfold eX at h
  by_cases b:IG a x=true
  ·rw[zF3 b,zF0]at h;rcases zF6.1 h with rfl|h
   ·exact b
   exact BM a l c h
  rw[zF2 b]at h;simp at h
theorem TM {c:UInt8} (h:IG false c=true):sD c:=by
 simp[IG,kM]at h;unfold sD;omega
theorem TN (S:ByteArray) (w:World):∃(g c:Nat) (W:World),(convert 9 171 (.string S)).run prog w=.ok (.slice (some ⟨g,0,none⟩) S.size c) W/\Below w w W/\∀j (h:j<S.size),W.cell? ⟨g,j,none⟩=some (.int .u8 (S[j].toNat:Int)):=by
 refine⟨w.heap.size,_,_,Lib.run_convert_string_bytes w 9 171 5 S underlying9 underlying171 underlying5,⟨rfl,rfl,rfl,by rw[Lib.bytesWorld_size];omega,λk b=>Lib.bytesWorld_at_old w _ S k b⟩,λj h=>?_⟩;rw[Lib.bytesWorld_cell w _ S j h];have a:=dV S j h;have e:S.data.toList.drop j=S[j]::S.data.toList.drop (j+1):=by rw[<-zFm];exact a
 have d:S.data.toList[j]? =some S[j]:=by
  have f:(S.data.toList.drop j)[0]? =some S[j]:=by rw[e];rfl
  rwa [zHd,Nat.add_zero]at f
 rw[zGy,d];rfl
theorem Me (s:ByteArray) (p:Nat) (w:World) (hp:p<s.size) (hs:s.size<=1048576) (Q:kM s[p].toNat=true):
  Calls prog 86 #[s,p] w (EK (numberT (s.toList.drop p)) w):=by
 obtain⟨R,hR⟩:=zN (numberT (s.toList.drop p))
 obtain⟨l,j⟩:=zN (s.toList.drop p)
 have u:l.length=s.size-p:=by rw[<-j,zHj,bW]
 obtain⟨n,r⟩:=zN (eX false l)
 have ap:1<=n:=by
  rw[<-r,<-j,EG false s p hp,zF3 (by simp[IG,Q])];omega
 have a6:n<=l.length:=by rw[<-r];exact ni _ _
 obtain⟨q,hq⟩:=zN (p+n)
 have an:(p:Int)+(n:Int)=(q:Int):=by omega
 have av:q<=s.size:=by omega
 have a9:(q:Int)<=(s.size:Int):=by omega
 have a8:(p:Int)<=(q:Int):=by omega
 obtain⟨D,hD⟩:=zN (s.extract p q)
 have d:D.toList=l.take n:=by
  rw[<-hD,<-j,zFm,Lib.extract_eq,zFm,<-hq,zKb]
 have a7:D.size=n:=by rw[<-bW,d,zG9];omega
 have z:Hid (∀W:World,Calls prog 82 #[s,p,.bool false] W λe w'=>e=.returned (.int .i64 (n:Nat))/\w'=W):=zH λW=>by
  have h:=xy s p false W (by omega) hs;rw[j,r]at h;exact h
 obtain⟨m,y⟩:=zN (vz l n)
 have f:l[0]? =some s[p]:=by rw[<-j,dV s p hp];rfl
 have t:(h:0<D.size)->D[0]=s[p]:=λh=>by
  have H:=dV D 0 h;rw[zFp,d]at H;have A:(l.take n)[0]? =some D[0]:=by rw[H];rfl
  rw[zJt (by omega),f]at A;injection A with A
  exact A.symm
 obtain⟨L,b⟩:=zN (s[p]==(48:UInt8))
 have o:(h:0<D.size)->((D[0].toNat:Int)==48)=L:=λh=>by rw[t h];exact(xw s[p] 48 (by omega)).trans b
 have a2:=o (by omega)
 have Y : Hid ((if (1 < n ∧ L = true) ∨ (m = 0 ∧ 19 < n) ∨ (0 < m ∧ 15 < n + m) then (qA, 0)
   else if m=0 then(if iM 0 D.toList<=9223372036854775807 then(⟨3,[],iM 0 D.toList,0,0⟩,n)else(qA,0))
   else(⟨4,[],iM 0 (D.toList++(l.drop (n+1)).take m),m,0⟩,n+1+m))=R):=zH (by
  rw[<-hR,j];unfold numberT;simp only[r,y,f];have e:(L=true)<->(some s[p]=some 48):=by rw[<-b];simp
  rw[d]
  simp only[e])
 have G:Hid (∀c∈D.toList,sD c):=zH λc hc=>by
  rw[d,<-r]at hc;exact TM (BM false l c hc)
 have J:Hid (L=false->D.toList[0]?≠some 48):=zH λhb e=>by
  rw[d,zJt (by omega),f]at e;injection e with e
  rw[hb,zFz]at b;exact b e
 have aa:(D.size:Int)=(n:Int):=by omega
 have B:Hid (vz l n=m):=zH y;have P:Hid (s.toList.drop p=l):=zH j;have a1:(0:Int)<(D.size:Int):=by omega
 rw[hR];clear hR r d o t f b u Q y j
 go_enter func86,ntmps86
 have K:=Bk.new w 94 #[(),.string ⟨#[]⟩,(),(),()];have d:Below w w (w.alloc (.cells #[(),.string ⟨#[]⟩,(),(),()] 94)):=zR.alloc zL _;go_wp2_with fail
 generalize w.alloc (.cells #[(),.string ⟨#[]⟩,(),(),()] 94)=W at *;refine(z.out W).mono ?_;rintro r w2 ⟨rfl,rfl⟩;clear z;obtain⟨y,b⟩:=zN (decide (∃h:q<s.size,s[q]=46))
 go_upto_region 4 with fail
 go_cut[36] (λv wx=>v=.bool y/\w2=wx)
 case first=>
  by_cases j:q<s.size
  ·have f:(q:Int)<(s.size:Int):=by omega
   have o:((s[q].toNat:Int)==46)=y:=by
    refine(xw s[q] 46 (by omega)).trans ?_;rw[<-b,zHe,zFt,zKc];exact⟨λe=>⟨j,e⟩,λ⟨_,e⟩=>e⟩
   clear b;go_wp2_with fail
   go_meet
   exact⟨rfl,rfl⟩
  have f:¬(q:Int)<(s.size:Int):=by omega
  obtain rfl:y=false:=by
   rw[<-b];exact zGf λ⟨h,_⟩=>j h
  clear b;go_wp2_with fail
  go_meet
  exact⟨rfl,rfl⟩
 case rest=>
 obtain⟨rfl,rfl⟩:=hcut
 have Z:Hid (y=true->q<s.size/\s.toList.drop (q+1)=l.drop (n+1)/\q+1+m<=s.size/\eX false (s.toList.drop (q+1))=m):=zH λhb=>by
  rw[hb]at b;obtain⟨j,f⟩:=zJz b
  have o:l[n]? =some 46:=by
   rw[<-P.out,zHd,hq,<-f];have:=dV s q j;have A:(s.toList.drop q)[0]? =some s[q]:=by rw[this];rfl
   rwa [zHd,Nat.add_zero]at A
  have F:s.toList.drop (q+1)=l.drop (n+1):=by rw[<-P.out,List.drop_drop,show p+(n+1)=q+1 by omega]
  have u:eX false (s.toList.drop (q+1))=m:=by
   have A:=B.out;unfold vz at A
   rwa [zF3 o,<-F]at A
  have H:=ni false (s.toList.drop (q+1));rw[u,zHj,bW]at H;exact⟨j,F,by omega,u⟩
 have Gn:Hid (y=false->m=0):=zH λhb=>by
  rw[hb]at b;have f:=of_decide_eq_false b;rw[<-B.out];unfold vz;rw[zF2];intro e
  apply f
  rw[<-P.out,zHd,hq]at e;obtain⟨H,A⟩:=zFc.1 e;have j:q<s.size:=by rw[<-bW];exact H
  have N:=dV s q j;have o:(s.toList.drop q)[0]? =some s[q]:=by rw[N];rfl
  rw[zHd,Nat.add_zero,e]at o;injection o with o
  exact⟨j,o.symm⟩
 clear b;go_upto_if 36 with fail
 go_cut[8] (λv wx=>v=.int .i64 (m:Nat)/\w2=wx)
 case first=>
  cases y
  ·have o:=Gn.out rfl;subst o;go_wp2_with fail
   go_meet
   exact⟨rfl,rfl⟩
  obtain⟨j,_,_,u⟩:=Z.out rfl
  have HC:Hid (∀W:World,Calls prog 82 #[s,.int .i64 ((q:Int)+1),.bool false] W λe w'=>e=.returned (.int .i64 (m:Nat))/\w'=W):=zH λW=>by
   have h:=xy s (q+1) false W (by omega) hs;rw[u,show((q+1:Nat):Int)=(q:Int)+1 by omega]at h;exact h
  clear u j;go_wp2_with fail
  refine(HC.out _).mono ?_;rintro r b ⟨rfl,rfl⟩;go_wp2_with fail
  go_meet
  exact⟨rfl,rfl⟩
 case rest=>
 obtain⟨rfl,rfl⟩:=hcut
 have aw:m<=1048576:=by
  have H:=ni false (l.drop (n+1));have A:l.length<=s.size:=by rw[<-P.out,zHj,bW];omega
  rw[<-B.out];unfold vz
  split
  ·rw[zHj]at H;omega
  omega
 obtain⟨f,b⟩:=zN (decide ((1<n/\L=true)\/(m=0/\19<n)\/(0<m/\15<n+m)))
 go_upto_region 6 with fail
 go_cut[67] (λv wx=>v=.bool f/\w2=wx)
 case first=>
  clear Z Gn G J B P Y
  by_cases H:1<n
  ·have I:(1:Int)<(n:Int):=by omega
   cases L
   ·by_cases o:m=0
    ·subst o
     by_cases M:19<n
     ·have t:(19:Int)<(n:Int):=by omega
      obtain rfl:f=true:=by rw[<-b];simp;omega
      clear b;go_wp2_with fail
      go_meet
      exact⟨by first|rfl|exact zGv Value.bool (zGm (by omega))|exact zGv Value.bool (zGf (by omega)),rfl⟩
     have t:¬(19:Int)<(n:Int):=by omega
     obtain rfl:f=false:=by rw[<-b];simp;omega
     clear b;go_wp2_with fail
     go_meet
     exact⟨by first|rfl|exact zGv Value.bool (zGm (by omega))|exact zGv Value.bool (zGf (by omega)),rfl⟩
    have Xa:((m:Int)==0)=false:=zB (by omega)
    have C:(0:Int)<(m:Int):=by omega
    by_cases E:15<n+m
    ·have z:(15:Int)<(n:Int)+(m:Int):=by omega
     obtain rfl:f=true:=by rw[<-b];simp;omega
     clear b;go_wp2_with fail
     go_meet
     exact⟨by first|rfl|exact zGv Value.bool (zGm (by omega))|exact zGv Value.bool (zGf (by omega)),rfl⟩
    have z:¬(15:Int)<(n:Int)+(m:Int):=by omega
    obtain rfl:f=false:=by rw[<-b];simp;omega
    clear b;go_wp2_with fail
    go_meet
    exact⟨by first|rfl|exact zGv Value.bool (zGm (by omega))|exact zGv Value.bool (zGf (by omega)),rfl⟩
   obtain rfl:f=true:=by rw[<-b];simp;omega
   clear b;go_wp2_with fail
   go_meet
   exact⟨by first|rfl|exact zGv Value.bool (zGm (by omega))|exact zGv Value.bool (zGf (by omega)),rfl⟩
  have I:¬(1:Int)<(n:Int):=by omega
  have t:¬(19:Int)<(n:Int):=by omega
  by_cases o:m=0
  ·subst o;obtain rfl:f=false:=by rw[<-b];simp;omega
   clear b;go_wp2_with fail
   go_meet
   exact⟨by first|rfl|exact zGv Value.bool (zGm (by omega))|exact zGv Value.bool (zGf (by omega)),rfl⟩
  have Xa:((m:Int)==0)=false:=zB (by omega)
  have C:(0:Int)<(m:Int):=by omega
  by_cases E:15<n+m
  ·have z:(15:Int)<(n:Int)+(m:Int):=by omega
   obtain rfl:f=true:=by rw[<-b];simp;omega
   clear b;go_wp2_with fail
   go_meet
   exact⟨by first|rfl|exact zGv Value.bool (zGm (by omega))|exact zGv Value.bool (zGf (by omega)),rfl⟩
  have z:¬(15:Int)<(n:Int)+(m:Int):=by omega
  obtain rfl:f=false:=by rw[<-b];simp;omega
  clear b;go_wp2_with fail
  go_meet
  exact⟨by first|rfl|exact zGv Value.bool (zGm (by omega))|exact zGv Value.bool (zGf (by omega)),rfl⟩
 case rest=>
 obtain⟨rfl,rfl⟩:=hcut
 have HB:Hid (f=false->¬((1<n/\L=true)\/(m=0/\19<n)\/(0<m/\15<n+m))):=zH λhb=>by
  rw[hb]at b;exact of_decide_eq_false b
 have M:Hid (f=true->R=(qA,0)):=zH λhb=>by
  rw[hb]at b;rw[<-Y.out,zF3 (zJz b)]
 clear b;cases f
 case true=>
  as_aux_lemma=>
  have hR:=M.out rfl;subst hR;clear Z Gn G J B P Y HB M;go_upto_region 7 with fail
  go_wp2_with (first|(refine ae fB rfl _ _ rfl rfl [.int .i64 0,.string ⟨#[]⟩,.int .i64 0,.int .i64 0,.int .i64 0] rfl K rfl rfl rfl ?_;intro w9 I))
  obtain⟨u0,u1,u2,u3,u4⟩:=zc5 I.bk;have X:=I.below _ _ d zL;refine zFg (v:=.tuple #[.agg #[(),.string ⟨#[]⟩,(),(),()],.int .i64 (0)]) (by simp[results,results86,go_sem,u0,u1,u2,u3,u4]) rfl ?_;exact⟨rfl,X⟩
 case false=>
 have C:=HB.out rfl
 by_cases o:m=0
 ·as_aux_lemma=>
  subst o
  have ad:n<=19:=by
   rcases zHu 19 n with h|h
   ·exact absurd (.inr (.inl ⟨rfl,h⟩)) C
   exact h
  have b:1<n->L=false:=λh=>by
   cases L with
   |false=>rfl
   |true=>exact absurd (.inl ⟨h,rfl⟩) C
  have O:Hid (Calls prog 99 #[D] w2 (TI (wrap64 (iM 0 D.toList:Nat)) (decide (iM 0 D.toList<=9223372036854775807)) w2)):=zH (IK D w2 G.out (by omega) (by omega) (by
   by_cases H:1<n
   ·exact .inr (J.out (b H))
   exact .inl (by omega)))
  have t:Hid ((if iM 0 D.toList<=9223372036854775807 then(⟨3,[],iM 0 D.toList,0,0⟩,n)else(qA,0))=R):=zH (by rw[<-Y.out,zF2 C,zF3 rfl]);generalize iM 0 D.toList=V at O t;clear Y G J B P Z Gn HB M C b
  by_cases hV:V<=9223372036854775807
  ·as_aux_lemma=>
   have b:wrap64 (V:Int)=V:=by unfold wrap64;omega
   rw[zGm hV,b]at O;rw[zF3 hV]at t;clear b;go_wp2_with fail
   refine O.mono ?_;rintro r E ⟨rfl,b⟩;replace d:=d.trans (b.mono d.size);replace K:=K.old b;clear O b;go_upto_region 12 with fail
   go_wp2_with (first|(refine ae fB rfl _ _ rfl rfl [.int .i64 3,.string ⟨#[]⟩,.int .i64 V,.int .i64 0,.int .i64 0] rfl K rfl rfl rfl ?_;intro w9 I))
   obtain⟨u0,u1,u2,u3,u4⟩:=zc5 I.bk;have X:=I.below _ _ d zL;refine zFg (v:=.tuple #[.agg #[.int .i64 3,.string ⟨#[]⟩,V,(),()],.int .i64 ((n:Nat))]) (by simp[results,results86,go_sem,u0,u1,u2,u3,u4]) rfl ?_;exact⟨by rw[<-t.out];rfl,X⟩
  as_aux_lemma=>
  rw[zGf hV]at O;rw[zF2 hV]at t;generalize wrap64 (V:Int)=z at O;go_wp2_with fail
  refine O.mono ?_;rintro r E ⟨rfl,b⟩;replace d:=d.trans (b.mono d.size);replace K:=K.old b;clear O b;go_upto_region 11 with fail
  go_wp2_with (first|(refine ae fB rfl _ _ rfl rfl [.int .i64 0,.string ⟨#[]⟩,.int .i64 0,.int .i64 0,.int .i64 0] rfl K rfl rfl rfl ?_;intro w9 I))
  obtain⟨u0,u1,u2,u3,u4⟩:=zc5 I.bk;have X:=I.below _ _ d zL;refine zFg (v:=.tuple #[.agg #[(),.string ⟨#[]⟩,(),(),()],.int .i64 (0)]) (by simp[results,results86,go_sem,u0,u1,u2,u3,u4]) rfl ?_;exact⟨by rw[<-t.out];rfl,X⟩
 as_aux_lemma=>
 have Xa:((m:Int)==0)=false:=zB (by omega)
 have ab:n+m<=15:=by
  rcases zHu 15 (n+m)with h|h
  ·exact absurd (.inr (.inr ⟨by omega,h⟩)) C
  exact h
 obtain⟨j,F,ak,u⟩:=Z.out (by
  cases y with
  |true=>rfl
  |false=>exact absurd (Gn.out rfl) o)
 have E:=zH F
 have U:Hid (∀c∈(l.drop (n+1)).take m,sD c):=zH λc hc=>by
  rw[<-F,<-u]at hc;exact TM (BM false _ c hc)
 clear F u;have t:Hid ((⟨4,[],iM 0 (D.toList++(l.drop (n+1)).take m),m,0⟩,n+1+m)=R):=zH (by rw[<-Y.out,zF2 C,zF2 o]);obtain⟨e,he⟩:=zN (q+1+m)
 have ax:(q:Int)+1+(m:Int)=(e:Int):=by omega
 have af:(e:Int)<=(s.size:Int):=by omega
 have ag:(q:Int)+1<=(e:Int):=by omega
 obtain⟨S,hS⟩:=zN (D++s.extract (q+1) e)
 have b:S.toList=D.toList++(l.drop (n+1)).take m:=by
  rw[<-hS,nH,aI]
  congr 1
  rw[zFm,Lib.extract_eq,<-E.out,zFm,<-he,zKb]
 have aq:S.size=n+m:=by
  rw[<-bW,b,zFu,bW,a7,zG9,<-E.out,zHj,bW];omega
 have a0:Hid (∀k (h:k<S.size),sD S[k]):=zH λk h=>by
  have A:=dV S k h;have N:S[k]∈S.toList:=zJ2 (i:=k) (by rw[A];simp);rw[b]at N;rcases zFy.1 N with N|N
  ·exact G.out _ N
  exact U.out _ N
 rw[<-b]at t;have Qw:¬9223372036854775807<D.size+(e-(q+1)):=by omega
 go_upto_region 14 with fail
 clear Y G J B P E U b a2 a1 Z Gn HB M C;obtain⟨g,cc,W9,U,E,b⟩:=TN S w2;have HC:=zH b;replace d:=d.trans (E.mono d.size);replace K:=K.old E;clear b E;go_wp2
 clear U Qw hS
 go_loopw[11,98] (λx i wr=>∃(k a:Nat),k<=S.size/\x=.int .i64 a/\i=.int .i64 k/\wr=W9/\Hid (a<10^k)/\Hid (iM a (S.toList.drop k)=iM 0 S.toList)) (λ_ i _=>S.size-(intOf i).toNat)
 case atStart=>exact⟨0,0,zFj _,rfl,rfl,rfl,zH (by decide),zH (by rw[zFp])⟩
 case round=>
  obtain⟨k,a,hk,rfl,rfl,a3,ha,E⟩:=hrel;obtain rfl:wr=W9:=a3
  by_cases U:k<S.size
  ·as_aux_lemma=>
   have Qy:(k:Int)<(S.size:Int):=by omega
   have b:=E.out;rw[EI S a k U]at b;have a4:=a0.out k U;unfold sD at a4;have al:=HC.out k U;have a5:=zH b
   have a6:a<1000000000000000:=by
    have H:=zJr (n:=10) (by omega) (show k<=15 by omega);have A:=ha.out;have N:(10:Nat)^15=1000000000000000:=by decide
    omega
   have HP:Hid (10*a+(S[k].toNat - 48)<10^(k+1)):=zH (by
    have A:=ha.out
    rw[Nat.pow_succ];omega)
   generalize A:S[k].toNat=z at *;have a2:(48:Int)<=(z:Int):=by omega
   have am:(z:Int)<=57:=by omega
   have N:IntKind.u8.wrap ((z:Int)-48)=(z:Int)-48:=by
    have e:IntKind.u8.wrap ((z:Int)-48)=((z:Int)-48)%256:=rfl;rw[e];omega
   have ar:((z:Int)-48)%256=(z:Int)-48:=by omega
   have ao:IntKind.i64.wrap ((z:Int)-48)=(z:Int)-48:=zHk _ ⟨by omega,by omega⟩;have b0:IntKind.i64.wrap (10*(a:Int))=10*(a:Int):=zHk _ ⟨by omega,by omega⟩;have H:IntKind.i64.wrap (10*(a:Int)+((z:Int)-48))=10*(a:Int)+((z:Int)-48):=zHk _ ⟨by omega,by omega⟩;clear ha b E A;go_wp2
   go_roundw
   case rel=>exact⟨k+1,10*a+(z-48),by omega,by first|go_num|(congr 1;omega),by go_num,by first|rfl|trivial,HP,a5⟩
   case measure=>simp[intOf];omega
  as_aux_lemma=>
  obtain rfl:k=S.size:=by omega
  have b:=E.out;rw[zFq (by rw[bW];omega)]at b;have b:a=iM 0 S.toList:=b;have A:Hid ((⟨4,[],a,m,0⟩,n+1+m)=R):=zH (by rw[b];exact t.out);clear E b ha t HC a0;go_upto_region 19 with fail
  go_wp2_with (first|(refine ae fB rfl _ _ rfl rfl [.int .i64 4,.string ⟨#[]⟩,.int .i64 a,.int .i64 m,.int .i64 0] rfl K rfl rfl rfl ?_;intro w9 I))
  obtain⟨u0,u1,u2,u3,u4⟩:=zc5 I.bk;have X:=I.below _ _ d zL;refine zFg (v:=.tuple #[.agg #[.int .i64 4,.string ⟨#[]⟩,a,m,()],.int .i64 ((n:Nat)+1+(m:Nat))]) (by simp[results,results86,go_sem,u0,u1,u2,u3,u4]) rfl ?_;exact⟨by rw[<-A.out];rfl,X⟩
theorem IU {D:ByteArray} {l:Str} (h:D.toList=l):bytes l=D:=by
 rw[<-h,zFm];simp[bytes]
theorem BN (s:ByteArray) (p n:Nat):(s.extract p (p+n)).toList=(s.toList.drop p).take n:=by
 rw[zFm,Lib.extract_eq,zFm,zKb]
theorem TP {w:World} {g:Nat} (h:Bk w g 9 (jJ.map λx=>Value.string (bytes x)).toArray):Rd w w.heap.size (some ⟨g,0,none⟩) (jJ.map λx=>Value.string (bytes x)):=
 .inr ⟨g,0,rfl,h.lt,λj u a=>by rw[zFr,h.cell j];simpa using a⟩
theorem EL (l w:Str) (r:List Str):zI l (w::r)=if l.take w.length=w then some w else zI l r:=rfl
def Gp (o:Option Str):aC×Nat:=match o with|some w=>(⟨6,w,0,0,0⟩,w.length)|none=>(qA,0)
theorem one_any (s:ByteArray) (p:Nat) (w:World) (hp:p<s.size) (hs:s.size<=1048576):
  Calls prog 56 #[s,p] w (EK (su (s.toList.drop p)) w):=by
 obtain⟨R,g⟩:=zN (su (s.toList.drop p))
 obtain⟨l,e⟩:=zN (s.toList.drop p)
 have aa:l.length=s.size-p:=by rw[<-e,zHj,bW]
 have a:l=s[p]::s.toList.drop (p+1):=by rw[<-e];exact dV s p hp
 have C:Hid ((if jg s[p].toNat then ED l else if kM s[p].toNat then numberT l else if s[p]=39 then Qv l else Gp (zI l jJ))=R):=zH (by
  rw[<-g,e];unfold su;rw[a]
  rfl)
 have G:Hid (s.toList.drop p=l):=zH e;have O:Hid (s.toList.drop (p+1)=l.drop 1):=zH (by rw[a];rfl);have c:=lH (s[p].toNat:Int);have d:=ui (s[p].toNat:Int);obtain⟨b1,J⟩:=zN (jg s[p].toNat)
 obtain⟨b2,H⟩:=zN (kM s[p].toNat)
 obtain⟨b3,K⟩:=zN (s[p]==(39:UInt8))
 have Y:((s[p].toNat:Int)==39)=b3:=(xw s[p] 39 (by omega)).trans K;have z:Hid (b3=true<->s[p]=39):=zH (by rw[<-K];simp);have B:Hid (kM s[p].toNat=b2):=zH H;rw[J]at c;rw[H]at d;rw[J,H]at C;have f:=zH c;have I:=zH d;have af:(p:Int)<(s.size:Int):=by omega
 rw[g];clear g e J H K c d a
 go_enter func56,ntmps56
 have j:=Bk.new w 94 #[(),.string ⟨#[]⟩,(),(),()];have a:Below w w (w.alloc (.cells #[(),.string ⟨#[]⟩,(),(),()] 94)):=zR.alloc zL _;go_wp2_with fail
 generalize w.alloc (.cells #[(),.string ⟨#[]⟩,(),(),()] 94)=W at *;refine(f.out W).mono ?_;rintro r w2 ⟨rfl,rfl⟩;clear f;cases b1
 case true=>
  as_aux_lemma=>
  have g:Hid (ED l=R):=zH C.out;obtain⟨n,E⟩:=zN (eX true l)
  have a7:n<=l.length:=by rw[<-E];exact ni _ _
  obtain⟨q,N⟩:=zN (p+n)
  have a6:(p:Int)+(n:Int)=(q:Int):=by omega
  have Q:(q:Int)<=(s.size:Int):=by omega
  have P:(p:Int)<=(q:Int):=by omega
  obtain⟨D,hD⟩:=zN (s.extract p q)
  have t:D.toList=l.take n:=by rw[<-hD,<-N,BN,G.out]
  have A:=IU t
  have U:Hid (∀W:World,Calls prog 82 #[s,p,.bool true] W λe w'=>e=.returned (.int .i64 (n:Nat))/\w'=W):=zH λW=>by
   have h:=xy s p true W (by omega) hs;rw[G.out,E]at h;exact h
  have d:Hid (∀W:World,Calls prog 83 #[D] W λe w'=>e=.returned (.bool (vw (l.take n)))/\Below W.heap.size W w'):=zH λW=>by
   have h:=yI D W;rw[t]at h;exact h
  have M:Hid (∀W:World,Calls prog 84 #[D] W λe w'=>e=.returned (.bool (nameB (l.take n)))/\Below W.heap.size W w'):=zH λW=>by
   have h:=pM D W;rw[t]at h;exact h
  have f:Hid ((if vw (l.take n)then(⟨1,l.take n,0,0,0⟩,n)else if nameB (l.take n)then(⟨2,l.take n,0,0,0⟩,n)else(qA,0))=R):=zH (by
   rw[<-g.out];unfold ED;simp only[E])
  have Z:=zH A;clear C g B z I Y E t G O A;generalize vw (l.take n)=u at *;generalize nameB (l.take n)=nb at *;go_wp2_with fail
  refine(U.out _).mono ?_;rintro r w3 ⟨rfl,rfl⟩;go_wp2_with fail
  refine(d.out _).mono ?_;rintro r w4 ⟨rfl,c⟩;replace a:=a.trans (c.mono a.size);replace j:=j.old c;clear c d U;cases u
  case true=>
   as_aux_lemma=>
   go_upto_region 6 with fail
   go_wp2_with (first|(refine ae fB rfl _ _ rfl rfl [.int .i64 1,.string D,.int .i64 0,.int .i64 0,.int .i64 0] rfl j rfl rfl rfl ?_;intro F d))
   obtain⟨u0,u1,u2,u3,u4⟩:=zc5 d.bk;have m:=d.below _ _ a zL;refine zFg (v:=.tuple #[.agg #[.int .i64 1,D,(),(),()],.int .i64 ((n:Nat))]) (by simp[results,results56,go_sem,u0,u1,u2,u3,u4]) rfl ?_;exact⟨by rw[<-f.out];show _=Ending.returned (.tuple #[.agg #[.int .i64 1,.string (bytes (l.take n)),(),(),()],.int .i64 (n:Nat)]);rw[Z.out];try rfl,m⟩
  case false=>
   go_wp2_with fail
   refine(M.out _).mono ?_;rintro r w5 ⟨rfl,y⟩;replace a:=a.trans (y.mono a.size);replace j:=j.old y;clear y M;cases nb
   case true=>
    as_aux_lemma=>
    go_upto_region 8 with fail
    go_wp2_with (first|(refine ae fB rfl _ _ rfl rfl [.int .i64 2,.string D,.int .i64 0,.int .i64 0,.int .i64 0] rfl j rfl rfl rfl ?_;intro F d))
    obtain⟨u0,u1,u2,u3,u4⟩:=zc5 d.bk;have m:=d.below _ _ a zL;refine zFg (v:=.tuple #[.agg #[.int .i64 2,D,(),(),()],.int .i64 ((n:Nat))]) (by simp[results,results56,go_sem,u0,u1,u2,u3,u4]) rfl ?_;exact⟨by rw[<-f.out];show _=Ending.returned (.tuple #[.agg #[.int .i64 2,.string (bytes (l.take n)),(),(),()],.int .i64 (n:Nat)]);rw[Z.out];try rfl,m⟩
   case false=>
    as_aux_lemma=>
    go_upto_region 9 with fail
    go_wp2_with (first|(refine ae fB rfl _ _ rfl rfl [.int .i64 0,.string ⟨#[]⟩,.int .i64 0,.int .i64 0,.int .i64 0] rfl j rfl rfl rfl ?_;intro F d))
    obtain⟨u0,u1,u2,u3,u4⟩:=zc5 d.bk;have m:=d.below _ _ a zL;refine zFg (v:=.tuple #[.agg #[(),.string ⟨#[]⟩,(),(),()],.int .i64 (0)]) (by simp[results,results56,go_sem,u0,u1,u2,u3,u4]) rfl ?_;exact⟨by rw[<-f.out];rfl,m⟩
 case false=>
 go_wp2_with fail
 refine(I.out _).mono ?_;rintro r w3 ⟨rfl,u⟩;subst u;clear I;cases b2
 case true=>
  as_aux_lemma=>
  have u:Hid (∀W:World,Calls prog 86 #[s,p] W (EK (numberT l) W)):=zH λW=>by
   have h:=Me s p W hp hs B.out;rw[G.out]at h;exact h
  have g:Hid (numberT l=R):=zH C.out;rw[g.out]at u;obtain⟨⟨I,X,L,S,a4⟩,a5⟩:=R;unfold EK at u;clear C g B z Y G O;go_wp2_with fail
  refine(u.out _).mono ?_;rintro r w4 ⟨rfl,c⟩;replace a:=a.trans (c.mono a.size);replace j:=j.old c;unfold aC.val;clear c u;go_wp2_with (first|(refine ae fB rfl _ _ rfl rfl [.int .i64 I,.string (bytes X),.int .i64 L,.int .i64 S,.int .i64 a4] rfl j rfl rfl rfl ?_;intro F d))
  obtain⟨u0,u1,u2,u3,u4⟩:=zc5 d.bk;have m:=d.below _ _ a zL;refine zFg (v:=.tuple #[.agg #[I,.string (bytes X),L,S,a4],.int .i64 ((a5:Nat))]) (by simp[results,results56,go_sem,u0,u1,u2,u3,u4]) rfl ?_;exact⟨rfl,m⟩
 case false=>
 cases b3
 case true=>
  as_aux_lemma=>
  have g:Hid (Qv l=R):=zH (by rw[<-C.out];simp only[zHy,zKk];rw[zF3 (z.1 rfl)]);obtain⟨n,E⟩:=zN (eX true (l.drop 1))
  have a7:n<=l.length-1:=by rw[<-E];have:=ni true (l.drop 1);rwa [zHj]at this
  obtain⟨q,N⟩:=zN (p+1+n)
  have a6:(p:Int)+1+(n:Int)=(q:Int):=by omega
  have Q:(q:Int)<=(s.size:Int):=by omega
  have P:(p:Int)+1<=(q:Int):=by omega
  obtain⟨D,hD⟩:=zN (s.extract (p+1) q)
  have t:D.toList=(l.drop 1).take n:=by rw[<-hD,<-N,BN,O.out]
  have A:=IU t
  have U:Hid (∀W:World,Calls prog 82 #[s,.int .i64 ((p:Int)+1),.bool true] W λe w'=>e=.returned (.int .i64 (n:Nat))/\w'=W):=zH λW=>by
   have h:=xy s (p+1) true W (by omega) hs;rw[O.out,E,show((p+1:Nat):Int)=(p:Int)+1 by omega]at h;exact h
  have M:Hid (∀W:World,Calls prog 84 #[D] W λe w'=>e=.returned (.bool (nameB ((l.drop 1).take n)))/\Below W.heap.size W w'):=zH λW=>by
   have h:=pM D W;rw[t]at h;exact h
  obtain⟨L,c⟩:=zN (decide (∃h:q<s.size,s[q]=39))
  have S:(l[1+n]? =some 39)<->L=true:=by
   rw[<-c,zKc,<-G.out,zHd,show p+(1+n)=q by omega]
   constructor
   ·intro e;obtain⟨J,H⟩:=zFc.1 e;have u:q<s.size:=by rw[<-bW];exact J
    have K:=dV s q u;have I:(s.toList.drop q)[0]? =some s[q]:=by rw[K];rfl
    rw[zHd,Nat.add_zero,e]at I;injection I with I
    exact⟨u,I.symm⟩
   rintro⟨u,e⟩;have K:=dV s q u;have I:(s.toList.drop q)[0]? =some s[q]:=by rw[K];rfl
   rw[zHd,Nat.add_zero]at I;rw[I,e]
  obtain⟨nb,I⟩:=zN (nameB ((l.drop 1).take n))
  have f:Hid ((if nb=true/\L=true then(⟨5,(l.drop 1).take n,0,0,0⟩,n+2)else(qA,0))=R):=zH (by
   rw[<-g.out];unfold Qv;simp only[E,I,S])
  rw[I]at M;have Z:=zH A;have X:=zH c;clear C g B z E t G O A S c I;go_wp2_with fail
  refine(U.out _).mono ?_;rintro r w4 ⟨rfl,rfl⟩;go_wp2_with fail
  refine(M.out _).mono ?_;rintro r w5 ⟨rfl,y⟩;replace a:=a.trans (y.mono a.size);replace j:=j.old y;clear y M U;cases nb
  case false=>
   as_aux_lemma=>
   go_upto_region 16 with fail
   go_wp2_with (first|(refine ae fB rfl _ _ rfl rfl [.int .i64 0,.string ⟨#[]⟩,.int .i64 0,.int .i64 0,.int .i64 0] rfl j rfl rfl rfl ?_;intro F d))
   obtain⟨u0,u1,u2,u3,u4⟩:=zc5 d.bk;have m:=d.below _ _ a zL;refine zFg (v:=.tuple #[.agg #[(),.string ⟨#[]⟩,(),(),()],.int .i64 (0)]) (by simp[results,results56,go_sem,u0,u1,u2,u3,u4]) rfl ?_;exact⟨by rw[<-f.out];rfl,m⟩
  case true=>
   by_cases u:q<s.size
   ·have S:¬(s.size:Int)<=(q:Int):=by omega
    have a8:(q:Int)<(s.size:Int):=by omega
    have I:((s[q].toNat:Int)==39)=L:=by
     refine(xw s[q] 39 (by omega)).trans ?_;rw[<-X.out,zHe,zFt,zKc];exact⟨λe=>⟨u,e⟩,λ⟨_,e⟩=>e⟩
    have a9:((s[q].toNat:Int) !=39)= !L:=by rw[<-I];rfl
    cases L
    ·as_aux_lemma=>
     go_upto_region 16 with fail
     go_wp2_with (first|(refine ae fB rfl _ _ rfl rfl [.int .i64 0,.string ⟨#[]⟩,.int .i64 0,.int .i64 0,.int .i64 0] rfl j rfl rfl rfl ?_;intro F d))
     obtain⟨u0,u1,u2,u3,u4⟩:=zc5 d.bk;have m:=d.below _ _ a zL;refine zFg (v:=.tuple #[.agg #[(),.string ⟨#[]⟩,(),(),()],.int .i64 (0)]) (by simp[results,results56,go_sem,u0,u1,u2,u3,u4]) rfl ?_;exact⟨by rw[<-f.out];rfl,m⟩
    as_aux_lemma=>
    go_upto_region 17 with fail
    go_wp2_with (first|(refine ae fB rfl _ _ rfl rfl [.int .i64 5,.string D,.int .i64 0,.int .i64 0,.int .i64 0] rfl j rfl rfl rfl ?_;intro F d))
    obtain⟨u0,u1,u2,u3,u4⟩:=zc5 d.bk;have m:=d.below _ _ a zL;refine zFg (v:=.tuple #[.agg #[.int .i64 5,D,(),(),()],.int .i64 ((n:Nat)+2)]) (by simp[results,results56,go_sem,u0,u1,u2,u3,u4]) rfl ?_;exact⟨by rw[<-f.out];show _=Ending.returned (.tuple #[.agg #[.int .i64 5,.string (bytes ((l.drop 1).take n)),(),(),()],.int .i64 (n+2:Nat)]);rw[Z.out];try rfl,m⟩
   have S:(s.size:Int)<=(q:Int):=by omega
   obtain rfl:L=false:=by
    rw[<-X.out];exact zGf λ⟨h,_⟩=>u h
   as_aux_lemma=>
   go_upto_region 16 with fail
   go_wp2_with (first|(refine ae fB rfl _ _ rfl rfl [.int .i64 0,.string ⟨#[]⟩,.int .i64 0,.int .i64 0,.int .i64 0] rfl j rfl rfl rfl ?_;intro F d))
   obtain⟨u0,u1,u2,u3,u4⟩:=zc5 d.bk;have m:=d.below _ _ a zL;refine zFg (v:=.tuple #[.agg #[(),.string ⟨#[]⟩,(),(),()],.int .i64 (0)]) (by simp[results,results56,go_sem,u0,u1,u2,u3,u4]) rfl ?_;exact⟨by rw[<-f.out];rfl,m⟩
 case false=>
 have g:Hid (Gp (zI l (jJ.drop 0))=R):=zH (by
  rw[zFp,<-C.out];simp only[zHy,zKk]
  rw[zF2 λe=>by have:=z.2 e;cases this])
 clear C B z O;go_wp2
 have t:=Bk.new W 9 (jJ.map λx=>Value.string (bytes x)).toArray;have c:Below W.heap.size W (W.alloc (.cells (jJ.map λx=>Value.string (bytes x)).toArray 9)):=zR.alloc zL _;have u:=TP t;replace a:=a.trans (c.mono a.size);replace j:=j.old c;clear t;rw[show(#[Value.string ⟨#[33,61]⟩,Value.string ⟨#[60,61]⟩,Value.string ⟨#[62,61]⟩,Value.string ⟨#[40]⟩,Value.string ⟨#[41]⟩,Value.string ⟨#[44]⟩,Value.string ⟨#[46]⟩,Value.string ⟨#[43]⟩,Value.string ⟨#[45]⟩,Value.string ⟨#[42]⟩,Value.string ⟨#[47]⟩,Value.string ⟨#[37]⟩,Value.string ⟨#[61]⟩,Value.string ⟨#[60]⟩,Value.string ⟨#[62]⟩,Value.string ⟨#[33]⟩,Value.string ⟨#[124]⟩]:Array Value)=(jJ.map λx=>Value.string (bytes x)).toArray from rfl];clear c
 have HY:Hid (∀k (h:k<jJ.length),∃b o,some (⟨W.heap.size,0,none⟩:Addr)=some ⟨b,o,none⟩/\(W.alloc (.cells (jJ.map λx=>Value.string (bytes x)).toArray 9)).cell? ⟨b,o+k,none⟩=some (.string (bytes jJ[k]))):=zH λk h=>by
  obtain⟨b,o,J,_,H⟩:=u.OL h;exact⟨b,o,J,H⟩
 have A:Hid (∀x∈jJ,x.length<=2):=zH (by decide);have a8:jJ.length=17:=rfl;clear u;generalize W.alloc (.cells (jJ.map λx=>Value.string (bytes x)).toArray 9)=S at *;generalize a6:W.heap.size=gY at *;generalize jJ=I at *
 go_loopw[87] (λi wr=>∃k:Nat,k<=17/\i=.int .i64 k/\wr=S/\Hid (Gp (zI l (I.drop k))=R)) (λi _=>17-(intOf i).toNat)
 case atStart=>exact⟨0,zFj _,rfl,rfl,g⟩
 case round=>
  clear g;obtain⟨k,hk,rfl,L,t⟩:=hrel;obtain rfl:wr=S:=L
  by_cases a7:k<17
  ·have u:k<I.length:=by omega
   obtain⟨b,o,z,M⟩:=HY.out k u;have c:=t.out;rw[zFk u,EL]at c;have C:=A.out I[k] (zFe _);generalize I[k]=x at *;obtain⟨X,y⟩:=zN (bytes x)
   have B:X.size=x.length:=by rw[<-y,bZ]
   have D:X.toList=x:=by rw[<-y,aI]
   have O:(X.size:Int)=(x.length:Int):=by omega
   have HX:=zH y;rw[z];rw[y]at M;clear t z y;obtain⟨e,Z⟩:=zN (p+x.length)
   have ad:(p:Int)+(x.length:Int)=(e:Int):=by omega
   have U:(p:Int)+(X.size:Int)=(e:Int):=by omega
   by_cases Q:e<=s.size
   ·have P:(e:Int)<=(s.size:Int):=by omega
    have a9:(p:Int)<=(e:Int):=by omega
    obtain⟨E,hE⟩:=zN (s.extract p e)
    have z:E.toList=l.take x.length:=by rw[<-hE,<-Z,BN,G.out]
    have N:(E.toList==X.toList)=decide (l.take x.length=x):=by
     rw[z,D,zHe,zFt,zKc]
    by_cases hb:l.take x.length=x
    ·as_aux_lemma=>
     rw[zGm hb]at N;rw[zF3 hb]at c;have f:=zH c;have ab:=zH B;clear c hb z D C B;go_upto_region 22 with fail
     go_wp2_with (first|(refine ae fB rfl _ _ rfl rfl [.int .i64 6,.string X,.int .i64 0,.int .i64 0,.int .i64 0] rfl j rfl rfl rfl ?_;intro F d))
     obtain⟨u0,u1,u2,u3,u4⟩:=zc5 d.bk;have m:=d.below _ _ a zL
     try simp only[O]
     refine zFg (v:=.tuple #[.agg #[.int .i64 6,X,(),(),()],.int .i64 ((x.length:Nat))]) (by simp[results,results56,go_sem,u0,u1,u2,u3,u4]) rfl ?_;exact⟨by rw[<-f.out,<-HX.out];rfl,m⟩
    as_aux_lemma=>
    rw[zGf hb]at N;rw[zF2 hb]at c;have y:=zH c;clear c hb z D C;go_wp2
    go_roundw
    case rel=>exact⟨k+1,by omega,by go_num,by first|rfl|trivial,y⟩
    case measure=>simp[intOf];omega
   as_aux_lemma=>
   have P:¬(e:Int)<=(s.size:Int):=by omega
   have hb:¬l.take x.length=x:=λh=>by
    have:=zGv List.length h;rw[zG9]at this;omega
   rw[zF2 hb]at c;have y:=zH c;clear c hb D;go_wp2
   go_roundw
   case rel=>exact⟨k+1,by omega,by go_num,by first|rfl|trivial,y⟩
   case measure=>simp[intOf];omega
  as_aux_lemma=>
  obtain rfl:k=17:=by omega
  have c:=t.out;rw[zFq (by omega)]at c;have f:Hid ((qA,0)=R):=zH c;clear t c;go_upto_region 24 with fail
  go_wp2_with (first|(refine ae fB rfl _ _ rfl rfl [.int .i64 0,.string ⟨#[]⟩,.int .i64 0,.int .i64 0,.int .i64 0] rfl j rfl rfl rfl ?_;intro F d))
  obtain⟨u0,u1,u2,u3,u4⟩:=zc5 d.bk;have m:=d.below _ _ a zL;refine zFg (v:=.tuple #[.agg #[(),.string ⟨#[]⟩,(),(),()],.int .i64 (0)]) (by simp[results,results56,go_sem,u0,u1,u2,u3,u4]) rfl ?_;exact⟨by rw[<-f.out];rfl,m⟩
theorem xA (t:aC):t.cells.length=5:=rfl
theorem MB (s:ByteArray) (p:Nat) (h:p<s.size):fU (s.toList.drop p)=if yJ s[p]then fU (s.toList.drop (p+1))+1 else 0:=by
 rw[dV s p h];rfl
theorem Qz (s:ByteArray) (p:Nat) (h:s.size<=p):fU (s.toList.drop p)=0:=by
 rw[zFq (by rw[bW];exact h)];rfl
theorem yM:∀l:Str,fU l<=l.length
 |[]=>zFv _
 |c::l=>by
  have:=yM l;unfold fU
  split
  ·simp;omega
  simp
theorem vU (s:Str) (f p q:Nat) (a:List aC) (b:p+fU (s.drop p)=q):pO s (f+1) p a=if q=s.length then(a++[setPos qA q],0,0)else if(su (s.drop q)).2=0 then([],q,12)else pO s f (q+(su (s.drop q)).2) (a++[setPos (su (s.drop q)).1 q]):=by
 subst b;rfl
theorem OT (l:Str):∀(r:List Str) (w:Str),zI l r=some w->w.length<=l.length
 |x::r,w,h=>by
  rw[EL]at h
  split at h
  ·rename_i a
   injection h with h
   subst h;have:=zGv List.length a;rw[zG9]at this;omega
  exact OT l r w h
theorem one_le (l:Str):(su l).2<=l.length:=by
 unfold su
 split
 ·simp
 rename_i c r
 split
 ·unfold ED;have:=ni true (c::r);simp only[]
  split
  ·exact this
  split
  ·exact this
  exact zFj _
 split
 ·unfold numberT;have d:=ni false (c::r);simp only[]
  split
  ·exact zFj _
  split
  ·split
   ·exact d
   exact zFj _
  rename_i a
  show eX false (c::r)+1+vz (c::r) (eX false (c::r))<=_
  unfold vz at a⊢
  split at a
  ·rename_i b
   rw[zF3 b];obtain⟨e,_⟩:=zFc.1 b;have:=ni false ((c::r).drop (eX false (c::r)+1));rw[zHj]at this;omega
  exact absurd rfl a
 split
 ·unfold Qv;simp only[]
  split
  ·rename_i h
   obtain⟨e,_⟩:=zFc.1 h.2
   show eX true ((c::r).drop 1)+2<=_
   omega
  exact zFj _
 split
 ·rename_i w a
  exact OT _ _ _ a
 exact zFj _
theorem MC (b e a c d:Value) (w:World):(Instr.buildSlice 83 1 #[(0,.agg #[b,e,a,c,d])]).run prog w=.ok (.slice (some ⟨w.heap.size,0,none⟩) 1 1) (w.alloc (.cells #[b,e,a,c,d] 94)):=by kernel_rfl
theorem vF {w:World} {ops:Array Oper} {b:List Oper} {o:Oper} {a:Act} {Q:Exit->Act->World->Prop} {e i d f g:Value} (c:o.guard=none) (x:Operand) (j:o.op=.buildSlice 83 1 #[(0,x)]) (k:a.eval x=.agg #[e,i,d,f,g])
  (h:wpList prog ops Q b (a.put o.dst (.slice (some ⟨w.heap.size,0,none⟩) 1 1)) (w.alloc (.cells #[e,i,d,f,g] 94))):wpList prog ops Q (o::b) a w:=
 zH8 c λ_ l=>by
  unfold Oper.wp execOp;simp only[j,zHp,zGq,zHc,k,zH5,MC,Result.andThen_ok,Sem.run_pure];exact l _ _ h
theorem tokE (p:Nat):[(⟨0,[],0,0,p⟩:aC)].flatMap aC.cells=[.int .i64 0,.string ⟨#[]⟩,.int .i64 0,.int .i64 0,.int .i64 (p:Nat)]:=rfl
theorem tokN (a:Nat) (b:Str) (c d e:Nat):[(⟨a,b,c,d,e⟩:aC)].flatMap aC.cells=[.int .i64 a,.string (bytes b),.int .i64 c,.int .i64 d,.int .i64 (e:Nat)]:=rfl
def MG (r:List aC×Nat×Nat) (w:World) (e:Ending) (w':World):Prop:=
 ∃(A:Option Addr) (c:Nat),e=.returned (.tuple #[.slice A r.1.length c,.int .i64 (r.2.1:Nat),.int .i64 (r.2.2:Nat)])/\Rd w' w'.heap.size A (r.1.flatMap aC.cells)/\Below w w w'
theorem TQ (s:ByteArray) (w:World):Calls prog 34 #[s] w (MG (jW s.toList) w):=by
 obtain⟨iT,hT,Y,P,Q⟩:=zG4 TL
 by_cases a:4000<s.size
 ·have Zk:(4000:Int)<(s.size:Int):=by omega
  have b:jW s.toList=([],0,2):=by unfold jW;rw[bW,zF3 a]
  rw[b];clear b a
  go_enter func34,ntmps34
  go_wp2
  refine zFg (v:=.tuple #["",(),.int .i64 2]) (by simp[results,results34,go_sem]) rfl ?_;exact⟨none,0,rfl,Rd.nil,zGp _ _⟩
 have Zk:¬(4000:Int)<(s.size:Int):=by omega
 obtain⟨B,b⟩:=zN (jW s.toList)
 have HR:Hid (∃f,s.size+1<=0+f/\pO s.toList f 0 []=B):=zH ⟨s.size+1,by omega,by rw[<-b];unfold jW;rw[bW,zF2 a]⟩;rw[b];clear b;have ag:s.size<=4000:=by omega
 clear a
 go_enter func34,ntmps34
 go_wp2
 clear Zk
 go_loopw[5,6] (λl i wr=>∃(p:Nat) (A:Option Addr) (c:Nat) (a:List aC),p<=s.size/\a.length<=p/\l=.slice A a.length c/\i=.int .i64 p/\Below w w wr/\wr.ownsRow w.heap.size 94 5 (.slice A a.length c) a.length (a.flatMap aC.cells)/\Hid (∃f,s.size+1<=p+f/\pO s.toList f p a=B)) (λ_ i _=>s.size-(intOf i).toNat)
 case atStart=>exact⟨0,none,0,[],zFj _,zFv _,rfl,rfl,zGp _ _,zGs _ _ _ _,HR⟩
 case round=>
  clear HR;obtain⟨p,A,c,a,hp,a9,rfl,rfl,g,m,b⟩:=hrel;obtain⟨wo,rfl⟩:∃wo:World,wo=wr:=⟨_,rfl⟩
  obtain⟨q,k⟩:=zN (p+fU (s.toList.drop p))
  have ak:q<=s.size:=by
   have:=yM (s.toList.drop p);rw[zHj,bW]at this;omega
  have ad:p<=q:=by omega
  have d:∃f,s.size+1<=p+1+f/\(if q=s.size then(a++[setPos qA q],0,0)else if(su (s.toList.drop q)).2=0 then([],q,12)else pO s.toList f (q+(su (s.toList.drop q)).2) (a++[setPos (su (s.toList.drop q)).1 q]))=B:=by
   obtain⟨f,hf,e⟩:=b.out;obtain⟨h,rfl⟩:∃h,f=h+1:=⟨f-1,by omega⟩
   rw[vU s.toList h p q a k,bW]at e;exact⟨h,by omega,e⟩
  have G:=zH d;have HQ:=zH k;clear b d
  have nz:Hid (fU (s.toList.drop q)=0):=zH (by
   have b:∀l:Str,fU (l.drop (fU l))=0:=by
    intro l
    induction l with
    |nil=>rfl
    |cons x l r=>
     by_cases h:yJ x=true
     ·have e:fU (x::l)=fU l+1:=zF3 h;rw[e,zF1];exact r
     have e:fU (x::l)=0:=zF2 h;rw[e,zFp];exact e
   have h:=b (s.toList.drop p);rw[List.drop_drop]at h
   rwa [k]at h)
  clear k;go_wp2
  go_loopw[6] (λi wr=>∃j:Nat,p<=j/\j<=s.size/\i=.int .i64 j/\wr=wo/\Hid (j+fU (s.toList.drop j)=q)) (λi _=>s.size-(intOf i).toNat)
  case atStart=>exact⟨p,zFv _,hp,rfl,rfl,HQ⟩
  case round=>
   clear HQ;obtain⟨j,Zl,hj,rfl,a5,C⟩:=hrel;obtain rfl:wr=wo:=a5
   by_cases O:j<s.size
   ·have Qy:(j:Int)<(s.size:Int):=by omega
    have F:=Qx s[j];have k:=C.out;rw[MB s j O]at k
    by_cases hb:yJ s[j]=true
    ·as_aux_lemma=>
     rw[zF3 hb]at k
     have H:Hid (∀W:World,Calls prog 55 #[.int .u8 (s[j].toNat:Int)] W λe w'=>e=.returned (.bool true)/\w'=W):=zH λW=>by
      have h:=F W;rw[hb]at h;exact h
     have a6:Hid (j+1+fU (s.toList.drop (j+1))=q):=zH (by omega);clear F k hb C;go_wp2_with fail
     refine(H.out _).mono ?_;rintro r w2 ⟨rfl,K⟩;obtain rfl:w2=wr:=K;go_wp2
     go_roundw
     case rel=>exact⟨j+1,by omega,by omega,by go_num,by first|rfl|trivial,a6⟩
     case measure=>simp[intOf];omega
    have b:j=q:=by rw[zF2 hb]at k;omega
    subst b
    have H:Hid (∀W:World,Calls prog 55 #[.int .u8 (s[j].toNat:Int)] W λe w'=>e=.returned (.bool false)/\w'=W):=zH λW=>by
     have h:=F W;rw[zH6.2 hb]at h;exact h
    obtain⟨f,hf,d⟩:=G.out;rw[zF2 (by omega)]at d;have I:=one_le (s.toList.drop j);rw[zHj,bW]at I;have E:Hid (∀W:World,Calls prog 56 #[s,j] W (EK (su (s.toList.drop j)) W)):=zH λW=>one_any s j W O (by omega)
    obtain⟨⟨⟨e,z,t,y,a4⟩,n⟩,b⟩:∃o,su (s.toList.drop j)=o:=⟨_,rfl⟩
    rw[b]at d E I;unfold EK aC.val at E;have XM:=zH d;have af:¬(j:Int)=(s.size:Int):=by omega
    have aa:((j:Int)==(s.size:Int))=false:=zB (by omega)
    clear F k hb C b G d nz;go_wp2_with fail
    refine(H.out _).mono ?_;rintro r w2 ⟨rfl,K⟩;obtain rfl:w2=wr:=K;clear H;go_wp2_with fail
    refine(E.out _).mono ?_;rintro r w3 ⟨rfl,b⟩;have D:=aT m b;have R:=g.trans (b.mono g.size);clear m b g E
    by_cases U:n=0
    ·as_aux_lemma=>
     subst U;have E:Hid (([],j,12)=B):=zH XM.out;clear XM;have S:=R.alloc R.size (.cells #[e,.string (bytes z),t,y,a4] 94);go_wp2
     refine zFg (v:=.tuple #["",.int .i64 (j:Nat),.int .i64 12]) (by simp[results,results34,go_sem]) rfl ?_;exact⟨none,0,by rw[<-E.out];rfl,by rw[<-E.out];exact Rd.nil,S⟩
    as_aux_lemma=>
    have ab:((n:Int)==0)=false:=zB (by omega)
    have J:=R.size
    have EF:Hid (∃f,s.size+1<=(j+n)+f/\pO s.toList f (j+n) (a++[⟨e,z,t,y,j⟩])=B):=zH (by
     have h:=XM.out;rw[zF2 U]at h
     exact⟨f,by omega,h⟩)
    clear XM;have b:=Bk.new w3 94 #[e,.string (bytes z),t,y,a4];have L:=b.cell 4;have h:=b.frozen 4;go_upto_region 13 with fail
    clear L h b;have q1:=Bk.new w3 94 #[e,.string (bytes z),t,y,.int .i64 (j:Nat)];have jL:Below w w (w3.alloc (.cells #[e,.string (bytes z),t,y,.int .i64 (j:Nat)] 94)):=R.alloc J _;have dZ:=aT D (zR.alloc zL (.cells #[e,.string (bytes z),t,y,.int .i64 (j:Nat)] 94));obtain⟨v0,v1,v2,v3,v4⟩:=zc5 q1;clear D R;generalize w3.alloc (.cells #[e,.string (bytes z),t,y,.int .i64 (j:Nat)] 94)=W5 at *;have a7:=jL.size;have h:w.heap.size<=(W5.alloc (.cells #[e,.string (bytes z),t,y,.int .i64 (j:Nat)] 94)).heap.size:=by simp;omega
    go_wp2_with (first|(refine vF rfl _ rfl rfl ?_)|at_builtin;(refine aU (by rfl) _ _ 83 (by rfl) w.heap.size 94 iT _ 5 48 underlying83 hT Y P Q rfl (by decide) (.slice A a.length c) a.length _ (by rfl) (dZ.alloc _) (W5.heap.size+1) (some ⟨W5.heap.size,0,none⟩) 1 1 [.int .i64 e,.string (bytes z),.int .i64 t,.int .i64 y,.int .i64 (j:Nat)] (by rfl) (Rd.lit rfl _ _) (by rfl) ?c2 ?c3 ?c4 h ?_))
    case c2=>intro u Z;simp at Z;rcases Z with rfl|rfl|rfl|rfl|rfl<;>rfl
    case c3=>unfold maxLen;omega
    case c4=>omega
    intro M N L b X _;have rU:Below w w L:=eU (jL.alloc a7 _) (dZ.alloc _) zL X h;have Ec:(a++[(⟨e,z,t,y,j⟩:aC)]).length=a.length+1:=by simp
    have a8:L.ownsRow w.heap.size 94 5 (.slice M (a++[(⟨e,z,t,y,j⟩:aC)]).length N) (a++[(⟨e,z,t,y,j⟩:aC)]).length ((a++[(⟨e,z,t,y,j⟩:aC)]).flatMap aC.cells):=by
     rw[Ec,zGz,tokN];exact b
    clear b X dZ jL h v0 v1 v2 v3 v4 q1;go_wp2
    go_roundw
    case rel=>exact⟨j+n,M,N,a++[(⟨e,z,t,y,j⟩:aC)],by omega,by omega,by first|(rw[Ec];done)|(rw[Ec];trivial),by go_num,rU,a8,EF⟩
    case measure=>simp[intOf];omega
   as_aux_lemma=>
   obtain rfl:j=s.size:=by omega
   have k:=C.out;rw[Qz s s.size zL]at k;obtain rfl:q=s.size:=by omega
   obtain⟨f,hf,d⟩:=G.out;rw[zF3 rfl]at d;have E:Hid ((a++[(⟨0,[],0,0,s.size⟩:aC)],0,0)=B):=zH d;clear C k d G nz;have J:=g.size;have h:w.heap.size<=(wr.alloc (.cells #[(),.string ⟨#[]⟩,(),(),.int .i64 (s.size:Nat)] 94)).heap.size:=by simp;omega
   go_wp2_with (first|(refine vF rfl _ rfl rfl ?_)|at_builtin;refine aU (by rfl) _ _ 83 (by rfl) w.heap.size 94 iT _ 5 48 underlying83 hT Y P Q rfl (by decide) (.slice A a.length c) a.length _ (by rfl) (m.alloc _) (wr.heap.size+1) (some ⟨wr.heap.size,0,none⟩) 1 1 [.int .i64 0,.string ⟨#[]⟩,.int .i64 0,.int .i64 0,.int .i64 (s.size:Nat)] (by rfl) (Rd.lit rfl _ _) (by rfl) ?c2 ?c3 ?c4 h ?_)
   case c2=>intro u Z;simp at Z;rcases Z with rfl|rfl|rfl|rfl|rfl<;>rfl
   case c3=>unfold maxLen;omega
   case c4=>omega
   intro M N L b X _;have rU:Below w w L:=eU (g.alloc J _) (m.alloc _) zL X h
   have e:Rd L L.heap.size M ((a++[(⟨0,[],0,0,s.size⟩:aC)]).flatMap aC.cells):=by
    rw[zGz,tokE];exact fM b
   clear b X m h g;go_wp2
   refine zFg (v:=.tuple #[.slice M (a.length+1) N,(),()]) (by simp[results,results34,go_sem]) rfl ?_;exact⟨M,N,by rw[<-E.out];simp,by rw[<-E.out];exact e,rU⟩
end Go.Proofs.YtbjnhllkdilpfaaGreat
