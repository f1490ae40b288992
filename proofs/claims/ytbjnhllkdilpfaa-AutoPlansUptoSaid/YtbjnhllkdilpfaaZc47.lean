/- Part 47 of the proof. No conditions. -/
import Derived.Test.YtbjnhllkdilpfaaZc45
namespace Go.Proofs.Ytbjnhllkdilpfaa
open Go.RowKit
set_option maxRecDepth 100000
set_option maxHeartbeats 16000000
set_option linter.unusedVariables false
set_option linter.unusedSimpArgs false
theorem zBi {l l':List (Nat×bQ)} {a s m e b mid:Nat} (hmid:mid=s+(e-m)) (h1:a<=s) (h2:s<=m) (h3:m<=e) (h4:e<=b) (h:Split Ec l a m b) (hr:fH l l' s m e):Split Ec l' a s mid/\Split Ec l' mid e b:=by
 subst hmid;have o1:∀i,i<s->l'[i]? =l[i]? :=fun i hi=>hr.moved.out i (by omega)
 have o2:∀i,e<=i->l'[i]? =l[i]? :=fun i hi=>hr.moved.out i (by omega)
 refine⟨fun i j x y q1 q2 q3 q4 hx hy=>?_,fun i j x y q1 q2 q3 q4 hx hy=>?_⟩
 ·rw[o1 i q2]at hx;have f:=hr.fst (j-s) (by omega);rw[show s+(j-s)=j by omega,hy]at f;exact h i (m+(j-s)) x y q1 (by omega) (by omega) (by omega) hx f.symm
 ·rw[o2 j q3]at hy;have f:=hr.snd (i-(s+(e-m))) (by omega);rw[show s+(e-m)+(i-(s+(e-m)))=i by omega,hx]at f;exact h (s+(i-(s+(e-m)))) j x y (by omega) (by omega) (by omega) q4 f.symm hy
theorem Split.zBj {le:(Nat×bQ)->(Nat×bQ)->Prop} {l l':List (Nat×bQ)} {a m b:Nat} (h:Split le l a m b) (hs:∀i,a<=i->l'[i]? =l[i]?) (ham:a<=m):Split le l' a m b:=
 fun i j x y h1 h2 h3 h4 hx hy=>h i j x y h1 h2 h3 h4 ((hs i h1).symm.trans hx) ((hs j (by omega)).symm.trans hy)
theorem IV {l l' : List (Nat × bQ)} {a m b s mid lo hi : Nat} (hmid : mid = (a + b) / 2) (hlo' : lo = CW a m b) (hhi' : hi = uu a m b) (ham : a + 2 ≤ m) (hmb : m + 2 ≤ b) (hlen : b ≤ l.length) (h1 : fG (Le gX) l a m) (h2 : fG (Le gX) l m b) (hs1 : lo ≤ s) (hs2 : s ≤ hi)
  (hlo:s=lo\/∀x y,l[mid+m-1-(s-1)]? =some x->l[s-1]? =some y->gX x y=false) (hhi:s=hi\/∀x y,l[mid+m-1-s]? =some x->l[s]? =some y->gX x y=true)
  (hr:fH l l' s m (mid+m-s)):fG (Le gX) l' a s/\fG (Le gX) l' s mid/\fG (Le gX) l' mid (mid+m-s)/\fG (Le gX) l' (mid+m-s) b/\Split (Le gX) l' a mid b:=by
 subst hmid;subst hlo';subst hhi';have h:=Ld sZ ham hmb hlen h1 h2 hs1 hs2 hlo hhi hr;exact⟨h.2.2.2.2.2.1,h.2.2.2.2.2.2.1,h.2.2.2.2.2.2.2.1,h.2.2.2.2.2.2.2.2.1,h.2.2.2.2.2.2.2.2.2⟩
theorem IW {ms l1 l2 l3:List (Nat×bQ)} {a s e mid b:Nat} (has:a<=s) (heb:e<=b) (h0:bH ms l1 s e) (hs:Split (Le gX) l1 a mid b) (h1:bH l1 l2 a mid) (h2:fG (Le gX) l2 a mid) (h3:bH l2 l3 mid b) (h4:fG (Le gX) l3 mid b) (ham:a<=mid) (hmb:mid<=b):bH ms l3 a b/\fG (Le gX) l3 a b:=
 ⟨(h0.wide has heb).trans ((h1.wide zL hmb).trans (h3.wide ham zL)),(h2.same fun i _ hi=>h3.out i (.inl hi)).join h4 (hs.moved h1 h3)⟩
theorem rotI {d : Nat} {S : Nat → Prop} {base g c n a m b : Nat} {ms : List (Nat × bQ)} {f : Value} {w : World} (h : oH d S base g c n ms w) (ham : a < m) (hmb : m < b) (hbn : b ≤ n) (hn : n ≤ 1000000000000) :
  Calls Try.prog 73 #[.slice (some ⟨g,0,none⟩) n c,.int .i64 a,.int .i64 m,.int .i64 b,f] w fun r w'=>r=.returned (.tuple #[])/\∃ms',fH ms ms' a m b/\oH d S base g c n ms' w'/\w.grownBy w' (some g):=rotB d S base g c n a m b ms f w h ham hmb hbn hn
def SymS (d:Nat) (S:Nat->Prop) (base g c n D:Nat):Prop:=∀(a m b:Nat) (ms:List (Nat×bQ)) (w:World) (pa pm pb:Int),pa=a->pm=m->pb=b->b-a<=D->a<m->m<b->b<=n->oH d S base g c n ms w->TW ms->Split Ec ms a m b->fG (Le gX) ms a m->fG (Le gX) ms m b->
 Calls Try.prog 50 #[.slice (some ⟨g,0,none⟩) n c,.int .i64 pa,.int .i64 pm,.int .i64 pb,.func (.func 27) #[] #[]] w fun r w'=>r=.returned (.tuple #[])/\∃ms',bH ms ms' a b/\fG (Le gX) ms' a b/\oH d S base g c n ms' w'/\w.grownBy w' (some g)
section
set_option maxRecDepth 100000
set_option maxHeartbeats 16000000
theorem zBk {d D : Nat} {S : Nat → Prop} {base g c n a m b : Nat} {ms : List (Nat × bQ)} {w : World} (IH : SymS d S base g c n D) (hd : b - a ≤ D + 1) (h : oH d S base g c n ms w) (hid : TW ms) (hsp : Split Ec ms a m b) (ham : a + 2 ≤ m) (hmb : m + 2 ≤ b) (hbn : b ≤ n) (hn : n ≤ 1000000000000) (hs1 : fG (Le gX) ms a m) (hs2 : fG (Le gX) ms m b) :
  Calls Try.prog 50 #[.slice (some ⟨g,0,none⟩) n c,.int .i64 a,.int .i64 m,.int .i64 b,.func (.func 27) #[] #[]] w fun r w'=>r=.returned (.tuple #[])/\∃ms',bH ms ms' a b/\fG (Le gX) ms' a b/\oH d S base g c n ms' w'/\w.grownBy w' (some g):=by
 have HR:=zH (And.intro h (And.intro hid (And.intro hsp (And.intro hs1 hs2))));have HIH:=zH IH;have hlm:=h.dQ;clear h hid hsp hs1 hs2 IH
 go_enter Try.func50,Try.ntmps50
 go_upto_region 25 with fail
 obtain⟨mid,hmid⟩:∃mid,mid=(a+b)/2:=⟨_,rfl⟩
 have eI:((a:Int)+(b:Int))/2=(mid:Int):=by omega
 simp only[eI];have hm1:2*mid<=a+b:=by omega
 have hm2:a+b<=2*mid+1:=by omega
 have WM:=zH hmid;clear eI hmid;go_upto_if 140 with fail
 go_cut[20,21] (fun p q wx=>∃lo hq:Nat,p=.int .i64 lo/\q=.int .i64 hq/\Hid (lo=CW a m b/\hq=uu a m b)/\w=wx)
 case first=>
  by_cases hmm:mid<m
  ·have hx:Hid (mid+m-b=CW a m b/\mid=uu a m b):=zH (by unfold CW uu;rw[<-WM.out];simp[hmm]);go_wp2
   go_meet
   exact⟨mid+m-b,mid,by go_num,rfl,hx,rfl⟩
  ·have hx:Hid (a=CW a m b/\m=uu a m b):=zH (by unfold CW uu;rw[<-WM.out];simp[hmm]);go_wp2
   go_meet
   exact⟨a,m,rfl,rfl,hx,rfl⟩
 case rest=>
  obtain⟨lo,hq,rfl,rfl,HLH,hw⟩:=hcut;subst hw
  obtain⟨q1,q2,q3,q4,q5⟩:a<=lo/\lo<=hq/\hq<=mid/\hq<=m/\mid+m<=b+lo:=by
   have h1:=HLH.out;unfold CW uu at h1;rw[<-WM.out]at h1
   by_cases hmm:mid<m
   ·simp only[if_pos hmm]at h1;omega
   ·simp only[if_neg hmm]at h1;omega
  go_wp2
  obtain⟨p,hp⟩:∃p,p=mid+m-1:=⟨_,rfl⟩
  have epI:(mid:Int)+(m:Int)-1=(p:Int):=by omega
  simp only[epI];have hp1:p+1<=mid+m:=by omega
  have hp2:mid+m<=p+1:=by omega
  clear epI hp
  go_loopw[20,21] (fun p q wr=>∃(i j:Nat),lo<=i/\i<=j/\j<=hq/\p=.int .i64 i/\q=.int .i64 j/\Hid (i=lo\/∀u v,ms[mid+m-1-(i-1)]? =some u->ms[i-1]? =some v->gX u v=false)/\Hid (j=hq\/∀u v,ms[mid+m-1-j]? =some u->ms[j]? =some v->gX u v=true)/\Hid (oH d S base g c n ms wr)/\Hid (w.grownBy wr (some g))) (fun p q _=>(intOf q).toNat - (intOf p).toNat)
  case atStart=>exact⟨lo,hq,by omega,by omega,by omega,rfl,rfl,zH (.inl rfl),zH (.inl rfl),zH HR.out.1,zH (World.grownBy.refl _ _)⟩
  case round=>
   obtain⟨W,rfl⟩:∃z:World,z=wr:=⟨_,rfl⟩
   obtain⟨i,j,hi,hij,hj,rfl,rfl,HI,HJ,eY,o6⟩:=hrel
   by_cases hlt:i<j
   ·go_upto_region 35 with fail
    obtain⟨h,hh⟩:∃h,h=(i+j)/2:=⟨_,rfl⟩
    have XR:((i:Int)+(j:Int))/2=(h:Int):=by omega
    simp only[XR];have hih:i<=h:=by omega
    have hhj:h<j:=by omega
    clear XR hh;have hX1:p-h<ms.length:=by omega
    have Fg:h<ms.length:=by omega
    have TZ:p-h<n:=by omega
    have WL:h<n:=by omega
    obtain⟨g',xs,hA,_,hgl,xw,Ea⟩:=(eY.out).elem hX1;injection hA with hA
    injection hA with hA
    subst hA;obtain⟨g',ys,hA,_,_,xy,Eb⟩:=(eY.out).elem Fg;injection hA with hA
    injection hA with hA
    subst hA;have hx:=List.getElem?_eq_getElem hX1;have hy:=List.getElem?_eq_getElem Fg;have hxi:=HR.out.2.1 _ (List.getElem_mem hX1);have hyi:=HR.out.2.1 _ (List.getElem_mem Fg);generalize ms[p-h]=x at *;generalize ms[h]=y at *;obtain⟨lb,hlb⟩:∃z,gX x y=z:=⟨_,rfl⟩
    have hcode:decide ((x.2.id:Int)-y.2.id<0)=lb:=by
     rw[<-hlb,xe (HR.out.2.2.1 h (p-h) y x (by omega) (by omega) (by omega) (by omega) hy hx)]
     apply decide_eq_decide.2
     omega
    have FD:=zH hcode;have HX:=zH (And.intro hx (And.intro hy hlb));have HS:=zH (And.intro xw (And.intro xy (And.intro Ea (And.intro Eb (And.intro hxi hyi)))));have hlx:=CK.len xw;have Ji:=CK.len xy;clear hx hy hlb hcode xw xy Ea Eb hxi hyi
    refine wx (fun _=>false) [.is (.func (.func 27) #[] #[]),.is (.slice (some ⟨g,0,none⟩) n c),.is (.int .i64 (p:Nat)),.is (.int .i64 (h:Nat)),.is (.int .i64 ((p-h:Nat):Int)),.is (.pointer (some ⟨g,(p-h)*3,none⟩)),.is (.agg xs.toArray),.is (.slice (some ⟨g,0,none⟩) n c),.is (.int .i64 (h:Nat)),.is (.pointer (some ⟨g,h*3,none⟩)),.is (.agg ys.toArray),.is (.int .i64 ((x.2.id:Int)-y.2.id)),.is (.bool lb),.is (.bool (!lb))] [4,5,6,9,10,11,12,13] (by kernel_rfl) (by kernel_rfl) (by kernel_rfl)
     (fun C=>.c (px C rfl (fun _ _=>rfl)) <| .c (px C rfl (fun _ _=>rfl)) <| .c (px C rfl (fun _ _=>rfl)) <| .c (px C rfl (fun _ _=>rfl)) <| .c (pz [2,3] [] (by kernel_rfl) fun qK qa wr hB qO qF hK=>?_) <| .c (pz [1,4] [] (by kernel_rfl) fun qK qa wr hB qO qF hK=>?_) <| .c (pz [5] [] (by kernel_rfl) fun qK qa wr hB qO qF hK=>?_) <| .c (px C rfl (fun _ _=>rfl)) <| .c (px C rfl (fun _ _=>rfl)) <| .c (pz [7,8] [] (by kernel_rfl) fun qK qa wr hB qO qF hK=>?_) <| .c (pz [9] [] (by kernel_rfl) fun qK qa wr hB qO qF hK=>?_) <| .c (pz [0,6,10] [] (by kernel_rfl) fun qK qa wr hB qO qF hK=>?_) <| .c (pz [11] [] (by kernel_rfl) fun qK qa wr hB qO qF hK=>?_) <| .c (pz [12] [] (by kernel_rfl) fun qK qa wr hB qO qF hK=>?_) <| .nil) ?_
    ·exact yl _ _ _ _ rfl (ev (ay qF.1 rfl rfl)) (ev (ay qF.2.1 rfl rfl)) (by omega) (by omega) (by omega) (hK _ _ zR rfl)
    ·exact gu dH.1 _ _ rfl (ev (ay qF.1 rfl rfl)) (ev (ay qF.2.1 rfl rfl)) TZ (hK _ _ zR rfl)
    ·exact fQ dH _ rfl (ev (ay qF.1 rfl rfl)) xs hlx (fun i u hu=>bc hB (HS.out.2.2.1 i u hu)) (hK _ _ zR rfl)
    ·exact gu dH.1 _ _ rfl (ev (ay qF.1 rfl rfl)) (ev (ay qF.2.1 rfl rfl)) WL (hK _ _ zR rfl)
    ·exact fQ dH _ rfl (ev (ay qF.1 rfl rfl)) ys Ji (fun i u hu=>bc hB (HS.out.2.2.2.1 i u hu)) (hK _ _ zR rfl)
    ·have e1:=ay qF.1 rfl rfl;have e2:=ay qF.2.1 rfl rfl;have e3:=ay qF.2.2.1 rfl rfl;clear qO qF;go_simp
     go_at_call 27
     refine(WJ (CK.keep (P:=Nq d) (n:=3) (fE.old hB) HS.out.1) (CK.keep (P:=Nq d) (n:=3) (fE.old hB) HS.out.2.1) HS.out.2.2.2.2.1 HS.out.2.2.2.2.2).mono ?_;rintro r w2 ⟨rfl,hb2⟩;exact hK _ _ hb2 rfl
    ·exact Ff _ _ _ _ rfl (ev (ay qF.1 rfl rfl)) rfl FD.out (hK _ _ zR rfl)
    ·exact TT _ _ rfl (ev (ay qF.1 rfl rfl)) (hK _ _ zR rfl)
    intro qx W5 hB hR hS;clear hR hS;simp only[bJ,List.length,List.take,List.drop,List.toList_toArray];refine zn ?_
    go_frame
    have yT:=zH (And.intro (eY.out.old hB) (o6.out.trans (below_grown hB _)));clear hB HS FD;cases lb
    ·as_aux_lemma=>
     have HNI:Hid (h+1=lo\/∀u v,ms[mid+m-1-(h+1-1)]? =some u->ms[h+1-1]? =some v->gX u v=false):=zH (.inr fun u v hu hv=>by
      rw[Nat.add_sub_cancel]at hu hv;have h1:=HX.out.1;have h2:=HX.out.2.1;rw[show p-h=mid+m-1-h by omega]at h1;rw[hu]at h1;rw[hv]at h2;injection h1 with h1;injection h2 with h2
      subst h1;subst h2;exact HX.out.2.2)
     clear HX eY o6;go_wp2
     go_roundw
     case rel=>exact⟨h+1,j,by omega,by omega,by omega,by go_num,rfl,HNI,HJ,zH yT.out.1,zH yT.out.2⟩
     case measure=>simp[intOf];omega
    ·as_aux_lemma=>
     have HNJ:Hid (h=hq\/∀u v,ms[mid+m-1-h]? =some u->ms[h]? =some v->gX u v=true):=zH (.inr fun u v hu hv=>by
      have h1:=HX.out.1;have h2:=HX.out.2.1;rw[show p-h=mid+m-1-h by omega]at h1;rw[hu]at h1;rw[hv]at h2;injection h1 with h1;injection h2 with h2
      subst h1;subst h2;exact HX.out.2.2)
     clear HX eY o6;go_wp2
     go_roundw
     case rel=>exact⟨i,h,by omega,by omega,by omega,rfl,rfl,HI,HNJ,zH yT.out.1,zH yT.out.2⟩
     case measure=>simp[intOf];omega
   ·as_aux_lemma=>
    obtain rfl:i=j:=by omega
    clear hlt;obtain⟨e,he⟩:∃e,e=mid+m-i:=⟨_,rfl⟩
    have HE:=zH he;have he1:e+i<=mid+m:=by omega
    have he2:mid+m<=e+i:=by omega
    clear he;go_upto_region 39 with fail
    have eI:(mid:Int)+(m:Int)-(i:Int)=(e:Int):=by omega
    simp only[eI];clear eI
    go_cut[185] (fun v wx=>∃ok:Bool,v=.bool ok/\Hid (ok=true<->i<m/\m<e)/\W=wx)
    case first=>
     by_cases h1:i<m
     ·by_cases h2:m<e
      ·go_wp2_with fail
       go_meet
       exact⟨true,rfl,zH ⟨fun _=>⟨h1,h2⟩,fun _=>rfl⟩,rfl⟩
      ·go_wp2_with fail
       go_meet
       exact⟨false,rfl,zH ⟨fun h=>(by cases h),fun h=>absurd h.2 h2⟩,rfl⟩
     ·go_wp2_with fail
      go_meet
      exact⟨false,rfl,zH ⟨fun h=>(by cases h),fun h=>absurd h.1 h1⟩,rfl⟩
    case rest=>
     obtain⟨ok,rfl,HO,hw⟩:=hcut;subst hw;go_upto_if 185 with fail
     go_cut[] (fun wx=>∃l1,Hid (fH ms l1 i m e/\oH d S base g c n l1 wx/\w.grownBy wx (some g)))
     case first=>
      cases ok
      ·have h1:¬(i<m/\m<e):=fun h=>by have:=HO.out.2 h;cases this
       go_wp2
       go_meet
       exact⟨ms,zH ⟨fH.none (by omega) (by omega) (by omega),eY.out,o6.out⟩⟩
      ·as_aux_lemma=>
       obtain⟨h1,h2⟩:=HO.out.1 rfl;go_wp2_with fail
       refine(rotI eY.out h1 h2 (by omega) hn).mono ?_;rintro r w2 ⟨rfl,l1,hrt,hrow1,hg1⟩;have HN:=zH (And.intro hrt (And.intro hrow1 (o6.out.trans hg1)));clear hrt hrow1 hg1;go_wp2
       go_meet
       exact⟨l1,HN⟩
     case rest=>
      as_aux_lemma=>
      obtain⟨l1,H1⟩:=hcut
      have HM:Hid (fG (Le gX) l1 a i/\fG (Le gX) l1 i mid/\fG (Le gX) l1 mid e/\fG (Le gX) l1 e b/\Split (Le gX) l1 a mid b):=zH (by
       have:=IV WM.out HLH.out.1 HLH.out.2 ham hmb (by omega) HR.out.2.2.2.1 HR.out.2.2.2.2 hi hj HI.out HJ.out (HE.out▸H1.out.1)
       rwa [<-HE.out]at this)
      have HT:=zH (zBi (a:=a) (b:=b) (mid:=mid) (by omega) (by omega) (by omega) (by omega) (by omega) HR.out.2.2.1 H1.out.1);have HD:=zH (HR.out.2.1.of H1.out.1.moved);clear eY o6 HI HJ HO;have b1:a<=i:=by omega
      have b2:i<=mid:=by omega
      have b3:mid<=e:=by omega
      have b4:e<=b:=by omega
      obtain⟨W1,rfl⟩:∃z:World,z=wc:=⟨_,rfl⟩
      go_upto_region 41 with fail
      go_cut[199] (fun v wx=>∃ok:Bool,v=.bool ok/\Hid (ok=true<->a<i/\i<mid)/\W1=wx)
      case first=>
       by_cases h1:a<i
       ·by_cases h2:i<mid
        ·as_aux_lemma=>
         go_wp2_with fail
         go_meet
         exact⟨true,rfl,zH ⟨fun _=>⟨h1,h2⟩,fun _=>rfl⟩,rfl⟩
        ·as_aux_lemma=>
         go_wp2_with fail
         go_meet
         exact⟨false,rfl,zH ⟨fun h=>(by cases h),fun h=>absurd h.2 h2⟩,rfl⟩
       ·go_wp2_with fail
        go_meet
        exact⟨false,rfl,zH ⟨fun h=>(by cases h),fun h=>absurd h.1 h1⟩,rfl⟩
      case rest=>
       obtain⟨ok,rfl,HO,hw⟩:=hcut;subst hw;go_upto_if 199 with fail
       go_cut[] (fun wx=>∃l2,Hid (bH l1 l2 a mid/\fG (Le gX) l2 a mid/\oH d S base g c n l2 wx/\w.grownBy wx (some g)))
       case first=>
        cases ok
        ·have hs:Hid (fG (Le gX) l1 a mid):=zH (by
          rcases Nat.lt_or_ge a i with hx|hx
          ·have e1:i=mid:=by
            have h3:¬(a<i/\i<mid):=fun h=>(by have:=HO.out.2 h;cases this)
            omega
           have:=HM.out.1;rwa [e1]at this
          ·have e1:i=a:=by omega
           have:=HM.out.2.1;rwa [e1]at this)
         go_wp2
         go_meet
         exact⟨l1,zH ⟨bH.refl _ _ _,hs.out,H1.out.2.1,H1.out.2.2⟩⟩
        ·as_aux_lemma=>
         obtain⟨h1,h2⟩:=HO.out.1 rfl;go_wp2_with fail
         refine(HIH.out a i mid l1 _ _ _ _ rfl rfl rfl (by omega) h1 h2 (by omega) H1.out.2.1 HD.out HT.out.1 HM.out.1 HM.out.2.1).mono ?_;rintro r w2 ⟨rfl,l2,hm2,hs2,hrow2,hg2⟩;have HN:=zH (And.intro hm2 (And.intro hs2 (And.intro hrow2 (H1.out.2.2.trans hg2))));clear hm2 hs2 hrow2 hg2;go_wp2
         go_meet
         exact⟨l2,HN⟩
       case rest=>
        as_aux_lemma=>
        obtain⟨l2,H2⟩:=hcut;obtain⟨W2,rfl⟩:∃z:World,z=wc:=⟨_,rfl⟩
        have HS2:=zH (And.intro (HM.out.2.2.1.same fun x hx _=>H2.out.1.out x (.inr hx)) (And.intro (HM.out.2.2.2.1.same fun x hx _=>H2.out.1.out x (.inr (by omega))) (And.intro (HT.out.2.zBj (fun x hx=>H2.out.1.out x (.inr hx)) b3) (HD.out.of H2.out.1))));clear HO;go_upto_region 43 with fail
        go_cut[213] (fun v wx=>∃ok:Bool,v=.bool ok/\Hid (ok=true<->mid<e/\e<b)/\W2=wx)
        case first=>
         by_cases h1:mid<e
         ·by_cases h2:e<b
          ·as_aux_lemma=>
           go_wp2_with fail
           go_meet
           exact⟨true,rfl,zH ⟨fun _=>⟨h1,h2⟩,fun _=>rfl⟩,rfl⟩
          ·as_aux_lemma=>
           go_wp2_with fail
           go_meet
           exact⟨false,rfl,zH ⟨fun h=>(by cases h),fun h=>absurd h.2 h2⟩,rfl⟩
         ·go_wp2_with fail
          go_meet
          exact⟨false,rfl,zH ⟨fun h=>(by cases h),fun h=>absurd h.1 h1⟩,rfl⟩
        case rest=>
         obtain⟨ok,rfl,HO,hw⟩:=hcut;subst hw;cases ok
         ·have hs:Hid (fG (Le gX) l2 mid b):=zH (by
           rcases Nat.lt_or_ge mid e with hx|hx
           ·have e1:e=b:=by
             have h3:¬(mid<e/\e<b):=fun h=>(by have:=HO.out.2 h;cases this)
             omega
            have:=HS2.out.1;rwa [e1]at this
           ·have e1:e=mid:=by omega
            have:=HS2.out.2.1;rwa [e1]at this)
          have HJN:=zH (IW b1 b4 H1.out.1.moved HM.out.2.2.2.2 H2.out.1 H2.out.2.1 (bH.refl _ _ _) hs.out (by omega) (by omega));go_wp2
          go_end0
          exact⟨rfl,l2,HJN.out.1,HJN.out.2,H2.out.2.2.1,H2.out.2.2.2⟩
         ·as_aux_lemma=>
          obtain⟨h1,h2⟩:=HO.out.1 rfl;go_wp2_with fail
          refine(HIH.out mid e b l2 _ _ _ _ rfl rfl rfl (by omega) h1 h2 (by omega) H2.out.2.2.1 HS2.out.2.2.2 HS2.out.2.2.1 HS2.out.1 HS2.out.2.1).mono ?_;rintro r w2 ⟨rfl,l3,Yy,hs3,hrow3,hg3⟩;have HJN:=zH (IW b1 b4 H1.out.1.moved HM.out.2.2.2.2 H2.out.1 H2.out.2.1 Yy hs3 (by omega) (by omega));have HN:=zH (And.intro hrow3 (H2.out.2.2.2.trans hg3));clear Yy hs3 hrow3 hg3;go_wp2
          go_end0
          exact⟨rfl,l3,HJN.out.1,HJN.out.2,HN.out.1,HN.out.2⟩
theorem Z4 (d:Nat) (S:Nat->Prop) (base g c n:Nat) (hn:n<=1000000000000):∀D,SymS d S base g c n D
 |0=>fun a m b ms w pa pm pb ha hm hb hd ham hmb hbn h h0 hsp h1 h2=>by omega
 |D+1=>fun a m b ms w pa pm pb ha hm hb hd ham hmb hbn h h0 hsp h1 h2=>by
  subst ha;subst hm;subst hb
  by_cases e1:m=a+1
  ·exact oneS h h0 hsp e1 hmb hbn hn h1 h2
  ·by_cases e2:b=m+1
   ·exact zBh h h0 hsp (by omega) e2 hbn hn h1 h2
   ·exact zBk (Z4 d S base g c n hn D) hd h h0 hsp (by omega) (by omega) hbn hn h1 h2
end
section
variable {α:Type} {le:α->α->Prop} {l l':List α} {bs k n a:Nat}
def Full (le:α->α->Prop) (l:List α) (bs n:Nat):Prop:=∀q,fG le l (q*bs) (min (q*bs+bs) n)
def First (le:α->α->Prop) (l:List α) (bs k:Nat):Prop:=∀q,q<k->fG le l (q*bs) (q*bs+bs)
theorem Ll (bs:Nat) {q k:Nat} (h:q<k):q*bs+bs<=k*bs:=by
 have:=Nat.mul_le_mul_right bs (show q+1<=k from h)
 rwa [Nat.succ_mul]at this
theorem First.step (h:First le l bs k) (ha:a=k*bs) (hm:bH l l' a (a+bs)) (hs:fG le l' a (a+bs)):First le l' bs (k+1):=by
 intro q hq
 by_cases hqk:q=k
 ·subst hqk;rw[<-ha];exact hs
 ·have:=Ll bs (show q<k by omega);exact(h q (by omega)).same fun i _ hi=>hm.out i (.inl (by omega))
theorem First.full (h:First le l bs k) (ha:a=k*bs) (hm:bH l l' a n) (hs:fG le l' a n) (hk:a<=n) (hb:n<a+bs):Full le l' bs n:=by
 intro q;rcases Nat.lt_trichotomy q k with hq|hq|hq
 ·have:=Ll bs hq;exact((h q hq).sub zL (by omega)).same fun i _ hi=>hm.out i (.inl (by omega))
 ·subst hq;rw[<-ha];exact hs.sub zL (by omega)
 ·have:=Ll bs hq;exact fG.nil (by omega)
structure Half (le:α->α->Prop) (l:List α) (bs k n:Nat):Prop where
 done:First le l (2*bs) k
 todo:∀q,2*k<=q->fG le l (q*bs) (min (q*bs+bs) n)
theorem Half.start (h:Full le l bs n):Half le l bs 0 n:=⟨fun q hq=>by omega,fun q _=>h q⟩
theorem Half.pair (h:Half le l bs k n) (ha:a=k*(2*bs)):fG le l a (min (a+bs) n)/\fG le l (a+bs) (min (a+bs+bs) n):=by
 have e1:2*k*bs=a:=by rw[ha];simp[Nat.mul_assoc,Nat.mul_comm,Nat.mul_left_comm]
 have h1:=h.todo (2*k) zL;have h2:=h.todo (2*k+1) (by omega);rw[Nat.succ_mul,e1]at h2;rw[e1]at h1;exact⟨h1,h2⟩
theorem Half.step (h:Half le l bs k n) (ha:a=k*(2*bs)) (hm:bH l l' a (a+2*bs)) (hs:fG le l' a (a+2*bs)):Half le l' bs (k+1) n:=by
 refine⟨h.done.step ha hm hs,fun q hq=>?_⟩;have e1:2*(k+1)*bs=a+2*bs:=by rw[ha,Nat.mul_comm 2 (k+1),Nat.mul_assoc,Nat.succ_mul]
 have:=Nat.mul_le_mul_right bs hq;exact(h.todo q (by omega)).same fun i hi _=>hm.out i (.inr (by omega))
theorem Half.full (h:Half le l bs k n) (ha:a=k*(2*bs)) (hm:bH l l' a n) (hs:fG le l' a n) (hk:a<=n) (hb:n<a+2*bs):Full le l' (2*bs) n:=h.done.full ha hm hs hk hb
theorem Full.all (h:Full le l bs n) (hb:n<=bs):fG le l 0 n:=by
 have:=h 0;rw[Nat.zero_mul,Nat.zero_add,Nat.min_eq_right hb]at this;exact this
end
def tX (l:List (Nat×bQ)) (T:Nat->Prop) (n:Nat):Prop:=∀t,T t->t<=n->Split Ec l 0 t n
theorem tX.moved {l l':List (Nat×bQ)} {T T':Nat->Prop} {n x y:Nat} (h:tX l T n) (hm:bH l l' x y) (hy:y<=n) (hT:∀t,T' t->T t/\(t<=x\/y<=t)):tX l' T' n:=by
 intro t ht htn;obtain⟨h1,h2⟩:=hT t ht;rcases h2 with h2|h2
 ·exact(h t h1 htn).moved (bH.refl _ _ _) (hm.wide h2 hy)
 ·exact(h t h1 htn).moved (hm.wide (Nat.zero_le _) h2) (bH.refl _ _ _)
theorem tX.srt {l:List (Nat×bQ)} {T:Nat->Prop} {n a b:Nat} (h:tX l T n) (hT:∀t,a<=t->T t) (hb:b<=n):fG Ec l a b:=
 fun i j x y h1 h2 h3 hx hy=>h j (hT j (by omega)) (by omega) i j x y (Nat.zero_le _) h2 zL (by omega) hx hy
theorem tX.cut {l:List (Nat×bQ)} {T:Nat->Prop} {n a m b:Nat} (h:tX l T n) (hT:T m) (hm:m<=n) (hb:b<=n):Split Ec l a m b:=
 fun i j x y h1 h2 h3 h4 hx hy=>h m hT hm i j x y (Nat.zero_le _) h2 h3 (by omega) hx hy
def UX (a t:Nat):Prop:=(∃q,t=q*20)\/a<=t
def Z5 (bs t:Nat):Prop:=∃q,t=q*bs
def Jn (bs a t:Nat):Prop:=(∃q,t=q*(2*bs))\/(a<=t/\∃q,t=q*bs)
theorem UX.step {k a t:Nat} (ha:a=k*20) (h:UX (a+20) t):UX a t/\(t<=a\/a+20<=t):=by
 rcases h with⟨q,h⟩|h
 ·exact⟨.inl ⟨q,h⟩,by omega⟩
 ·exact⟨.inr (by omega),.inr h⟩
theorem UX.last {k a n t:Nat} (ha:a=k*20) (hn:n<a+20) (h:Z5 20 t):UX a t/\(t<=a\/n<=t):=by
 obtain⟨q,h⟩:=h;exact⟨.inl ⟨q,h⟩,by omega⟩
theorem mul_two {q k c:Nat}:q*c<=k*c\/k*c+c<=q*c:=by
 rcases Nat.lt_or_ge k q with h|h
 ·have:=Nat.mul_le_mul_right c (show k+1<=q from h);rw[Nat.succ_mul]at this;exact .inr this
 ·exact .inl (Nat.mul_le_mul_right c h)
theorem Jn.step {k bs a t:Nat} (ha:a=k*(2*bs)) (h:Jn bs (a+2*bs) t):Jn bs a t/\(t<=a\/a+2*bs<=t):=by
 rcases h with⟨q,h⟩|⟨h,h2⟩
 ·have:=@mul_two q k (2*bs);exact⟨.inl ⟨q,h⟩,by omega⟩
 ·exact⟨.inr ⟨by omega,h2⟩,.inr h⟩
theorem Jn.last {k bs a n t:Nat} (ha:a=k*(2*bs)) (hn:n<a+2*bs) (h:Z5 (2*bs) t):Jn bs a t/\(t<=a\/n<=t):=by
 obtain⟨q,h⟩:=h;have:=@mul_two q k (2*bs);exact⟨.inl ⟨q,h⟩,by omega⟩
theorem Jn.mid {k bs a:Nat} (ha:a=k*(2*bs)):Jn bs a (a+bs):=.inr ⟨by omega,2*k+1,by rw[Nat.succ_mul,ha,Nat.mul_comm 2 k,Nat.mul_assoc]⟩
theorem Jn.first {bs t:Nat} (h:Jn bs 0 t):Z5 bs t:=by
 rcases h with⟨q,h⟩|⟨_,q,h⟩
 ·exact⟨q*2,by rw[h,Nat.mul_assoc]⟩
 ·exact⟨q,h⟩
theorem insI {d : Nat} {S : Nat → Prop} {base g c n a b : Nat} {ms : List (Nat × bQ)} {w : World} {pa pb : Int} (ha : pa = a) (hb : pb = b) (h : oH d S base g c n ms w) (hid : TW ms) (hst : fG Ec ms a b) (hab : a ≤ b) (hbn : b ≤ n) (hn : n ≤ 1000000000000) :
  Calls Try.prog 49 #[.slice (some ⟨g,0,none⟩) n c,.int .i64 pa,.int .i64 pb,.func (.func 27) #[] #[]] w fun r w'=>r=.returned (.tuple #[])/\∃ms',bH ms ms' a b/\fG (Le gX) ms' a b/\oH d S base g c n ms' w'/\w.grownBy w' (some g):=by
 subst ha;subst hb;exact insS h hid hst hab hbn hn
theorem insZ (v f:Value) (w:World):Calls Try.prog 49 #[v,.int .i64 0,.int .i64 0,f] w fun r w'=>r=.returned (.tuple #[])/\w'=w:=by
 go_enter Try.func49,Try.ntmps49
 go_wp2
 go_loopw[8] (fun o wr=>o=.int .i64 1/\wr=w) (fun o _=>0)
 case atStart=>exact⟨rfl,rfl⟩
 case round=>
  obtain⟨rfl,rfl⟩:=hrel;go_wp2
  go_end0
  exact⟨rfl,rfl⟩
theorem WN (d : Nat) (S : Nat → Prop) (base g c n : Nat) (ms : List (Nat × bQ)) (w : World) (h : oH d S base g c n ms w) (hid : TW ms) (hst : fG Ec ms 0 n) (hn : n ≤ 1000000000000) :
  Calls Try.prog 35 #[.slice (some ⟨g,0,none⟩) n c,.int .i64 n,.func (.func 27) #[] #[]] w fun r w'=>r=.returned (.tuple #[])/\∃ms',bH ms ms' 0 n/\fG (Le gX) ms' 0 n/\oH d S base g c n ms' w'/\w.grownBy w' (some g):=by
 have HR:=zH h;have HID:=zH hid;have HT0:Hid (tX ms (UX 0) n):=zH fun t _ htn i j x y h1 h2 h3 h4 hx hy=>hst i j x y h1 (by omega) h4 hx hy
 clear h hid hst
 go_enter Try.func35,Try.ntmps35
 go_wp2
 go_loopw[7,8] (fun p q wr=>∃(k a:Nat) (jQ:List (Nat×bQ)),a<=n/\p=.int .i64 a/\q=.int .i64 (a+20:Nat)/\Hid (a=k*20)/\Hid (First (Le gX) jQ 20 k)/\Hid (tX jQ (UX a) n)/\Hid (bH ms jQ 0 n)/\Hid (oH d S base g c n jQ wr)/\Hid (w.grownBy wr (some g))) (fun p q _=>n+1-(intOf p).toNat)
 case atStart=>exact⟨0,0,ms,by omega,rfl,rfl,zH rfl,zH (fun q hq=>by omega),HT0,zH (bH.refl _ _ _),HR,zH (World.grownBy.refl _ _)⟩
 case round=>
  obtain⟨k,a,jQ,MP,rfl,rfl,HA,HF,HT,HMV,eY,o6⟩:=hrel
  by_cases hlt:a+20<=n
  ·as_aux_lemma=>
   go_wp2_with fail
   refine(insI rfl (show _=((a+20:Nat):Int) by omega) eY.out (HID.out.of HMV.out) (HT.out.srt (fun t h=>.inr h) hlt) (by omega) hlt hn).mono ?_;rintro r w2 ⟨rfl,l1,hmv,hs,hrow,hg⟩;have Nr:=zH hrow;have HF1:=zH (HF.out.step HA.out hmv hs);have HT1:Hid (tX l1 (UX (a+20)) n):=zH (HT.out.moved hmv hlt fun t h=>UX.step HA.out h);have WO:=zH (HMV.out.trans (hmv.wide (Nat.zero_le _) hlt));have WQ:=zH (o6.out.trans hg);have HA1:Hid (a+20=(k+1)*20):=zH (by have:=HA.out;omega);clear hmv hs hrow hg eY HF HT HT0 HMV o6 HA HR;go_wp2
   go_roundw
   case rel=>exact⟨k+1,a+20,l1,by omega,by go_num,by go_num,HA1,HF1,HT1,WO,Nr,WQ⟩
   case measure=>simp[intOf];omega
  ·go_wp2_with fail
   refine(insI rfl rfl eY.out (HID.out.of HMV.out) (HT.out.srt (fun t h=>.inr h) zL) MP zL hn).mono ?_;rintro r w2 ⟨rfl,l1,hmv,hs,hrow,hg⟩;have Nr:=zH hrow;have HF1:=zH (HF.out.full HA.out hmv hs MP (by omega));have HT1:Hid (tX l1 (Z5 20) n):=zH (HT.out.moved hmv zL fun t h=>UX.last HA.out (by omega) h);have WO:=zH (HMV.out.trans (hmv.wide (Nat.zero_le _) zL));have WQ:=zH (o6.out.trans hg);clear hmv hs hrow hg eY HF HT HT0 HMV o6 HA HR MP hlt;go_wp2
   go_loopw[6] (fun o wr=>∃(bs:Nat) (zN:List (Nat×bQ)),1<=bs/\bs<=2000000000000/\o=.int .i64 bs/\Hid (Full (Le gX) zN bs n)/\Hid (tX zN (Z5 bs) n)/\Hid (bH ms zN 0 n)/\Hid (oH d S base g c n zN wr)/\Hid (w.grownBy wr (some g))) (fun o _=>n-(intOf o).toNat)
   case atStart=>exact⟨20,l1,by omega,by omega,rfl,HF1,HT1,WO,Nr,WQ⟩
   case round=>
    obtain⟨bs,zN,hb1,hb2,rfl,HF3,HT3,Z7,Ub,Z8⟩:=hrel;clear HF1 HT1 WO Nr WQ
    by_cases hlt:bs<n
    ·as_aux_lemma=>
     go_wp2
     go_loopw[7,8] (fun p q wi=>∃(k2 a2:Nat) (WR:List (Nat×bQ)),a2<=n/\p=.int .i64 a2/\q=.int .i64 (a2+2*bs:Nat)/\Hid (a2=k2*(2*bs))/\Hid (Half (Le gX) WR bs k2 n)/\Hid (tX WR (Jn bs a2) n)/\Hid (bH ms WR 0 n)/\Hid (oH d S base g c n WR wi)/\Hid (w.grownBy wi (some g))) (fun p q _=>n+1-(intOf p).toNat)
     case atStart=>exact⟨0,0,zN,by omega,rfl,by go_num,zH (by omega),zH (Half.start HF3.out),zH (fun t h htn=>HT3.out t h.first htn),Z7,Ub,Z8⟩
     case round=>
      obtain⟨k2,a2,WR,MP,rfl,rfl,HA,HH,HT4,Lm,IX,Uc⟩:=hrel;clear HF3 HT3 Z7 Ub Z8
      by_cases hlt2:a2+2*bs<=n
      ·as_aux_lemma=>
       have HP:=HH.out.pair HA.out;rw[Nat.min_eq_left (by omega),Nat.min_eq_left (by omega)]at HP;go_wp2_with fail
       refine(Z4 d S base g c n hn (2*bs) a2 (a2+bs) (a2+2*bs) WR _ _ _ _ (by omega) (by omega) (by omega) (by omega) (by omega) (by omega) (by omega) IX.out (HID.out.of Lm.out) (HT4.out.cut (Jn.mid HA.out) (by omega) hlt2) HP.1 (by rw[show a2+2*bs=a2+bs+bs by omega];exact HP.2)).mono ?_;rintro r w4 ⟨rfl,l5,hmv,hs,hrow,hg⟩;have Ud:=zH hrow;have HH5:=zH (HH.out.step HA.out hmv hs);have HT5:Hid (tX l5 (Jn bs (a2+2*bs)) n):=zH (HT4.out.moved hmv hlt2 fun t h=>Jn.step HA.out h);have Z9:=zH (Lm.out.trans (hmv.wide (Nat.zero_le _) hlt2));have zAa:=zH (Uc.out.trans hg);have HA5:Hid (a2+2*bs=(k2+1)*(2*bs)):=zH (by rw[Nat.succ_mul k2 (2*bs),<-HA.out]);clear hmv hs hrow hg IX HH HT4 Lm Uc HA HP;go_wp2
       go_roundw
       case rel=>exact⟨k2+1,a2+2*bs,l5,by omega,by go_num,by go_num,HA5,HH5,HT5,Z9,Ud,zAa⟩
       case measure=>simp[intOf];omega
      ·by_cases hm:a2+bs<n
       ·as_aux_lemma=>
        have HP:=HH.out.pair HA.out;rw[Nat.min_eq_left (by omega),Nat.min_eq_right (by omega)]at HP;go_wp2_with fail
        refine(Z4 d S base g c n hn n a2 (a2+bs) n WR _ _ _ _ (by omega) (by omega) (by omega) (by omega) (by omega) (by omega) (by omega) IX.out (HID.out.of Lm.out) (HT4.out.cut (Jn.mid HA.out) (by omega) zL) HP.1 HP.2).mono ?_;rintro r w4 ⟨rfl,l5,hmv,hs,hrow,hg⟩;have Ud:=zH hrow;have HH5:=zH (HH.out.full HA.out hmv hs MP (by omega));have HT5:Hid (tX l5 (Z5 (2*bs)) n):=zH (HT4.out.moved hmv zL fun t h=>Jn.last HA.out (by omega) h);have Z9:=zH (Lm.out.trans (hmv.wide (Nat.zero_le _) zL));have zAa:=zH (Uc.out.trans hg);clear hmv hs hrow hg IX HH HT4 Lm Uc HA HP;go_wp2
        go_roundw
        case rel=>exact⟨2*bs,l5,by omega,by omega,by go_num,HH5,HT5,Z9,Ud,zAa⟩
        case measure=>simp[intOf];omega
       ·as_aux_lemma=>
        have HP:=HH.out.pair HA.out;rw[Nat.min_eq_right (by omega)]at HP;have HH5:=zH (HH.out.full HA.out (bH.refl _ _ _) HP.1 MP (by omega));have HT5:Hid (tX WR (Z5 (2*bs)) n):=zH (HT4.out.moved (bH.refl _ a2 n) zL fun t h=>Jn.last HA.out (by omega) h);clear HH HT4 HA HP;go_wp2
        go_roundw
        case rel=>exact⟨2*bs,WR,by omega,by omega,by go_num,HH5,HT5,Lm,IX,Uc⟩
        case measure=>simp[intOf];omega
    ·go_wp2
     go_end0
     exact⟨rfl,zN,Z7.out,HF3.out.all (by omega),Ub.out,Z8.out⟩
theorem WS (v:Value) (w:World):Calls Try.prog 35 #[v,.int .i64 0,.func (.func 27) #[] #[]] w fun r w'=>r=.returned (.tuple #[])/\w'=w:=by
 go_enter Try.func35,Try.ntmps35
 go_wp2
 go_loopw[7,8] (fun p q wr=>p=.int .i64 0/\q=.int .i64 20/\wr=w) (fun p q _=>0)
 case atStart=>exact⟨rfl,rfl,rfl⟩
 case round=>
  obtain⟨rfl,rfl,hwr⟩:=hrel;rw[hwr];go_wp2_with fail
  refine(insZ v _ w).mono ?_;rintro r w2 ⟨rfl,hw2⟩;rw[hw2];go_wp2
  go_loopw[6] (fun o wi=>o=.int .i64 20/\wi=w) (fun o _=>0)
  case atStart=>first|exact⟨rfl,rfl⟩|exact⟨rfl,hwr⟩
  case round=>
   obtain⟨rfl,hwi⟩:=hrel;go_wp2
   go_end0
   first|exact⟨rfl,hwi⟩|exact⟨rfl,rfl⟩
end Go.Proofs.Ytbjnhllkdilpfaa
namespace Go.Proofs.Ytbjnhllkdilpfaa
set_option linter.unusedSimpArgs false
set_option linter.unusedVariables false
def BZ:Nat->List bQ->List (Nat×bQ)
 |_,[]=>[]
 |k,b::l=>(k,b)::BZ (k+1) l
theorem Ns:∀(l:List bQ) (k:Nat),(BZ k l).map Prod.snd=l
 |[],_=>rfl
 |b::l,k=>by simp[BZ,Ns l]
theorem zO:∀(l:List bQ) (k i:Nat) (x:Nat×bQ),(BZ k l)[i]? =some x->x.1=k+i/\l[i]? =some x.2
 |[],_,i,x,h=>by simp[BZ]at h
 |b::l,k,0,x,h=>by simp[BZ]at h;subst h;simp
 |b::l,k,i+1,x,h=>by
  have:=zO l (k+1) i x (by simpa[BZ]using h);refine⟨by omega,by simpa using this.2⟩
theorem Fh:∀(l:List bQ) (k:Nat),(BZ k l).length=l.length
 |[],_=>rfl
 |b::l,k=>by simp[BZ,Fh l]
theorem IY:∀(l:List bQ) (k:Nat) (b:bQ),BZ k (l++[b])=BZ k l++[(k+l.length,b)]
 |[],_,_=>rfl
 |a::l,k,b=>by
  simp only[List.cons_append,BZ,IY l,List.length_cons];rw[show k+1+l.length=k+(l.length+1) by omega]
theorem Fj {l:List bQ} {x:Nat×bQ} (h:x∈BZ 0 l):x.1<l.length/\l[x.1]? =some x.2:=by
 obtain⟨i,hi,he⟩:=List.mem_iff_getElem.1 h;have:=zO l 0 i x (by rw[List.getElem?_eq_getElem hi,he]);rw[Fh]at hi;rw[this.1,Nat.zero_add];exact⟨hi,this.2⟩
theorem WT (l:List bQ) (n:Nat):fG Ec (BZ 0 l) 0 n:=by
 intro i j x y h1 h2 h3 hx hy;have a1:=zO l 0 i x hx;have a2:=zO l 0 j y hy
 show x.1<y.1
 omega
theorem yt (id:Nat) (L:List bQ):∀k,(∀i,qi id L k<=i->i<k->id<(qh L i).id)/\(0<qi id L k->(qh L (qi id L k-1)).id<=id)
 |0=>⟨fun i _ h=>by omega,fun h=>by simp[qi]at h⟩
 |k+1=>by
  unfold qi
  split
  ·rename_i h
   refine⟨fun i h1 h2=>?_,(yt id L k).2⟩
   by_cases hi:i<k
   ·exact(yt id L k).1 i h1 hi
   ·rw[show i=k by omega];exact h
  ·rename_i h
   exact⟨fun i h1 h2=>by omega,fun _=>by rw[Nat.add_sub_cancel];omega⟩
theorem zAb {x y:Nat×bQ} (h:gX x y=true):x.2.id<=y.2.id:=by
 simp only[gX,Bool.or_eq_true,Bool.and_eq_true,decide_eq_true_eq]at h;omega
theorem Ue {x y:Nat×bQ} (h:x.2.id<y.2.id\/(x.2.id<=y.2.id/\x.1<y.1)):gX x y=true:=by
 simp only[gX,Bool.or_eq_true,Bool.and_eq_true,decide_eq_true_eq];omega
theorem IZ (T:List (Nat×bQ)) {i:Nat} (h:i<T.length):qh (T.map Prod.snd) i=T[i].2:=by simp[qh,h]
theorem Uf {T : List (Nat × bQ)} {k : Nat} {b : bQ} (hp : T.Pairwise (fun x y => gX x y = true)) (hk : ∀ x ∈ T, x.1 < k) :
  ∃T':List (Nat×bQ),T'.map Prod.snd=Em (T.map Prod.snd) b/\T'.Perm (T++[(k,b)])/\T'.Pairwise (fun x y=>gX x y=true):=by
 obtain⟨p,hpe⟩:∃p,qi b.id (T.map Prod.snd) (T.map Prod.snd).length=p:=⟨_,rfl⟩
 have hple:p<=T.length:=by have:=Ej b.id (T.map Prod.snd) (T.map Prod.snd).length;rw[hpe,List.length_map]at this;exact this
 have hf:=yt b.id (T.map Prod.snd) (T.map Prod.snd).length;rw[hpe]at hf;rw[List.length_map]at hf;have hpw:=List.pairwise_iff_getElem.1 hp;refine⟨T.take p++(k,b)::T.drop p,by unfold Em;rw[hpe];simp,?_,?_⟩
 ·refine List.perm_middle.trans ?_;rw[List.take_append_drop];exact(List.perm_append_singleton _ _).symm
 ·refine List.pairwise_append.2 ⟨hp.sublist (List.take_sublist _ _),List.pairwise_cons.2 ⟨fun y hy=>?_,hp.sublist (List.drop_sublist _ _)⟩,fun x hx y hy=>?_⟩
  ·obtain⟨i,hi,rfl⟩:=List.mem_iff_getElem.1 hy;rw[List.length_drop]at hi;rw[List.getElem_drop];have:=hf.1 (p+i) (by omega) (by omega);rw[IZ T (by omega)]at this;exact Ue (.inl this)
  ·obtain⟨i,hi,rfl⟩:=List.mem_iff_getElem.1 hx;rw[List.length_take]at hi;rw[List.getElem_take];rcases List.mem_cons.1 hy with rfl|hy
   ·have h1:=hf.2 (by omega);rw[IZ T (by omega)]at h1;have h2:=hk T[i] (List.getElem_mem _);refine Ue (.inr ⟨?_,h2⟩);rcases Nat.lt_or_ge i (p-1)with h3|h3
    ·exact Nat.le_trans (zAb (hpw i (p-1) (by omega) (by omega) h3)) h1
    ·have:i=p-1:=by omega
     subst this;exact h1
   ·obtain⟨j,hj,rfl⟩:=List.mem_iff_getElem.1 hy;rw[List.length_drop]at hj;rw[List.getElem_drop];exact hpw i (p+j) (by omega) (by omega) (by omega)
theorem BN : ∀ (l dn : List bQ) (T : List (Nat × bQ)), T.Perm (BZ 0 dn) → T.Pairwise (fun x y => gX x y = true) →
  ∃T':List (Nat×bQ),T'.map Prod.snd=l.foldl Em (T.map Prod.snd)/\T'.Perm (BZ 0 (dn++l))/\T'.Pairwise (fun x y=>gX x y=true)
 |[],dn,T,h1,h2=>⟨T,rfl,by rw[List.append_nil];exact h1,h2⟩
 |b::l,dn,T,h1,h2=>by
  obtain⟨T1,a1,a2,a3⟩:=Uf (k:=dn.length) (b:=b) h2 (fun x hx=>(Fj (h1.mem_iff.1 hx)).1)
  have h3:T1.Perm (BZ 0 (dn++[b])):=by
   rw[IY,Nat.zero_add];exact a2.trans (h1.append_right _)
  obtain⟨T2,b1,b2,b3⟩:=BN l (dn++[b]) T1 h3 a3;refine⟨T2,?_,by rw[List.append_assoc]at b2;exact b2,b3⟩;rw[b1,a1];rfl
theorem I4 {bs:List bQ} {ms:List (Nat×bQ)} (h1:ms.Perm (BZ 0 bs)) (h2:ms.Pairwise (Le gX)):ms.map Prod.snd=eH bs:=by
 obtain⟨T,a1,a2,a3⟩:=BN bs [] [] (List.Perm.refl _) List.Pairwise.nil
 have e:∀{X:List (Nat×bQ)},X.Perm (BZ 0 bs)->X.map Prod.snd=(X.map (fun x=>(x.2.id,x.1))).map (fun q=>qh bs q.2):=fun {X} hX=>by
  rw[List.map_map];refine List.map_congr_left fun x hx=>?_
  have:=(Fj (hX.mem_iff.1 hx)).2;simp[qh,this]
 have hk:ms.map (fun x=>(x.2.id,x.1))=T.map (fun x=>(x.2.id,x.1)):=by
  refine BL (R:=fun p q=>¬(q.1<p.1\/(q.1=p.1/\q.2<p.2))) (fun x y hx hy=>?_) ((h1.trans a2.symm).map _) ?_ ?_
  ·obtain⟨x1,x2⟩:=x;obtain⟨y1,y2⟩:=y;simp only[Prod.mk.injEq]at *;omega
  ·refine List.pairwise_map.2 (h2.imp fun {x y} h=>?_);simp only[Le,gX,Bool.or_eq_false_iff,Bool.and_eq_false_iff,decide_eq_false_iff_not]at h;omega
  ·refine List.pairwise_map.2 (a3.imp fun {x y} h=>?_);simp only[gX,Bool.or_eq_true,Bool.and_eq_true,decide_eq_true_eq]at h;omega
 rw[e h1,hk,<-e a2,a1];rfl
end Go.Proofs.Ytbjnhllkdilpfaa
namespace Go.Proofs.Ytbjnhllkdilpfaa
open Go.RowKit
set_option maxRecDepth 100000
set_option maxHeartbeats 16000000
set_option linter.unusedVariables false
set_option linter.unusedSimpArgs false
theorem Nu : ∀ (ms : List (Nat × bQ)) (ps : List (bQ × List Value)), ps.map Prod.fst = ms.map Prod.snd →
  ∃qs:List ((Nat×bQ)×List Value),qs.map Prod.fst=ms/\qs.flatMap Prod.snd=ps.flatMap Prod.snd/\∀q∈qs,(q.1.2,q.2)∈ps
 |[],[],_=>⟨[],rfl,rfl,fun q h=>absurd h (by simp)⟩
 |[],p::ps,h=>by simp at h
 |m::ms,[],h=>by simp at h
 |m::ms,p::ps,h=>by
  simp only[List.map_cons,List.cons.injEq]at h;obtain⟨qs,h1,h2,h3⟩:=Nu ms ps h.2;refine⟨(m,p.2)::qs,by simp[h1],by simp[h2],fun q hq=>?_⟩;rcases List.mem_cons.1 hq with rfl|hq
  ·exact List.mem_cons.2 (.inl (by rw[<-h.1]))
  ·exact List.mem_cons.2 (.inr (h3 q hq))
section
variable {d:Nat} {S:Nat->Prop} {base:Nat} {v:Value} {w:World}
theorem Bd.tagB {ms:List (Nat×bQ)} {bs:List bQ} (h:Bd S base 28 3 (uB d) bs v w) (he:ms.map Prod.snd=bs):Bd S base 28 3 (Nq d) ms v w:=by
 obtain⟨ps,h1,h2,h3⟩:=h;obtain⟨qs,a1,a2,a3⟩:=Nu ms ps (h1.trans he.symm);have hl:ms.length=bs.length:=by rw[<-he,List.length_map]
 exact⟨qs,a1,by rw[a2,hl];exact h2,fun q hq=>h3 _ (a3 q hq)⟩
theorem Bd.zBm {ms:List (Nat×bQ)} (h:Bd S base 28 3 (Nq d) ms v w):Bd S base 28 3 (uB d) (ms.map Prod.snd) v w:=by
 obtain⟨ps,h1,h2,h3⟩:=h;refine⟨ps.map (fun p=>(p.1.2,p.2)),by rw[<-h1,List.map_map,List.map_map];rfl,?_,fun q hq=>?_⟩
 ·rw[List.length_map,List.flatMap_map];exact h2
 ·obtain⟨p,hp,rfl⟩:=List.mem_map.1 hq;exact h3 p hp
theorem sortB {bs : List bQ} (h : Bd S base 28 3 (uB d) bs v w) (hl : bs.length ≤ 1000000000000) (hid : ∀ b ∈ bs, b.id ≤ 9223372036854775807) :
  Calls Try.prog 26 #[v,.func (.func 27) #[] #[]] w fun r w'=>r=.returned (.tuple #[])/\Bd S base 28 3 (uB d) (eH bs) v w'/\w.grownBy w' v.ownBlock:=by
 have hm:(BZ 0 bs).map Prod.snd=bs:=Ns bs 0;have zAc:TW (BZ 0 bs):=fun x hx=>hid x.2 (List.mem_iff_getElem?.2 ⟨x.1,(Fj hx).2⟩)
 obtain⟨n,hn⟩:∃n,bs.length=n:=⟨_,rfl⟩
 obtain⟨A,c,rfl,_⟩:=h.form;rw[hn]at h hl⊢;rcases Nat.eq_zero_or_pos n with h0|hpos
 ·subst h0;obtain rfl:bs=[]:=List.length_eq_zero_iff.1 hn;have HO:=zH h;clear h hm zAc hid hl hn
  go_enter Try.func26,Try.ntmps26
  go_wp2_with fail
  refine(WS _ w).mono ?_;rintro r w2 ⟨rfl,hw2⟩;rw[hw2];go_wp2
  go_end0
  exact⟨rfl,HO.out,World.grownBy.refl _ _⟩
 ·obtain⟨g,hA⟩:∃g,A=some ⟨g,0,none⟩:=by
   obtain⟨g,cs,hA,_⟩:=h.elem (k:=0) (by omega);exact⟨g,hA⟩
  subst hA;have HR:=zH (And.intro (h.tagB hm) (And.intro zAc (And.intro (WT bs n) (And.intro hn (Fh bs 0)))));clear h hm zAc hid hn
  go_enter Try.func26,Try.ntmps26
  go_wp2_with fail
  refine(WN d S base g c n (BZ 0 bs) w HR.out.1 HR.out.2.1 HR.out.2.2.1 hl).mono ?_;rintro r w2 ⟨rfl,ms',h1,h2,h3,h4⟩;have HE:=zH (And.intro (I4 h1.perm (fG.pairwise (by rw[h1.len,HR.out.2.2.2.2,HR.out.2.2.2.1];exact h2))) (And.intro h3 h4));clear h1 h2 h3 h4;go_wp2
  go_end0
  exact⟨rfl,by rw[<-HE.out.1];exact HE.out.2.1.zBm,HE.out.2.2⟩
end
end Go.Proofs.Ytbjnhllkdilpfaa
