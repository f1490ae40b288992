/- Part 46 of the proof. No conditions. -/
import Derived.Test.YtbjnhllkdilpfaaZb21
namespace Go.Proofs.Ytbjnhllkdilpfaa
open Go.RowKit
set_option linter.unusedSimpArgs false
set_option linter.unusedVariables false
set_option maxHeartbeats 16000000
set_option maxRecDepth 100000
def jq (h:Nat):ah:=
 ⟨some ⟨h+1+1+1,0,none⟩,3,[⟨⟨#[65]⟩,some ⟨h+1,0,none⟩,2,[⟨⟨#[107]⟩,1⟩,⟨⟨#[120]⟩,1⟩]⟩,⟨⟨#[66]⟩,some ⟨h+1+1,0,none⟩,2,[⟨⟨#[107]⟩,1⟩,⟨⟨#[120]⟩,4⟩]⟩,⟨⟨#[67]⟩,none,0,[]⟩],some ⟨h+1+1+1+1,0,none⟩,1,[⟨#[97,110,110]⟩]⟩
theorem PL (w:World):Calls Try.prog 20 #[] w fun r w'=>r=.returned (jq w.heap.size).val/\(jq w.heap.size).ok w' w'.heap.size/\Below w.heap.size w w':=by
 obtain⟨h,hh⟩:∃z,w.heap.size=z:=⟨_,rfl⟩
 have HH:=zH hh;clear hh
 go_enter Try.func20,Try.ntmps20
 go_wp2
 have k0:=Bk.new w 61 #[.slice (some ⟨w.heap.size+1+1+1,0,none⟩) 3 3,.slice (some ⟨w.heap.size+1+1+1+1,0,none⟩) 1 1];obtain⟨wA,hwA⟩:∃z,w.alloc (.cells #[.slice (some ⟨w.heap.size+1+1+1,0,none⟩) 3 3,.slice (some ⟨w.heap.size+1+1+1+1,0,none⟩) 1 1] 61)=z:=⟨_,rfl⟩
 have b0:Below w.heap.size w wA:=by rw[<-hwA];exact zR.alloc zL _
 have s0:wA.heap.size=w.heap.size+1:=by rw[<-hwA];simp
 rw[hwA]at k0⊢;have k1:=Bk.newAt s0.symm 86 #[.string ⟨#[107]⟩,.int .i64 1,.string ⟨#[120]⟩,.int .i64 1];obtain⟨wB,hwB⟩:∃z,wA.alloc (.cells #[.string ⟨#[107]⟩,.int .i64 1,.string ⟨#[120]⟩,.int .i64 1] 86)=z:=⟨_,rfl⟩
 have b1:Below wA.heap.size wA wB:=by rw[<-hwB];exact zR.alloc zL _
 have s1:wB.heap.size=w.heap.size+1+1:=by rw[<-hwB];simp[s0]
 rw[hwB]at k1⊢;have k2:=Bk.newAt s1.symm 86 #[.string ⟨#[107]⟩,.int .i64 1,.string ⟨#[120]⟩,.int .i64 4];obtain⟨wC,hwC⟩:∃z,wB.alloc (.cells #[.string ⟨#[107]⟩,.int .i64 1,.string ⟨#[120]⟩,.int .i64 4] 86)=z:=⟨_,rfl⟩
 have b2:Below wB.heap.size wB wC:=by rw[<-hwC];exact zR.alloc zL _
 have s2:wC.heap.size=w.heap.size+1+1+1:=by rw[<-hwC];simp[s1]
 rw[hwC]at k2⊢;have k3:=Bk.newAt s2.symm 89 #[.string ⟨#[65]⟩,.slice (some ⟨w.heap.size+1,0,none⟩) 2 2,.string ⟨#[66]⟩,.slice (some ⟨w.heap.size+1+1,0,none⟩) 2 2,.string ⟨#[67]⟩,.slice none 0 0];obtain⟨wD,hwD⟩:∃z,wC.alloc (.cells #[.string ⟨#[65]⟩,.slice (some ⟨w.heap.size+1,0,none⟩) 2 2,.string ⟨#[66]⟩,.slice (some ⟨w.heap.size+1+1,0,none⟩) 2 2,.string ⟨#[67]⟩,.slice none 0 0] 89)=z:=⟨_,rfl⟩
 have b3:Below wC.heap.size wC wD:=by rw[<-hwD];exact zR.alloc zL _
 have s3:wD.heap.size=w.heap.size+1+1+1+1:=by rw[<-hwD];simp[s2]
 rw[hwD]at k3⊢;have k4:=Bk.newAt s3.symm 9 #[.string ⟨#[97,110,110]⟩];obtain⟨wE,hwE⟩:∃z,wD.alloc (.cells #[.string ⟨#[97,110,110]⟩] 9)=z:=⟨_,rfl⟩
 have b4:Below wD.heap.size wD wE:=by rw[<-hwE];exact zR.alloc zL _
 have s4:wE.heap.size=w.heap.size+1+1+1+1+1:=by rw[<-hwE];simp[s3]
 rw[hwE]at k4⊢;have K0:=(((k0.old b1).old b2).old b3).old b4;have K1:=((k1.old b2).old b3).old b4;have K2:=(k2.old b3).old b4;have K3:=k3.old b4;have hb:Below w.heap.size w wE:=(((b0.trans (b1.mono (by omega))).trans (b2.mono (by omega))).trans (b3.mono (by omega))).trans (b4.mono (by omega));have u0:=K0.cell 0;have u1:=K0.cell 1;simp only[List.getElem?_toArray,List.getElem?_cons_zero,List.getElem?_cons_succ]at u0 u1;have HK:=zH (And.intro K1 (And.intro K2 (And.intro K3 (And.intro k4 (And.intro hb s4)))));clear K0 K1 K2 K3 k0 k1 k2 k3 k4 b0 b1 b2 b3 b4 s0 s1 s2 s3 s4 hwA hwB hwC hwD hwE hb;refine bodyPost_ret (v:=.agg #[.slice (some ⟨w.heap.size+1+1+1,0,none⟩) 3 3,.slice (some ⟨w.heap.size+1+1+1+1,0,none⟩) 1 1]) (by simp[results,Try.results20,go_sem,u0,u1]) rfl ?_;obtain⟨K1,K2,K3,K4,hb,s4⟩:=HK.out;refine⟨rfl,⟨Rd.bk K3 K3.lt,by simp[jq],fun t ht=>?_,?_,by simp[jq],fun x hx=>?_⟩,hb⟩
 ·simp only[jq,List.mem_cons,List.not_mem_nil,or_false]at ht;rcases ht with rfl|rfl|rfl
  ·exact⟨Rd.bk K1 K1.lt,by simp,by show(⟨#[65]⟩:ByteArray).size<=_;decide,fun f hf=>by simp only[List.mem_cons,List.not_mem_nil,or_false]at hf;rcases hf with rfl|rfl<;>decide⟩
  ·exact⟨Rd.bk K2 K2.lt,by simp,by show(⟨#[66]⟩:ByteArray).size<=_;decide,fun f hf=>by simp only[List.mem_cons,List.not_mem_nil,or_false]at hf;rcases hf with rfl|rfl<;>decide⟩
  ·exact⟨.inl rfl,by simp,by decide,fun f hf=>by simp at hf⟩
 ·exact Rd.bk K4 K4.lt
 ·simp only[jq,List.mem_cons,List.not_mem_nil,or_false]at hx;subst hx
  decide
end Go.Proofs.Ytbjnhllkdilpfaa
