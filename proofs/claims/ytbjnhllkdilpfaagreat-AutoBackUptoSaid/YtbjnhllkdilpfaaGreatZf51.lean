/- Part 51 of the proof. No conditions. -/
import Derived.Test.YtbjnhllkdilpfaaGreatZf50
import Derived.Test.YtbjnhllkdilpfaaGreatZf49
set_option linter.unusedVariables false
set_option linter.unusedSimpArgs false
namespace Go.Proofs.YtbjnhllkdilpfaaGreat
open Go.RowKit
theorem PlG.bs {t:qg} (h:PlG t):qy 200 t.branches:=by
 refine⟨h.nb,?_,λb hb=>?_,λb hb p a=>?_⟩
 ·rw[zHn];refine⟨?_,by simp,λx c y k=>?_⟩
  ·rw[zH1];intro i j d f e;rw[zF5]at d f;rw[zH4,zH4,h.ids i _ (zAg d),h.ids j _ (zAg f)];exact e
  obtain⟨b,hb,rfl⟩:=zGa.1 c;obtain⟨i,d,rfl⟩:=zJ3.1 hb;have:=h.nb;rw[h.ids i _ (zAg d),zG3.1 k];omega
 ·have g:=h.br b hb;refine⟨g.win,by simpa[KP]using g.n,λx l c=>?_,λx c=>?_⟩
  ·simp only[KP,List.map_eq_cons_iff]at c;obtain⟨p,e,d,rfl,_⟩:=c;exact g.first p e d
  obtain⟨p,a,rfl⟩:=zGa.1 c;exact⟨g.form p a,g.type p a⟩
 have g:=h.br b hb;exact⟨(g.rows p a).1,(g.rows p a).2,g.nots p a⟩
theorem PlG.k {t:qg} (h:PlG t) (c:t.keys.length<=1048576):plK t=true:=by
 unfold plK;simp only[zFn,zF9,zGu];refine⟨by omega,by have:=h.nb;omega,λb hb=>?_⟩;have g:=h.br b hb;exact⟨by have:=g.n;omega,λp a=>by have:=g.rows p a;omega⟩
end Go.Proofs.YtbjnhllkdilpfaaGreat
