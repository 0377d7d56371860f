/- Lemmas. -/
import Derived.Test.YtlpkggpdjobpmaaGreatDoorS1
import Derived.Test.YtlpkggpdjobpmaaGreatDoorS2
set_option linter.all false
namespace Go.Proofs.YtlpkggpdjobpmaaGreatDoor
open Go.RowKit
structure Mine(w:World)(b:Nat)(vs:List Value):Prop where
 lt:b<w.heap.size
 c:∀j v,vs[j]?=some v->w.cell? ⟨b,j,none⟩=some v
 g:∀j,w.frozen? ⟨b,j,none⟩=false
theorem Mine.kept{w w'}{b}{vs}(h:Mine w b vs)(B:Below w.heap.size w w'):Mine w' b vs:=
 ⟨af3 h.lt B.size,λj v hv=>(B.cell h.lt).trans (h.c j v hv),λj=>(B.frozen h.lt).trans (h.g j)⟩
theorem Mine.set{w}{b}{vs}(h:Mine w b vs)(k)(v)(hk:k<vs.length):Mine (w.setCell ⟨b,k,none⟩ v) b (vs.set k v):=by
 obtain⟨u,hu⟩:∃u,vs[k]?=some u:=⟨_,aA hk⟩;have hc:=h.c k u hu;refine⟨by simpa [go_sem]using h.lt,λj x hx=>?_,λj=>by simpa [go_sem]using h.g j⟩;by_cases e:j=k
 ·subst e;rw[aZ hk]at hx;injection hx with hx;rw[<-hx];exact World.cell?_setCell_same _ _ _ hc
 rw[kX oT]at hx;exact(World.cell?_setCell_other w ⟨b,k,none⟩ ⟨b,j,none⟩ v (by first|(simp;done)|(simp;omega))).trans (h.c j x hx)
theorem Mine.set_other{w}{b b' k}{vs}(h:Mine w b vs)(v)(hb:b≠b'):Mine (w.setCell ⟨b',k,none⟩ v) b vs:=
 ⟨by simpa [go_sem]using h.lt,λj x hx=>(World.cell?_setCell_other w ⟨b',k,none⟩ ⟨b,j,none⟩ v (by first|(simp;done)|(simp;omega))).trans (h.c j x hx),λj=>by simpa [go_sem]using h.g j⟩
theorem Mine.drew{w}{b}{vs}(h:Mine w b vs):Mine w.drew b vs:=⟨h.lt,h.c,h.g⟩
theorem Mine.new(w:World)(cs)(t):Mine (w.alloc (.cells cs t)) w.heap.size cs.toList:=
 ⟨by simp,λj v hv=>by simpa [go_sem]using hv,λj=>by simp[go_sem]⟩
end Go.Proofs.YtlpkggpdjobpmaaGreatDoor
