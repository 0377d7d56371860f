import Derived.Test.YtiaekocjeinkjaaGreatDoorS2
set_option linter.all false
namespace Go.Proofs.YtiaekocjeinkjaaGreatDoor
open Go.RowKit
structure gp(w:World)(b:Nat)(vs:List Value):Prop where
 lt:b<w.heap.size
 c:∀j v,vs[j]?=some v->w.cell? ⟨b,j,none⟩=some v
 g:∀j,w.frozen? ⟨b,j,none⟩=false
theorem gp.kept{w w':World}{b:Nat}{a:List Value}(h:gp w b a)(B:Below w.heap.size w w'):gp w' b a:=
 ⟨e5 h.lt B.size,λj v c=>(B.cell (p:=⟨b,j,none⟩) h.lt).trans (h.c j v c),λj=>(B.frozen (p:=⟨b,j,none⟩) h.lt).trans (h.g j)⟩
theorem gp.set{w:World}{b:Nat}{vs:List Value}(h:gp w b vs)(k:Nat)(v:Value)(hk:k<vs.length):gp (w.setCell ⟨b,k,none⟩ v) b (vs.set k v):=by
 obtain⟨u,hu⟩:∃u,vs[k]?=some u:=⟨_,aA hk⟩;have hc:=h.c k u hu;refine⟨by simpa [go_sem]using h.lt,λj x hx=>?_,λj=>by simpa [go_sem]using h.g j⟩;by_cases e:j=k
 .subst e;rw[aZ hk]at hx;injection hx with hx;rw[<-hx];exact World.cell?_setCell_same _ _ _ hc
 rw[kX oT]at hx;exact(World.cell?_setCell_other w ⟨b,k,none⟩ ⟨b,j,none⟩ v (by first|(simp;done)|(simp;omega))).trans (h.c j x hx)
theorem gp.set_other{w:World}{b b' k:Nat}{vs:List Value}(h:gp w b vs)(v:Value)(hb:b≠b'):gp (w.setCell ⟨b',k,none⟩ v) b vs:=
 ⟨by simpa [go_sem]using h.lt,λj x hx=>(World.cell?_setCell_other w ⟨b',k,none⟩ ⟨b,j,none⟩ v (by first|(simp;done)|(simp;omega))).trans (h.c j x hx),λj=>by simpa [go_sem]using h.g j⟩
theorem gp.drew{w:World}{b:Nat}{a:List Value}(h:gp w b a):gp w.drew b a:=⟨h.lt,h.c,h.g⟩
theorem gp.new(w:World)(cs:Array Value)(t:TypeId):gp (w.alloc (.cells cs t)) w.heap.size cs.toList:=
 ⟨by simp,λj v hv=>by simpa [go_sem]using hv,λj=>by simp[go_sem]⟩
end Go.Proofs.YtiaekocjeinkjaaGreatDoor
