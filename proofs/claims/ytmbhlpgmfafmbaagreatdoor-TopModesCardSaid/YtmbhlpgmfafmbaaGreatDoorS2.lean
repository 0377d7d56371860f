/- Lemmas. -/
import Derived.WalkKit
import Derived.WalkSpells
import Derived.WalkLawsBesides
import Derived.BigQuiet
import Derived.Deep.QuietTactic
import Derived.Deep.Slices
import Derived.Deep.Fields
import Derived.Deep.AppendLies
import Derived.ProofKit
import Derived.Lib.Hide
import Derived.OpenShut
import Derived.Test.YtmbhlpgmfafmbaaGreatDoorS1
set_option linter.all false
namespace Go.Proofs.YtmbhlpgmfafmbaaGreatDoor
open Go.RowKit Go.ChangeShapes Go.WideShapes Go.ChangeAt
def Vy(w:World)(b:Nat):Option TypeId:=match w.heap[b]? with|some (.cells _ e _)=>some e|_=>none
def tH{w:World}{a:Addr}{v:Value}(h:w.cell? a=some v):a.block<w.heap.size:=World.block_lt_of_cell? w a h
def Sl(B0:Nat)(e:TypeId)(size:Nat)(w:World)(v:Value)(n:Nat)(xs:List Value):Prop:=
 ∃A c,v=.slice A n c∧n<=c∧c<=maxLen∧xs.length=n*size∧
  (0<n->∃b d,A=some ⟨b,d,none⟩∧(b<B0∨Vy w b=some e)∧∀j u,xs[j]?=some u->w.cell? ⟨b,d+j,none⟩=some u)
section
variable {B0:Nat}{e:TypeId}{size:Nat}{w w':World}{v:Value}{n:Nat}{xs:List Value}
theorem Sl.nil(B0)(e)(size)(w):Sl B0 e size w (.slice none 0 0) 0 []:=⟨none,0,rfl,aC _,aE _,by simp,λh=>absurd h oT⟩
theorem Sl.YS{c}(h:w.ownsRow c e size v n xs)(x:0<size):Sl B0 e size w v n xs:=by
 obtain⟨i,⟨rfl,rfl⟩|⟨g,d,q,rfl,s,f,l,k,r,p⟩⟩:=h
 ·have:=gp (sU i);subst this;exact Sl.nil _ _ _ _
 refine⟨_,d,rfl,l,k,i,λm=>⟨g,0,rfl,.inr (by simp[Vy,f]),λj u b=>?_⟩⟩;subst p;rw[cU]at b;split at b
 ·simp[World.cell?,f,bJ];simpa using b
 cases b
theorem Sl.drew(h:Sl B0 e size w v n xs):Sl B0 e size w.drew v n xs:=h
end
theorem _root_.Go.RowKit.Below.and{a b c}(h:Below a.heap.size a b)(k:Below b.heap.size b c):Below a.heap.size a c:=h.trans (k.mono h.size)
def Ae{B:Nat}{a w:World}(h:Below B a w)(n:Nat):Below B a (w.drewN n):=⟨h.os,h.tape,h.output,h.size,h.block⟩
def rD(w:World):Below w.heap.size w w:=Below.refl _ _
def EC(w:World)(n:Nat):Below w.heap.size w (w.drewN n):=Ae (Below.refl _ _) n
def cK{w:World}(o:Obj):Below w.heap.size w (w.alloc o):=(Below.refl _ _).alloc (aC _) _
structure nv(P:Program)(t e:TypeId)(z:Value)(size bytes:Nat):Prop where
 ht:P.underlying t=some (.slice e)
 hi:(P.info? e).map (λi=>(i.zero,i.size,i.bytes))=some (some z,size,bytes)
 Yx:z.cells.size=size
 Yy:0<size
 YH:bytes<=1000
section
variable {P:Program}{w:World}{ops:Array Oper}{rest:List Oper}{o:Oper}{a:Act}{Q:Exit->Act->World->Prop}{t e:TypeId}{z:Value}{size bytes:Nat}
def FR{b:Nat}{v:Value}{n:Nat}{xs:List Value}{w':World}(d:w.ownsRow b e size v n xs)(f:w.grownBy w' v.ownBlock)(c:b<=w.heap.size):Below b w w':=
 (Below.refl _ _).grown f c (λq g=>(d.lt q g).1)
def Ox(E:nv P t e z size bytes)(b:o.guard=none)(l c)(d:o.op=Op.makeSlice t l c)(n:Nat)(y:n<=1000000)(g f)(L)(x:a.eval l=.int g L)(r:L=n)(C)(u:a.eval c=.int f C)(q:C=n)
  (h:∀w',w'.ownsRow w.heap.size e size (.slice (some ⟨w.heap.size,0,none⟩) n n) n (madeCells z.cells (n*size)).toList->Below w.heap.size w w'->wpList P ops Q rest (a.put o.dst (.slice (some ⟨w.heap.size,0,none⟩) n n)) w'):wpList P ops Q (o::rest) a w:=by
 let⟨i,j,k,m,p⟩:=info_parts E.hi;have s:i.bytes*n<=281474976710656:=by rw[p];exact aL (cJ E.YH y) oT
 exact wpList_make_full w b l c t d w.heap.size e i z size E.ht j k m g f L C n x u r q s (by unfold maxLen;omega) (aC _) λw' A B=>
  h w' A ((Below.refl _ _).grown B (aC _) nofun)
def Af{c}(E:nv P t e z size bytes)(l:o.guard=none)(s x)(D:o.op=.call {callee:=.builtin .append,args:= #[s,x],argTypes:= #[t,t]})
  (b) (v) (n) (xs) (F:a.eval s=v) (f:w.ownsRow b e size v n xs) (M:n<=1000000) (p:b<=w.heap.size)
  (G) (C:G=w.heap.size) (J:a.eval x=.slice (some ⟨G,0,none⟩) 1 1) (k:c.toList.length=size) (r:c.toList.all (·.oneCell')=true)
  (h:∀g d w',w'.ownsRow b e size (.slice (some ⟨g,0,none⟩) (n+1) d) (n+1) (xs++c.toList)->Below b (w.alloc (.cells c e)) w'->(w.alloc (.cells c e)).grownBy w' v.ownBlock->wpList P ops Q rest (a.put o.dst (.slice (some ⟨g,0,none⟩) (n+1) d)) w'):wpList P ops Q (o::rest) a (w.alloc (.cells c e)):=by
 subst C;let⟨i,m,y,A,B⟩:=info_parts E.hi;exact wpList_append_lies _ l s x t D b e i z size bytes E.ht m y A B E.Yx E.Yy v n xs F (f.alloc _) ⟨w.heap.size,0,none⟩ 1 1 c.toList J (by rw[k];simp) (World.news_of_block (heap_alloc_new w _)) (λu I=>rC.1 r u I) oT (by unfold maxLen;omega) (aL (cJ (oT:n+1<=1000001) E.YH) oT) (by simp;omega) _ rfl
  λg d w' q j K L=>h g d w' q (FR (f.alloc _) j (by simp;omega)) j
end
section
variable {H:Type}{enc:TypeId×Value->H}{P:Program}
theorem BZ(p:laidOutB P=true){W k:World}(m:Below W.heap.size W k):∀(f:List TypeId) (g:List Value) (c:List (DataW H)) (d:List MemPlace),
  (∀t∈f,P.readableRec t=true∧t<P.types.size)->(∀x∈d,x.block<W.heap.size)->DataW.TrodAll enc P W 0 (λ_=>true) true f g c d->
  DataW.TrodAll enc P k 0 (λb=>decide (b<W.heap.size)) true f g c d
 |[],g,c,d,_,_,h=>by
  cases g<;>cases c<;>simp_all[DataW.TrodAll]
 |t::f,g,c,d,i,hp,h=>by
  obtain⟨B,q,d0,l,A,s,rfl,rfl,rfl,r,u⟩:=trodAll_cons h;refine trodAll_cons_mk (Below.trod p (i t (by simp)).1 (i t (by simp)).2 r m λx j=>hp x (by simp[j])) ?_;exact BZ p m f q l s (λy h'=>i y (by simp[h'])) (λx j=>hp x (by simp[j])) u
def TE{f}{s:ChangeSpec}{apart i g}{W r}{args}{c d}{b q pv}{B}
  (F:laidOutB P=true) (m:(f.params.toList.all λt=>P.readableRec t&&decide (t<P.types.size))=true)
  (l:DataW.Whole enc P f.params.toList s.vars apart W args.toList c d b)
  (hA:DataW.TrodAll enc P W 0 (λ_=>true) true f.params.toList args.toList c q)
  (j:s.vars=[]) (K:d=[])  (k:b=q++pv) (x:pv=[])
  (I:f.resultTypes= #[B]) (y:P.underlying B=some .bool)
  (C:(s.fn H (c++d)).results=[.lit (.bool true)]) (D:(s.fn H (c++d)).args=c) (E:(s.fn H (c++d)).vars=[])
  (u:Below W.heap.size W r):s.post enc P f apart i g false W args (.bool true) r:=by
 subst x;have A:=λt J=>by
  have:=rC.1 m t J;simpa using this
 have G:=λp hp=>by
  have:=l.lt p hp;simpa using this
 refine⟨c,d,b,[],q,[],l,?_,?_,?_,?_,λh=>by cases h⟩
 ·rw[C,I];exact trodAll_mk1 (shut_bool y true)
 ·rw[D];exact BZ F u _ _ _ _ A (λp hp=>l.lt p (by rw[k];simpa using hp)) hA
 ·rw[E,j];exact(by rfl)
 exact World.keptBut_mono (λp hp=>⟨hp,by rw[k]at hp;simpa using hp⟩) (u.frame (· ∈b))
end
end Go.Proofs.YtmbhlpgmfafmbaaGreatDoor
