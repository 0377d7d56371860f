import Derived.WalkKit
import Derived.WalkSpells
import Derived.WalkLawsBesides
import Derived.BigQuiet
import Derived.Deep.QuietTactic
import Derived.Deep.Slices
import Derived.Deep.Fields
import Derived.Deep.AppendLies
import Derived.ProofKit
import Derived.Lib.Hide
import Derived.OpenShut
import Derived.Test.YtiaekocjeinkjaaGreatDoorS1
set_option linter.all false
namespace Go.Proofs.YtiaekocjeinkjaaGreatDoor
open Go.RowKit Go.ChangeShapes Go.WideShapes Go.ChangeAt
def Vy(w:World)(b:Nat):Option TypeId:=match w.heap[b]? with|some (.cells _ e _)=>some e|_=>none
def tH{w:World}{a:Addr}{v:Value}(h:w.cell? a=some v):a.block<w.heap.size:=World.block_lt_of_cell? w a h
def Sl(B0:Nat)(e:TypeId)(size:Nat)(w:World)(v:Value)(n:Nat)(xs:List Value):Prop:=
 ∃A c,v=.slice A n c/\n<=c/\c<=maxLen/\xs.length=n*size/\
  (0<n->∃b d,A=some ⟨b,d,none⟩/\(b<B0\/Vy w b=some e)/\∀j u,xs[j]?=some u->w.cell? ⟨b,d+j,none⟩=some u)
section
variable {B0:Nat}{e:TypeId}{size:Nat}{w w':World}{v:Value}{n:Nat}{xs:List Value}
theorem Sl.nil(B0:Nat)(e:TypeId)(size:Nat)(w:World):Sl B0 e size w (.slice none 0 0) 0 []:=⟨none,0,R,aC _,aE _,by simp,λh=>absurd h oT⟩
theorem Sl.YT{base:Nat}(h:w.ownsRow base e size v n xs)(f:0<size):Sl B0 e size w v n xs:=by
 obtain⟨c,⟨rfl,rfl⟩|⟨g,bb,b4,rfl,hg,hh,hn,hm,cs,hx⟩⟩:=h
 .have:xs=[]:=gq (sU c);subst this;exact Sl.nil _ _ _ _
 refine⟨_,bb,R,hn,hm,c,λd=>⟨g,0,R,.inr (by simp[Vy,hh]),λj u b=>?_⟩⟩;subst hx;rw[cU]at b;split at b
 .simp only[World.cell?,hh,bJ];simpa using b
 cases b
theorem Sl.drew(h:Sl B0 e size w v n xs):Sl B0 e size w.drew v n xs:=h
end
theorem _root_.Go.RowKit.Below.and{a b c:World}(h:Below a.heap.size a b)(k:Below b.heap.size b c):Below a.heap.size a c:=h.trans (k.mono h.size)
def Ae{B:Nat}{a w:World}(h:Below B a w)(n:Nat):Below B a (w.drewN n):=⟨h.os,h.tape,h.output,h.size,h.block⟩
def rD(w:World):Below w.heap.size w w:=Below.refl _ _
def EC(w:World)(n:Nat):Below w.heap.size w (w.drewN n):=Ae (Below.refl _ _) n
def cK{w:World}(o:Obj):Below w.heap.size w (w.alloc o):=(Below.refl _ _).alloc (aC _) _
structure nu(P:Program)(t e:TypeId)(z:Value)(size bytes:Nat):Prop where
 ht:P.underlying t=some (.slice e)
 hi:(P.info? e).map (λi=>(i.zero,i.size,i.bytes))=some (some z,size,bytes)
 YC:z.cells.size=size
 YD:0<size
 YI:bytes<=1000
section
variable {P:Program}{w:World}{ops:Array Oper}{rest:List Oper}{o:Oper}{a:Act}{Q:Exit->Act->World->Prop}{t e:TypeId}{z:Value}{size bytes:Nat}
def FR{base:Nat}{v:Value}{n:Nat}{xs:List Value}{w':World}(c:w.ownsRow base e size v n xs)(d:w.grownBy w' v.ownBlock)(b:base<=w.heap.size):Below base w w':=
 (Below.refl _ _).grown d b (λq f=>(c.lt q f).1)
def Ox(E:nu P t e z size bytes)(b:o.guard=none)(l c:Operand)(d:o.op=Op.makeSlice t l c)(n:Nat)(y:n<=1000000)(g f:IntKind)(L:Int)(x:a.eval l=.int g L)(r:L=n)(C:Int)(u:a.eval c=.int f C)(q:C=n)
  (h:∀w',w'.ownsRow w.heap.size e size (.slice (some ⟨w.heap.size,0,none⟩) n n) n (madeCells z.cells (n*size)).toList->Below w.heap.size w w'->wpList P ops Q rest (a.put o.dst (.slice (some ⟨w.heap.size,0,none⟩) n n)) w'):wpList P ops Q (o::rest) a w:=by
 obtain⟨i,j,k,m,p⟩:=info_parts E.hi;have s:i.bytes*n<=281474976710656:=by rw[p];exact aL (cJ E.YI y) oT
 exact wpList_make_full w b l c t d w.heap.size e i z size E.ht j k m g f L C n x u r q s (by unfold maxLen;omega) (aC _) λw' A B=>
  h w' A ((Below.refl _ _).grown B (aC _) (λ_ e=>by cases e))
def Af{b:Array Value}(E:nu P t e z size bytes)(k:o.guard=none)(s x:Operand)(D:o.op=.call {callee:=.builtin .append,args:= #[s,x],argTypes:= #[t,t]})
  (base:Nat) (v:Value) (n:Nat) (xs:List Value) (F:a.eval s=v) (d:w.ownsRow base e size v n xs) (M:n<=1000000) (m:base<=w.heap.size)
  (G:Nat) (B:G=w.heap.size) (J:a.eval x=.slice (some ⟨G,0,none⟩) 1 1) (j:b.toList.length=size) (q:b.toList.all (·.oneCell')=true)
  (h:∀g c w',w'.ownsRow base e size (.slice (some ⟨g,0,none⟩) (n+1) c) (n+1) (xs++b.toList)->Below base (w.alloc (.cells b e)) w'->(w.alloc (.cells b e)).grownBy w' v.ownBlock->wpList P ops Q rest (a.put o.dst (.slice (some ⟨g,0,none⟩) (n+1) c)) w'):wpList P ops Q (o::rest) a (w.alloc (.cells b e)):=by
 subst B;obtain⟨i,l,r,y,A⟩:=info_parts E.hi;have C:(n+1)*bytes<=140737488355328:=aL (cJ (oT:n+1<=1000001) E.YI) oT;exact wpList_append_lies (w.alloc (.cells b e)) k s x t D base e i z size bytes E.ht l r y A E.YC E.YD v n xs F (d.alloc _) ⟨w.heap.size,0,none⟩ 1 1 b.toList J (by rw[j];simp) (World.news_of_block (heap_alloc_new w _)) (λu I=>rC.1 q u I) oT (by unfold maxLen;omega) C (by simp;omega) _ R
  λg c w' p f K L=>h g c w' p (FR (d.alloc _) f (by simp;omega)) f
end
section
variable {H:Type}{enc:TypeId×Value->H}{P:Program}
theorem BZ(p:laidOutB P=true){W k:World}(m:Below W.heap.size W k):∀(f:List TypeId) (g:List Value) (c:List (DataW H)) (d:List MemPlace),
  (∀t∈f,P.readableRec t=true/\t<P.types.size)->(∀x∈d,x.block<W.heap.size)->DataW.TrodAll enc P W 0 (λ_=>true) true f g c d->
  DataW.TrodAll enc P k 0 (λb=>decide (b<W.heap.size)) true f g c d
 |[],g,c,d,_,_,h=>by
  cases g<;>cases c<;>simp_all[DataW.TrodAll]
 |t::f,g,c,d,i,hp,h=>by
  obtain⟨B,q,d0,l,A,s,rfl,rfl,rfl,r,u⟩:=trodAll_cons h;refine trodAll_cons_mk (Below.trod p (i t (by simp)).1 (i t (by simp)).2 r m λx j=>hp x (by simp[j])) ?_;exact BZ p m f q l s (λy h'=>i y (by simp[h'])) (λx j=>hp x (by simp[j])) u
def TE{f:Func}{s:ChangeSpec}{apart j i:Bool}{W u:World}{args:Array Value}{d g:List (DataW H)}{c l pv:List MemPlace}{D:TypeId}
  (J:laidOutB P=true) (r:(f.params.toList.all λt=>P.readableRec t&&decide (t<P.types.size))=true)
  (q:DataW.Whole enc P f.params.toList s.vars apart W args.toList d g c)
  (I:DataW.TrodAll enc P W 0 (λ_=>true) true f.params.toList args.toList d l)
  (k:s.vars=[]) (N:g=[])  (m:c=l++pv) (A:pv=[])
  (L:f.resultTypes= #[D]) (B:P.underlying D=some .bool)
  (E:(s.fn H (d++g)).results=[.lit (.bool true)]) (F:(s.fn H (d++g)).args=d) (G:(s.fn H (d++g)).vars=[])
  (x:Below W.heap.size W u):s.post enc P f apart j i false W args (.bool true) u:=by
 subst A;have C:∀t∈f.params.toList,P.readableRec t=true/\t<P.types.size:=λt M=>by
  have:=rC.1 r t M;simpa using this
 have y:∀p∈l,p.block<W.heap.size:=λp hp=>q.lt p (by rw[m];simpa using hp);have K:∀p∈c,(λb=>decide (b<W.heap.size)) p.block=true:=λp hp=>by
  have:=q.lt p hp;simpa using this
 refine⟨d,g,c,[],l,[],q,?_,?_,?_,?_,λh=>by cases h⟩
 .rw[E,L];exact trodAll_mk1 (shut_bool B true)
 .rw[F];exact BZ J x _ _ _ _ C y I
 .rw[G,k];exact(by rfl)
 exact World.keptBut_mono (λp hp=>⟨hp,by rw[m]at hp;simpa using hp⟩) (x.frame (· ∈c))
end
end Go.Proofs.YtiaekocjeinkjaaGreatDoor
