/- Lemmas. -/
import Derived.WalkKit
import Derived.WalkSpells
import Derived.WalkLawsBesides
import Derived.BigQuiet
import Derived.Deep.QuietTactic
import Derived.Deep.Slices
import Derived.Deep.Fields
import Derived.Deep.AppendLies
import Derived.ProofKit
import Derived.Lib.Hide
import Derived.OpenShut
import Derived.Test.YtlpkggpdjobpmaaGreatDoorS1
set_option linter.all false
namespace Go.Proofs.YtlpkggpdjobpmaaGreatDoor
open Go.RowKit Go.ChangeShapes Go.WideShapes Go.ChangeAt
def Vy(w:World)(b:Nat):Option TypeId:=match w.heap[b]? with|some (.cells _ e _)=>some e|_=>none
def tH{w:World}{a:Addr}{v:Value}(h:w.cell? a=some v):a.block<w.heap.size:=World.block_lt_of_cell? w a h
def Sl(B0:Nat)(e:TypeId)(size:Nat)(w:World)(v:Value)(n:Nat)(xs:List Value):Prop:=
 ∃A c,v=.slice A n c∧n<=c∧c<=maxLen∧xs.length=n*size∧
  (0<n->∃b off,A=some ⟨b,off,none⟩∧(b<B0∨Vy w b=some e)∧∀j u,xs[j]?=some u->w.cell? ⟨b,off+j,none⟩=some u)
section
variable {B0:Nat}{e:TypeId}{size:Nat}{w w':World}{v:Value}{n:Nat}{xs:List Value}
theorem Sl.nil(B0)(e)(size)(w):Sl B0 e size w (.slice none 0 0) 0 []:=⟨none,0,rfl,aC _,aE _,by simp,λh=>absurd h oT⟩
theorem Sl.of_own{base}(h:w.ownsRow base e size v n xs)(hs:0<size):Sl B0 e size w v n xs:=by
 obtain⟨hl,⟨rfl,rfl⟩|⟨g,cap,cur,rfl,hg,hh,hn,hm,hsz,hx⟩⟩:=h
 ·have:xs=[]:=afC (sU hl);subst this;exact Sl.nil _ _ _ _
 refine⟨_,cap,rfl,hn,hm,hl,λhpos=>⟨g,0,rfl,.inr (by simp[Vy,hh]),λj u hu=>?_⟩⟩;subst hx;rw[cU]at hu;split at hu
 ·simp only[World.cell?,hh,bJ];simpa using hu
 cases hu
theorem Sl.drew(h:Sl B0 e size w v n xs):Sl B0 e size w.drew v n xs:=h
end
theorem _root_.Go.RowKit.Below.and{a b c}(h:Below a.heap.size a b)(k:Below b.heap.size b c):Below a.heap.size a c:=h.trans (k.mono h.size)
def Ae{B:Nat}{a w:World}(h:Below B a w)(n:Nat):Below B a (w.drewN n):=⟨h.os,h.tape,h.output,h.size,h.block⟩
def rD(w:World):Below w.heap.size w w:=Below.refl _ _
def EC(w:World)(n:Nat):Below w.heap.size w (w.drewN n):=Ae (Below.refl _ _) n
def cK{w:World}(o:Obj):Below w.heap.size w (w.alloc o):=(Below.refl _ _).alloc (aC _) _
structure EInfo(P:Program)(t e:TypeId)(z:Value)(size bytes:Nat):Prop where
 ht:P.underlying t=some (.slice e)
 hi:(P.info? e).map (λi=>(i.zero,i.size,i.bytes))=some (some z,size,bytes)
 hzs:z.cells.size=size
 hsz:0<size
 hby:bytes<=1000
section
variable {P:Program}{w:World}{ops:Array Oper}{rest:List Oper}{o:Oper}{a:Act}{Q:Exit->Act->World->Prop}{t e:TypeId}{z:Value}{size bytes:Nat}
def FR{base:Nat}{v:Value}{n:Nat}{xs:List Value}{w':World}(hown:w.ownsRow base e size v n xs)(hg:w.grownBy w' v.ownBlock)(hbase:base<=w.heap.size):Below base w w':=
 (Below.refl _ _).grown hg hbase (λq hq=>(hown.lt q hq).1)
def Ox(E:EInfo P t e z size bytes)(hgd:o.guard=none)(l c)(hop:o.op=Op.makeSlice t l c)(n:Nat)(hn:n<=1000000)(kl kc)(L)(hl:a.eval l=.int kl L)(hL:L=n)(C)(hc:a.eval c=.int kc C)(hC:C=n)
  (h:∀w',w'.ownsRow w.heap.size e size (.slice (some ⟨w.heap.size,0,none⟩) n n) n (madeCells z.cells (n*size)).toList->Below w.heap.size w w'->wpList P ops Q rest (a.put o.dst (.slice (some ⟨w.heap.size,0,none⟩) n n)) w'):wpList P ops Q (o::rest) a w:=by
 obtain⟨i,h1,h2,h3,h4⟩:=info_parts E.hi;have hb:i.bytes*n<=281474976710656:=by rw[h4];exact aL (cJ E.hby hn) oT
 exact wpList_make_full w hgd l c t hop w.heap.size e i z size E.ht h1 h2 h3 kl kc L C n hl hc hL hC hb (by unfold maxLen;omega) (aC _) λw' r1 r2=>
  h w' r1 ((Below.refl _ _).grown r2 (aC _) (λ_ e=>by cases e))
def Af{cs}(E:EInfo P t e z size bytes)(hgd:o.guard=none)(s x)(ho:o.op=.call {callee:=.builtin .append,args:= #[s,x],argTypes:= #[t,t]})
  (base) (v) (n) (xs) (hs:a.eval s=v) (hown:w.ownsRow base e size v n xs) (hn:n<=1000000) (hbase:base<=w.heap.size)
  (G) (hG:G=w.heap.size) (hx:a.eval x=.slice (some ⟨G,0,none⟩) 1 1) (hcs:cs.toList.length=size) (h1:cs.toList.all (·.oneCell')=true)
  (h:∀g cap w',w'.ownsRow base e size (.slice (some ⟨g,0,none⟩) (n+1) cap) (n+1) (xs++cs.toList)->Below base (w.alloc (.cells cs e)) w'->(w.alloc (.cells cs e)).grownBy w' v.ownBlock->wpList P ops Q rest (a.put o.dst (.slice (some ⟨g,0,none⟩) (n+1) cap)) w'):wpList P ops Q (o::rest) a (w.alloc (.cells cs e)):=by
 subst hG;obtain⟨i,hi1,h2,h3,h4⟩:=info_parts E.hi;have hb:(n+1)*bytes<=140737488355328:=aL (cJ (oT:n+1<=1000001) E.hby) oT;exact wpList_append_lies _ hgd s x t ho base e i z size bytes E.ht hi1 h2 h3 h4 E.hzs E.hsz v n xs hs (hown.alloc _) ⟨w.heap.size,0,none⟩ 1 1 cs.toList hx (by rw[hcs];simp) (World.news_of_block (heap_alloc_new w _)) (λu hu=>rC.1 h1 u hu) oT (by unfold maxLen;omega) hb (by simp;omega) _ rfl
  λg cap w' a1 a2 a3 a4=>h g cap w' a1 (FR (hown.alloc _) a2 (by simp;omega)) a2
end
section
variable {H:Type}{enc:TypeId×Value->H}{P:Program}
theorem BZ(hl:laidOutB P=true){W W':World}(hb:Below W.heap.size W W'):∀(ts:List TypeId) (vs:List Value) (ds:List (DataW H)) (ps:List MemPlace),
  (∀t∈ts,P.readableRec t=true∧t<P.types.size)->(∀x∈ps,x.block<W.heap.size)->DataW.TrodAll enc P W 0 (λ_=>true) true ts vs ds ps->
  DataW.TrodAll enc P W' 0 (λb=>decide (b<W.heap.size)) true ts vs ds ps
 |[],vs,ds,ps,_,_,h=>by
  cases vs<;>cases ds<;>simp_all[DataW.TrodAll]
 |t::ts,vs,ds,ps,ht,hp,h=>by
  obtain⟨v0,vs0,d0,ds0,p0,q0,rfl,rfl,rfl,h0,r0⟩:=trodAll_cons h;refine trodAll_cons_mk (Below.trod hl (ht t (by simp)).1 (ht t (by simp)).2 h0 hb λx hx=>hp x (by simp[hx])) ?_;exact BZ hl hb ts vs0 ds0 q0 (λt' h'=>ht t' (by simp[h'])) (λx hx=>hp x (by simp[hx])) r0
def TE{f}{s:ChangeSpec}{apart fresh handsOn}{W W'}{args}{ds gs}{before pa pv}{tb}
  (hl:laidOutB P=true) (htb0:(f.params.toList.all λt=>P.readableRec t&&decide (t<P.types.size))=true)
  (hW:DataW.Whole enc P f.params.toList s.vars apart W args.toList ds gs before)
  (hA:DataW.TrodAll enc P W 0 (λ_=>true) true f.params.toList args.toList ds pa)
  (hvars:s.vars=[]) (hgs:gs=[])  (hps:before=pa++pv) (hpv:pv=[])
  (hr:f.resultTypes= #[tb]) (htb:P.underlying tb=some .bool)
  (e1:(s.fn H (ds++gs)).results=[.lit (.bool true)]) (e2:(s.fn H (ds++gs)).args=ds) (e3:(s.fn H (ds++gs)).vars=[])
  (hb:Below W.heap.size W W'):s.post enc P f apart fresh handsOn false W args (.bool true) W':=by
 subst hpv;have hts:∀t∈f.params.toList,P.readableRec t=true∧t<P.types.size:=λt ht=>by
  have:=rC.1 htb0 t ht;simpa using this
 have hlt:∀p∈pa,p.block<W.heap.size:=λp hp=>hW.lt p (by rw[hps];simpa using hp);have hold:∀p∈before,(λb=>decide _) p.block=true:=λp hp=>by
  have:=hW.lt p hp;simpa using this
 refine⟨ds,gs,before,[],pa,[],hW,?_,?_,?_,?_,λh=>by cases h⟩
 ·rw[e1,hr];exact trodAll_mk1 (shut_bool htb true)
 ·rw[e2];exact BZ hl hb _ _ _ _ hts hlt hA
 ·rw[e3,hvars];exact(by rfl)
 exact World.keptBut_mono (λp hp=>⟨hp,by rw[hps]at hp;simpa using hp⟩) (hb.frame (· ∈before))
end
end Go.Proofs.YtlpkggpdjobpmaaGreatDoor
