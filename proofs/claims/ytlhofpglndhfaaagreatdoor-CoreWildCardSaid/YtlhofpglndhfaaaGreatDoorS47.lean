/- Joined texts. -/
import Derived.DataReads
import Derived.Deep.Strs
import Derived.Test.YtlhofpglndhfaaaGreatDoorS1
import Derived.Test.YtlhofpglndhfaaaGreatDoorS31
set_option linter.unusedVariables false
set_option linter.unusedSimpArgs false
namespace Go.Proofs.YtlhofpglndhfaaaGreatDoor
open Go.RowKit Go.ChangeShapes Go.WideShapes Go.ChangeAt Go.Deep
inductive TyV(P:Program):TypeId→List AV→Prop
 |bool {t:TypeId} (h:P.underlying t=some .bool) (b:Bool):TyV P t [.v (.bool b)]
 |int {t:TypeId} {k:IntKind} (h:P.underlying t=some (.int k)) (n:Int) (hn:(Lit.int k n).wf=true):TyV P t [.v (.int k n)]
 |string {t:TypeId} (h:P.underlying t=some .string) (s:ByteArray) (hs:s.size≤maxLen):TyV P t [.v (.string s)]
 |slice {t e:TypeId} (h:P.underlying t=some (.slice e)) (rows:List (List AV)) (hl:rows.length≤maxLen) (hr:∀ row∈rows,TyV P e row) (hrs:∀ row∈rows,row.length=P.cellsOf e):TyV P t [.sl (P.cellsOf e) rows false]
 |struct {t:TypeId} {fs:Array Field} (h:P.underlying t=some (.struct fs)) (parts:Nat→List AV) (hp:∀ (j:Nat) f,fs[j]?=some f→TyV P f.type (parts j)):TyV P t ((List.range fs.size).flatMap parts)
 |array {t e:TypeId} {n:Nat} (h:P.underlying t=some (.array n e)) (parts:Nat→List AV) (hp:∀ j,j<n→TyV P e (parts j)):TyV P t ((List.range n).flatMap parts)
def Jd(P:Program):Nat→List Field→Option Nat
 |o,[]=>some o
 |o,f::fs=>match Nat.beq f.offset o with|true=>Jd P (o+P.cellsOf f.type) fs|false=>none
def Fx(P:Program):Nat→TypeId→Bool
 |0,_=>false
 |d+1,t=>match P.underlying t with
  |some .bool|some (.int _)|some .string=>true
  |some (.slice e)=>Nat.blt 0 (P.cellsOf e)&&Fx P d e
  |some (.struct fs)=>(match Jd P 0 fs.toList with|some n=>Nat.beq n (P.cellsOf t)|none=>false)&&fs.toList.all (λ f=>Fx P d f.type)
  |some (.array n e)=>Nat.beq (n * P.cellsOf e) (P.cellsOf t)&&Fx P d e
  |_=>false
section
variable {H:Type}{enc:TypeId×Value→H}{P:Program}{w:World}{base:Nat}{spare:Nat→Bool}{held:Bool}
structure Opened(P:Program)(w:World)(t:TypeId)(cs:List AV)(vals:List Value):Prop where
 rep:RepL (· <w.heap.size) w noB cs vals
 one:∀ u∈vals,u.oneCell'=true
 ty:TyV P t cs
theorem Ei{S:Nat→Prop}{β:Bt}:∀ (n:Nat) (A:Nat→List AV) (V:Nat→List Value),(∀ i,i<n→RepL S w β (A i) (V i))→RepL S w β ((List.range n).flatMap A) ((List.range n).flatMap V)
 |0,_,_,_=>by simpa using RepL.nil S w β
 | n+1,A,V,h=>by
  rw[mD,oD,oD];have ih:=Ei n A V λ i hi=>h i (by omega);have h1:=h n (by omega);simp only[eZ,List.flatMap_nil,eQ];refine⟨by simp[ih.1,h1.1],λ i a u ha hu=>?_⟩;rcases al_Nat_lt_or_ge i ((List.range n).flatMap A).length with k|k
  ·rw[cL k]at ha;rw[cL (by rw[←ih.1];exact k)]at hu;exact ih.2 i a u ha hu
  ·rw[bW k]at ha;rw[bW (by rw[←ih.1];exact k), ←ih.1]at hu;exact h1.2 _ a u ha hu
theorem Je:∀ (fs:List Field) (o n:Nat) (vals:List Value),Jd P o fs=some n→o≤vals.length→n≤vals.length→o≤n∧
  (List.range fs.length).flatMap (λ j=>match (fs[j]? :Option Field)with|some f=>(vals.drop (Field.offset f)).take (P.cellsOf (Field.type f))|none=>[])=(vals.drop o).take (n - o)
 |[],o,n,vals,h,_,_=>by
  simp only[Jd,Option.some.injEq]at h;subst h;simp
 | f ::fs,o,n,vals,h,ho,hn=>by
  simp only[Jd]at h;split at h
  ·rename_i hb;have hb:=aM hb;have hle:o+P.cellsOf f.type≤n:=by
    have:∀ (fs:List Field) (o n:Nat),Jd P o fs=some n→o≤n:=by
     intro fs
     induction fs with
     |nil=>intro o n h;simp only[Jd,Option.some.injEq]at h;omega
     |cons f fs ih=>
      intro o n h;simp only[Jd]at h;split at h
      ·have:=ih _ _ h;omega
      ·cases h
    exact this fs _ _ h
   obtain⟨h1,h2⟩:=Je fs (o+P.cellsOf f.type) n vals h (by omega) hn;refine⟨by omega,?_⟩;rw[bN,List.range_succ_eq_map,eZ,List.flatMap_map];simp only[cM,Function.comp_def,dD];rw[h2,hb];have:n - o=P.cellsOf f.type+(n - (o+P.cellsOf f.type)):=by omega
   rw[this,List.take_add,kJ]
  ·cases h
theorem Jf(vals:List Value)(sz:Nat):∀ n,n * sz≤vals.length→(List.range n).flatMap (λ i=>(vals.drop (i * sz)).take sz)=vals.take (n * sz)
 |0,_=>by simp
 |n+1,h=>by
  rw[cD,kG]at h;rw[mD,oD,Jf vals sz n (by omega),cD,kG,List.take_add];simp
theorem sL:∀ (D fuel:Nat) (t:TypeId) (vals:List Value) (x:DataW H×List MemPlace),DataW.trod enc P w base spare held fuel t vals=some x→Fx P D t=true→∃ cs,Opened P w t cs vals
 |0,_,_,_,_,_,h=>by simp[Fx]at h
 | D + 1,fuel,t,vals,x,h,hp=>by
  have single:∀ (a:AV) (u:Value),Rep (· <w.heap.size) w noB a u→u.oneCell'=true→TyV P t [a]→Opened P w t [a] [u]:=λ a u h1 h2 h3=>⟨.cons h1 (.nil _ _ _),λ v hv=>by simp at hv;subst hv;exact h2,h3⟩;unfold Fx at hp
  cases hu:P.underlying t with
  |none=>rw[hu]at hp;cases hp
  | some d=>
   rw[hu]at hp;cases d<;>simp only[cR]at hp<;>try (cases hp;done)
   case bool=>
    obtain⟨b,rfl,_⟩:=DataW.trod_bool hu h;exact⟨_,single _ _ (.v _) rfl (.bool hu b)⟩
   case int k=>
    obtain⟨n,rfl,_,hw⟩:=DataW.trod_int hu h;exact⟨_,single _ _ (.v _) rfl (.int hu n hw)⟩
   case string=>
    obtain⟨s,rfl,_,hs⟩:=DataW.trod_string hu h;exact⟨_,single _ _ (.v _) rfl (.string hu s hs)⟩
   case slice e=>
    simp only[aK]at hp;obtain⟨hc0,hp⟩:=hp;have hc0:0<P.cellsOf e:=aR hc0;rcases DataW.trod_slice hu h with ⟨rfl,_⟩|⟨a,len,cap,elems,rest,n,rfl,rfl,_,hb,hl,hm,he,hel,_⟩
    ·exact⟨_,single (.sl (P.cellsOf e) [] false) _ (.sl _ [] false none 0 0 0 (λ _ _=>.bool false) (by simp) (by simp) (λ h=>by cases h) (λ _ h=>by simp at h) (λ h=>by simp at h) (λ i row j a h=>by simp at h) (λ _ _=>rfl) (λ i row j a h=>by simp at h)) rfl (.slice hu [] (by simp) (λ _ h=>by simp at h) (λ _ h=>by simp at h))⟩
    ·have row:∀ i,∃ cs us,i<len→Opened P w e cs us∧us.length=P.cellsOf e∧∀ (j:Nat),j<P.cellsOf e→w.cell? ((a.add (i * P.cellsOf e)).add j)=us[j]? :=by
      intro i;by_cases hi:i<len
      ·have h1:=hel i hi;have h2:elems[i]?=some (elems[i]'(by omega)):=aA (by omega);rw[h2,Option.bind_eq_some_iff]at h1;obtain⟨us,g1,g2⟩:=h1;obtain⟨cs,hcs⟩:=sL D n e us _ g2 hp;unfold World.cells? at g1;split at g1
       ·have l1:us.length=P.cellsOf e:=by simpa using mapM_some_length g1
        exact⟨cs,us,λ _=>⟨hcs,l1,λ j hj=>mapM_some_get g1 j j (by simp[hj])⟩⟩
       ·cases g1
      ·exact⟨[],[],λ h=>absurd h hi⟩
     obtain⟨A,hA⟩:=Classical.axiomOfChoice row;obtain⟨V,hV⟩:=Classical.axiomOfChoice hA;have lenA:∀ i,i<len→(A i).length=P.cellsOf e:=λ i hi=>(hV i hi).1.rep.1.trans (hV i hi).2.1;have spot:∀ i,i<len→0<P.cellsOf e→a.spot=none∨i * P.cellsOf e≠0:=by
      intro i hi h0;by_cases hz:i * P.cellsOf e=0
      ·left;have h1:=(hV i hi).2.2 0 h0;have h2:(V i)[0]?=some ((V i)[0]'(by rw[(hV i hi).2.1];exact h0)):=aA _;rw[h2]at h1;simp only[Addr.add,hz,kK,World.cell?]at h1;split at h1
       ·cases hs:a.spot<;>simp[hs]at h1⊢
       ·cases h1
      ·exact .inr hz
     have hspot:0<len→0<P.cellsOf e→a.spot=none:=λ h1 h2=>(spot 0 h1 h2).elim id λ h=>absurd (Nat.zero_mul _) h;have cell:∀ i,i<len→∀ (j:Nat),j<P.cellsOf e→w.cell? ⟨a.block,a.off+i * P.cellsOf e+j,none⟩=(V i)[j]? :=by
      intro i hi j hj;rw[←(hV i hi).2.2 j hj];have hsp:=hspot (by omega) (by omega);congr 1;obtain⟨b,o,sp⟩:=a;simp only at hsp;subst hsp;unfold Addr.add;by_cases h1:i * P.cellsOf e=0<;>by_cases h2:j=0<;>simp[h1,h2]
     have hmem:∀ row∈(List.range len).map A,∃ i,i<len∧A i=row:=λ row hr=>by simpa using hr
     have at':∀ (i:Nat) row,((List.range len).map A)[i]?=some row→i<len∧row=A i:=λ i row h=>by
      rw[bH]at h;rcases al_Nat_lt_or_ge i len with hi|hi
      ·rw[jB hi]at h;exact⟨hi,by simpa using h.symm⟩
      ·rw[bR (by simpa using hi)]at h;cases h
     have hval:∀ i,i<len→∀ (j:Nat) x,(A i)[j]?=some x→∃ u,(V i)[j]?=some u∧(if i<len∧j<P.cellsOf e then (V i).getD j (.bool false)else .bool false)=u∧j<P.cellsOf e:=by
      intro i hi j x hx;have hj:j<P.cellsOf e:=by rw[←lenA i hi];exact (Db.1 hx).1
      have hj':j<(V i).length:=by rw[(hV i hi).2.1];exact hj
      exact⟨(V i)[j],aA hj',by simp[hi,hj,hj'],hj⟩
     refine⟨_,single (.sl (P.cellsOf e) ((List.range len).map A) false) _ ?_ rfl (.slice hu _ (by simp;omega) (λ row hr=>?_) (λ row hr=>?_))⟩
     ·have:=Rep.sl (S:=(· <w.heap.size)) (w:=w) (β:=noB) (P.cellsOf e) ((List.range len).map A) false (if 0<len then some ⟨a.block,a.off,none⟩else some a) cap a.block a.off
       (λ i j=>if i<len∧j<P.cellsOf e then (V i).getD j (.bool false)else .bool false) (by simpa using hl) hm (λ h=>by cases h)
       (λ row hr=>by obtain⟨i,hi,rfl⟩:=hmem row hr;exact lenA i hi) ?_ ?_ ?_ ?_
      ·simp only[aO,iT]at this;by_cases h0:0<len
       ·rw[if_pos h0]at this;have hsp:=hspot h0 hc0;obtain⟨b,o,sp⟩:=a;simp only at hsp;subst hsp;exact this
       ·rw[if_neg h0]at this;exact this
      ·intro h0;simp only[aO,iT]at h0;rw[if_pos h0];refine⟨rfl,?_⟩;have h1:=cell 0 h0 0 hc0;have h2:(V 0)[0]?=some ((V 0)[0]'(by rw[(hV 0 h0).2.1];exact hc0)):=aA _;rw[h2]at h1;simp only[World.cell?]at h1;split at h1
       ·rename_i hb;exact fI hb
       ·cases h1
      ·intro i row j x h1 h2;obtain⟨hi,rfl⟩:=at' i row h1;obtain⟨u,g1,g2,g3⟩:=hval i hi j x h2;rw[cell i hi j g3,g2,g1]
      ·intro i j;split
       ·rename_i hc;have hj':j<(V i).length:=by rw[(hV i hc.1).2.1];exact hc.2
        rw[bP,aA hj'];exact (hV i hc.1).1.one _ (kV hj')
       ·rfl
      ·intro i row j x h1 h2;obtain⟨hi,rfl⟩:=at' i row h1;obtain⟨u,g1,g2,g3⟩:=hval i hi j x h2;rw[g2];exact (hV i hi).1.rep.2 j x u h2 g1
     ·obtain⟨i,hi,rfl⟩:=hmem row hr;exact (hV i hi).1.ty
     ·obtain⟨i,hi,rfl⟩:=hmem row hr;exact lenA i hi
   case struct fs=>
    simp only[aK]at hp;obtain⟨hp1,hp2⟩:=hp;split at hp1
    ·rename_i n hn;have hn':=aM hp1;obtain⟨xs,m,rfl,_,hlen,hxl,hfd⟩:=DataW.trod_struct hu h;have part:∀ j:Nat,∃ cs,∀ f:Field,fs[j]?=some f→Opened P w f.type cs ((vals.drop f.offset).take (P.cellsOf f.type)):=by
      intro j
      cases hf:fs[j]? with
      |none=>exact⟨[],λ f hf=>by cases hf⟩
      |some f=>
       have h1:=hfd j f hf;have hj:j<fs.size:=(CI.1 hf).1;rw[aA (by omega)]at h1;obtain⟨cs,hcs⟩:=sL D m f.type _ _ h1 (qI.1 hp2 f (Hj.2 (fZ hf)));exact⟨cs,λ f' hf'=>by injection hf' with hf';subst hf';exact hcs⟩
     obtain⟨A,hA⟩:=Classical.axiomOfChoice part;obtain⟨_,hr⟩:=Je fs.toList 0 n vals hn (aF _) (by omega);have hall:(List.range fs.size).flatMap (λ j=>match (fs[j]? :Option Field)with|some f=>(vals.drop (Field.offset f)).take (P.cellsOf (Field.type f))|none=>[])=vals:=by
      have:(List.range fs.toList.length).flatMap (λ j=>match (fs.toList[j]? :Option Field)with|some f=>(vals.drop f.offset).take (P.cellsOf f.type)|none=>[])=vals:=by
       rw[hr];simp[hn', ←hlen]
      simpa using this
     have hrep:=Ei (S:=(· <w.heap.size)) (w:=w) (β:=noB) fs.size A (λ j=>match (fs[j]? :Option Field)with|some f=>(vals.drop (Field.offset f)).take (P.cellsOf (Field.type f))|none=>[]) (λ j hj=>by
      have hf:fs[j]?=some fs[j]:=aS hj;simp only[hf];exact (hA j _ hf).rep)
     rw[hall]at hrep;refine⟨_,hrep,λ u hu'=>?_,.struct hu A λ j f hf=>(hA j f hf).ty⟩;rw[←hall]at hu';obtain⟨j,hj,hju⟩:=KA.1 hu';have hj':j<fs.size:=by simpa using hj
     have hf:fs[j]?=some fs[j]:=aS hj';simp only[hf]at hju;exact (hA j _ hf).one u hju
    ·cases hp1
   case array n e=>
    simp only[aK]at hp;obtain⟨hp1,hp2⟩:=hp;have hn:=aM hp1;obtain⟨xs,m,rfl,_,hlen,hxl,hfd⟩:=DataW.trod_array hu h;have part:∀ i,∃ cs,i<n→Opened P w e cs ((vals.drop (i * P.cellsOf e)).take (P.cellsOf e)):=by
     intro i;by_cases hi:i<n
     ·have h1:=hfd i hi;rw[aA (by omega)]at h1;obtain⟨cs,hcs⟩:=sL D m e _ _ h1 hp2;exact⟨cs,λ _=>hcs⟩
     ·exact⟨[],λ h=>absurd h hi⟩
    obtain⟨A,hA⟩:=Classical.axiomOfChoice part;have hall:=Jf vals (P.cellsOf e) n (by omega);rw[hn, ←hlen,dI]at hall;have hrep:=Ei (S:=(· <w.heap.size)) (w:=w) (β:=noB) n A _ (λ j hj=>(hA j hj).rep);rw[hall]at hrep;refine⟨_,hrep,λ u hu'=>?_,.array hu A λ j hj=>(hA j hj).ty⟩;rw[←hall]at hu';obtain⟨j,hj,hju⟩:=KA.1 hu';exact (hA j (by simpa using hj)).one u hju
end
end Go.Proofs.YtlhofpglndhfaaaGreatDoor
