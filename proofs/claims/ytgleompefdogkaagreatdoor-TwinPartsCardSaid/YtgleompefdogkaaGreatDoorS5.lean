/- Joined texts. -/
import Derived.Test.YtgleompefdogkaaGreatDoorS1
import Derived.Test.YtgleompefdogkaaGreatDoorS4
set_option linter.unusedVariables false
set_option linter.unusedSimpArgs false
set_option linter.defProp false
namespace Go.Proofs.YtgleompefdogkaaGreatDoor
open Go.RowKit
def wB(x:Nat)(s:Nat×Nat)(p:Nat×Nat):Nat×Nat:=(setf s.1 s.2 p.2 (field x p.1 p.2),s.2+p.2)
def nU(x:Nat)(parts:List (Nat×Nat)):Nat×Nat:=parts.foldl (wB x) (0,0)
def Bu(s:Nat×Nat)(p:Nat×Nat):Nat×Nat:=(setf s.1 p.1 p.2 s.2,s.2/2 ^ p.2)
def lJ(v:Nat)(parts:List (Nat×Nat)):Nat×Nat:=parts.foldl Bu (0,v)
def uR(parts:List (Nat×Nat)):Nat:=(parts.map (·.2)).sum
def Ll(parts:List (Nat×Nat)):Prop:=(∀p∈parts,1<=p.2∧p.1+p.2<=32)∧uR parts<=32
def vH(f:Nat):Ll (eB f):=by
 unfold eB;split<;>(refine⟨?_,?_⟩<;>simp[uR])
theorem CM(x:Nat):∀(parts:List (Nat×Nat)) (s:Nat×Nat),s.1<4294967296->(∀p∈parts,1<=p.2∧p.1+p.2<=32)->s.2+uR parts<=32->(parts.foldl (wB x) s).1<4294967296∧(parts.foldl (wB x) s).2=s.2+uR parts
 |[],s,h,_,_=>⟨h,by simp[uR]⟩
 |p::l,s,h,hp,hs=>by
  have h1:=hp p (by simp);have h2:uR (p::l)=p.2+uR l:=by simp[uR]
  have:=CM x l (wB x s p) (EP _ _ _ _ (by omega) h) (λq hq=>hp q (by simp[hq])) (by simp only[wB];omega);refine⟨this.1,this.2.trans ?_⟩;simp only[wB];omega
theorem Bv:∀(parts:List (Nat×Nat)) (s:Nat×Nat),s.1<4294967296->s.2<4294967296->(∀p∈parts,1<=p.2∧p.1+p.2<=32)->(parts.foldl Bu s).1<4294967296∧(parts.foldl Bu s).2<4294967296
 |[],s,h,h',_=>⟨h,h'⟩
 |p::l,s,h,h',hp=>by
  have h1:=hp p (by simp);exact Bv l (Bu s p) (EP _ _ _ _ (by omega) h) (bM (fJ _ _) h') (λq hq=>hp q (by simp[hq]))
theorem Sl.span{B0:Nat}{e:TypeId}{w wr:World}{A:Option Addr}{n c:Nat}{l:List (Nat×Nat)}(h:Sl B0 e 2 w (.slice A n c) n (l.flatMap sT))(hn:n=l.length)(hb:Below w.heap.size w wr){k:Nat}(hk:k<n):
  ∃b off s,A=some ⟨b,off,none⟩∧l[k]?=some s∧b<w.heap.size∧wr.cell? ⟨b,off+k*2,none⟩=some (.int .i64 s.1)∧wr.cell? ⟨b,off+k*2+1,none⟩=some (.int .i64 s.2):=by
 subst hn;obtain⟨A',c',hv,h1,h2,h3,h4⟩:=h;injection hv with hA hn' hc;subst hA hc;obtain⟨b,off,rfl, -,hc⟩:=h4 (by omega);have hx:l[k]?=some l[k]:=aA hk;have hfl:∀(l:List (Nat×Nat)) (k:Nat) (a:Nat×Nat),l[k]?=some a->(l.flatMap sT)[k*2]?=some (.int .i64 a.1)∧(l.flatMap sT)[k*2+1]?=some (.int .i64 a.2):=by
  intro l
  induction l with
  |nil=>intro k a h;simp at h
  | cons b l ih=>
   intro k a h
   cases k with
   |zero=>simp at h;subst h;exact⟨rfl,rfl⟩
   |succ k=>
    simp at h;have:=ih k a h;simp only[eX,sT];rw[show(k+1)*2=k*2+1+1 by omega];simpa using this
 obtain⟨f1,f2⟩:=hfl l k _ hx;have g1:=hc _ _ f1;have g2:=hc _ _ f2;exact⟨b,off,_,rfl,hx,tL g1,(hb.cell (tL g1)).trans g1,by rw[dV];exact(hb.cell (tL g2)).trans g2⟩
def EO{α β:Type}(f:β->α->β)(s:β)(l:List α)(k:Nat)(a:α)(h:l[k]?=some a):(l.take (k+1)).foldl f s=f ((l.take k).foldl f s) a:=by
 rw[bV,h];simp
end Go.Proofs.YtgleompefdogkaaGreatDoor
