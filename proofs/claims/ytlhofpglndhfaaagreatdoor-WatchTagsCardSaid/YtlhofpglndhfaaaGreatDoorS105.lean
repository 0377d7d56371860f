/- Joined texts. -/
import Derived.Test.YtlhofpglndhfaaaGreatDoorS101
import Derived.Test.YtlhofpglndhfaaaGreatDoorS104
set_option linter.unusedVariables false
set_option linter.unusedSimpArgs false
namespace Go.Proofs.YtlhofpglndhfaaaGreatDoor
open Go.RowKit
def uQ(x:Nat)(s:Nat×Nat)(p:Nat×Nat):Nat×Nat:=(setf s.1 s.2 p.2 (field x p.1 p.2),s.2+p.2)
def nL(x:Nat)(parts:List (Nat×Nat)):Nat×Nat:=parts.foldl (uQ x) (0,0)
def AJ(s:Nat×Nat)(p:Nat×Nat):Nat×Nat:=(setf s.1 p.1 p.2 s.2,s.2 / 2 ^ p.2)
def lI(v:Nat)(parts:List (Nat×Nat)):Nat×Nat:=parts.foldl AJ (0,v)
def tQ(parts:List (Nat×Nat)):Nat:=(parts.map (·.2)).sum
def Ks(parts:List (Nat×Nat)):Prop:=(∀ p∈parts,1≤p.2∧p.1+p.2≤32)∧tQ parts≤32
theorem uF(f:Nat):Ks (eB f):=by
 unfold eB;split<;>(refine⟨?_,?_⟩<;>simp[tQ])
theorem Cb(x:Nat):∀ (parts:List (Nat×Nat)) (s:Nat×Nat),s.1<4294967296→(∀ p∈parts,1≤p.2∧p.1+p.2≤32)→s.2+tQ parts≤32→(parts.foldl (uQ x) s).1<4294967296∧(parts.foldl (uQ x) s).2=s.2+tQ parts
 |[],s,h,_,_=>⟨h,by simp[tQ]⟩
 |p::l,s,h,hp,hs=>by
  have h1:=hp p (by simp);have h2:tQ (p::l)=p.2+tQ l:=by simp[tQ]
  have:=Cb x l (uQ x s p) (DK _ _ _ _ (by omega) h) (λ q hq=>hp q (by simp[hq])) (by simp only[uQ];omega);refine⟨this.1,this.2.trans ?_⟩;simp only[uQ];omega
theorem AK:∀ (parts:List (Nat×Nat)) (s:Nat×Nat),s.1<4294967296→s.2<4294967296→(∀ p∈parts,1≤p.2∧p.1+p.2≤32)→(parts.foldl AJ s).1<4294967296∧(parts.foldl AJ s).2<4294967296
 |[],s,h,h',_=>⟨h,h'⟩
 |p::l,s,h,h',hp=>by
  have h1:=hp p (by simp);exact AK l (AJ s p) (DK _ _ _ _ (by omega) h) (bM (fI _ _) h') (λ q hq=>hp q (by simp[hq]))
theorem Sl.span{B0:Nat}{e:TypeId}{w wr:World}{A:Option Addr}{n c:Nat}{l:List (Nat×Nat)}(h:Sl B0 e 2 w (.slice A n c) n (l.flatMap rD))(hn:n=l.length)(hb:Below w.heap.size w wr){k:Nat}(hk:k<n):
  ∃ b off s,A=some ⟨b,off,none⟩∧l[k]?=some s∧b<w.heap.size∧wr.cell? ⟨b,off+k * 2,none⟩=some (.int .i64 s.1)∧wr.cell? ⟨b,off+k * 2+1,none⟩=some (.int .i64 s.2):=by
 subst hn;obtain⟨A',c',hv,h1,h2,h3,h4⟩:=h;injection hv with hA hn' hc;subst hA hc;obtain⟨b,off,rfl, -,hc⟩:=h4 (by omega);have hx:l[k]?=some l[k]:=aA hk;have hfl:∀ (l:List (Nat×Nat)) (k:Nat) (a:Nat×Nat),l[k]?=some a→(l.flatMap rD)[k * 2]?=some (.int .i64 a.1)∧(l.flatMap rD)[k * 2+1]?=some (.int .i64 a.2):=by
  intro l
  induction l with
  |nil=>intro k a h;simp at h
  | cons b l ih=>
   intro k a h
   cases k with
   |zero=>simp at h;subst h;exact⟨rfl,rfl⟩
   |succ k=>
    simp at h;have:=ih k a h;simp only[gR,rD];rw[show (k+1) * 2=k * 2+1+1 by omega];simpa using this
 obtain⟨f1,f2⟩:=hfl l k _ hx;have g1:=hc _ _ f1;have g2:=hc _ _ f2;exact⟨b,off,_,rfl,hx,sK g1,(hb.cell (sK g1)).trans g1,by rw[dT];exact (hb.cell (sK g2)).trans g2⟩
theorem DJ{α β:Type}(f:β→α→β)(s:β)(l:List α)(k:Nat)(a:α)(h:l[k]?=some a):(l.take (k+1)).foldl f s=f ((l.take k).foldl f s) a:=by
 rw[bR,h];simp
end Go.Proofs.YtlhofpglndhfaaaGreatDoor
