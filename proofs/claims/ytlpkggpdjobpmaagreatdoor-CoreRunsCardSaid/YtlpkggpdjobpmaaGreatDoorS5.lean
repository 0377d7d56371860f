/- Lemmas. -/
import Derived.Test.YtlpkggpdjobpmaaGreatDoorS1
import Derived.Test.YtlpkggpdjobpmaaGreatDoorS4
set_option linter.all false
namespace Go.Proofs.YtlpkggpdjobpmaaGreatDoor
open Go.RowKit
def Ag(x:Nat)(s:Nat×Nat)(p:Nat×Nat):Nat×Nat:=(setf s.1 s.2 p.2 (field x p.1 p.2),s.2+p.2)
def rZ(x:Nat)(parts:List (Nat×Nat)):Nat×Nat:=parts.foldl (Ag x) (0,0)
def Ib(s:Nat×Nat)(p:Nat×Nat):Nat×Nat:=(setf s.1 p.1 p.2 s.2,s.2/2 ^ p.2)
def tT(v:Nat)(parts:List (Nat×Nat)):Nat×Nat:=parts.foldl Ib (0,v)
def xH(parts:List (Nat×Nat)):Nat:=(parts.map (·.2)).sum
def LA(parts:List (Nat×Nat)):Prop:=(∀p∈parts,1<=p.2∧p.1+p.2<=32)∧xH parts<=32
def vF(f):LA (eQ f):=by
 unfold eQ;split<;>(refine⟨?_,?_⟩<;>simp[xH])
theorem CR(x:Nat):∀(parts:List (Nat×Nat)) (s:Nat×Nat),s.1<4294967296->(∀p∈parts,1<=p.2∧p.1+p.2<=32)->s.2+xH parts<=32->(parts.foldl (Ag x) s).1<4294967296∧(parts.foldl (Ag x) s).2=s.2+xH parts
 |[],s,h,_,_=>⟨h,by simp[xH]⟩
 |p::l,s,h,hp,hs=>by
  have h1:=hp p (by simp);have h2:xH (p::l)=p.2+xH l:=by simp[xH]
  have:=CR x l (Ag x s p) (EJ _ _ _ _ oT h) (λq hq=>hp q (by simp[hq])) (by simp only[Ag];omega);refine⟨this.1,this.2.trans ?_⟩;simp only[Ag];omega
theorem BB:∀(parts:List (Nat×Nat)) (s:Nat×Nat),s.1<4294967296->s.2<4294967296->(∀p∈parts,1<=p.2∧p.1+p.2<=32)->(parts.foldl Ib s).1<4294967296∧(parts.foldl Ib s).2<4294967296
 |[],s,h,h',_=>⟨h,h'⟩
 |p::l,s,h,h',hp=>by
  have h1:=hp p (by simp);exact BB l (Ib s p) (EJ _ _ _ _ oT h) (bL (cO _ _) h') (λq hq=>hp q (by simp[hq]))
theorem Sl.span{B0}{e}{w wr}{A}{n c}{l:List (Nat×Nat)}(h:Sl B0 e 2 w (.slice A n c) n (l.flatMap sE))(hn:n=l.length)(hb:Below w.heap.size w wr){k}(hk:k<n):
  ∃b off s,A=some ⟨b,off,none⟩∧l[k]?=some s∧b<w.heap.size∧wr.cell? ⟨b,off+k*2,none⟩=some (.int .i64 s.1)∧wr.cell? ⟨b,off+k*2+1,none⟩=some (.int .i64 s.2):=by
 subst hn;obtain⟨A',c',hv,h1,h2,h3,h4⟩:=h;injection hv with hA hn' hc;subst hA hc;obtain⟨b,off,rfl, -,hc⟩:=h4 oT;have hx:l[k]?=some l[k]:=aA hk;have hfl:∀(l:List _) (k:Nat) (a:Nat×Nat),l[k]?=some a->(l.flatMap sE)[k*2]?=some (.int .i64 a.1)∧(l.flatMap sE)[k*2+1]?=some (.int .i64 a.2):=by
  intro l
  induction l with
  |nil=>intro k a h;simp at h
  | cons b l ih=>
   intro k a h
   cases k with
   |zero=>simp at h;subst h;exact⟨rfl,rfl⟩
   |succ k=>
    simp at h;have:=ih k a h;simp only[gW,sE];rw[(oT:(k+1)*2=k*2+1+1)];simpa using this
 obtain⟨f1,f2⟩:=hfl l k _ hx;have g1:=hc _ _ f1;have g2:=hc _ _ f2;exact⟨b,off,_,rfl,hx,tH g1,(hb.cell (tH g1)).trans g1,by rw[dW];exact(hb.cell (tH g2)).trans g2⟩
def EI{α β}(f)(s:β)(l:List α)(k)(a)(h:l[k]?=some a):(l.take (k+1)).foldl f s=f ((l.take k).foldl f s) a:=by
 rw[bW,h];simp
end Go.Proofs.YtlpkggpdjobpmaaGreatDoor
