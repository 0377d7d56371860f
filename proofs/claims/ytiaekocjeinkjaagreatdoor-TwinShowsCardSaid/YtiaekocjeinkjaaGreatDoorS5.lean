import Derived.Test.YtiaekocjeinkjaaGreatDoorS3
set_option linter.all false
namespace Go.Proofs.YtiaekocjeinkjaaGreatDoor
open Go.RowKit
def Ag(x:Nat)(s:Nat×Nat)(p:Nat×Nat):Nat×Nat:=(bo s.1 s.2 p.2 (ar x p.1 p.2),s.2+p.2)
def rZ(x:Nat)(parts:List (Nat×Nat)):Nat×Nat:=parts.foldl (Ag x) (0,0)
def Ib(s:Nat×Nat)(p:Nat×Nat):Nat×Nat:=(bo s.1 p.1 p.2 s.2,s.2/2 ^ p.2)
def tT(v:Nat)(parts:List (Nat×Nat)):Nat×Nat:=parts.foldl Ib (0,v)
def xH(parts:List (Nat×Nat)):Nat:=(parts.map (·.2)).sum
def LA(parts:List (Nat×Nat)):Prop:=(∀p∈parts,1<=p.2/\p.1+p.2<=32)/\xH parts<=32
def vF(f:Nat):LA (eQ f):=by
 unfold eQ;split<;>(refine⟨?_,?_⟩<;>simp[xH])
theorem CR(x:Nat):∀(parts:List (Nat×Nat)) (s:Nat×Nat),s.1<4294967296->(∀p∈parts,1<=p.2/\p.1+p.2<=32)->s.2+xH parts<=32->(parts.foldl (Ag x) s).1<4294967296/\(parts.foldl (Ag x) s).2=s.2+xH parts
 |[],s,h,_,_=>⟨h,by simp[xH]⟩
 |p::l,s,h,hp,d=>by
  have b:=hp p (by simp);have c:xH (p::l)=p.2+xH l:=by simp[xH]
  have:=CR x l (Ag x s p) (EJ _ _ _ _ oT h) (λq a=>hp q (by simp[a])) (by simp only[Ag];omega);refine⟨this.1,this.2.trans ?_⟩;simp only[Ag];omega
theorem BB:∀(parts:List (Nat×Nat)) (s:Nat×Nat),s.1<4294967296->s.2<4294967296->(∀p∈parts,1<=p.2/\p.1+p.2<=32)->(parts.foldl Ib s).1<4294967296/\(parts.foldl Ib s).2<4294967296
 |[],s,h,h',_=>⟨h,h'⟩
 |p::l,s,h,h',hp=>by
  have b:=hp p (by simp);exact BB l (Ib s p) (EJ _ _ _ _ oT h) (bL (cO _ _) h') (λq a=>hp q (by simp[a]))
theorem Sl.span{m:Nat}{e:TypeId}{w wr:World}{A:Option Addr}{n c:Nat}{l:List (Nat×Nat)}(h:Sl m e 2 w (.slice A n c) n (l.flatMap sE))(r:n=l.length)(g:Below w.heap.size w wr){k:Nat}(q:k<n):
  ∃b d s,A=some ⟨b,d,none⟩/\l[k]?=some s/\b<w.heap.size/\wr.cell? ⟨b,d+k*2,none⟩=some (.int .i64 s.1)/\wr.cell? ⟨b,d+k*2+1,none⟩=some (.int .i64 s.2):=by
 subst r;obtain⟨v,x,t,y,z,B,o⟩:=h;injection t with p u f;subst p f;obtain⟨b,d,rfl, -,f⟩:=o oT;have j:l[k]?=some l[k]:=aA q;have i:∀(l:List (Nat×Nat)) (k:Nat) (a:Nat×Nat),l[k]?=some a->(l.flatMap sE)[k*2]?=some (.int .i64 a.1)/\(l.flatMap sE)[k*2+1]?=some (.int .i64 a.2):=by
  intro l
  induction l with
  |nil=>intro k a h;simp at h
  | cons b l ih=>
   intro k a h
   cases k with
   |zero=>simp at h;subst h;exact⟨R,R⟩
   |succ k=>
    simp at h;have:=ih k a h;simp only[gW,sE];rw[(oT:(k+1)*2=k*2+1+1)];simpa using this
 obtain⟨f1,f2⟩:=i l k _ j;have g1:=f _ _ f1;have g2:=f _ _ f2;exact⟨b,d,_,R,j,tH g1,(g.cell (tH g1)).trans g1,by rw[dW];exact(g.cell (tH g2)).trans g2⟩
def EI{b β:Type}(f:β->b->β)(s:β)(l:List b)(k:Nat)(a:b)(h:l[k]?=some a):(l.take (k+1)).foldl f s=f ((l.take k).foldl f s) a:=by
 rw[bW,h];simp
end Go.Proofs.YtiaekocjeinkjaaGreatDoor
