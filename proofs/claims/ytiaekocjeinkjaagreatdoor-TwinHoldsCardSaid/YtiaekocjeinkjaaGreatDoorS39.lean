import Derived.Test.YtiaekocjeinkjaaGreatDoorS38
set_option linter.all false
namespace Go.Proofs.YtiaekocjeinkjaaGreatDoor
open Go.RowKit
def gh(e):xJ e=true↔((0<=e.is/\e.is<=3)/\(e.is=1->0<e.left)/\(e.is≠1->e.left=0)/\(e.is=2->aj e.i.op=3/\e.known=true)/\(e.halt≠0->e.is=3\/(e.is=1/\aj e.i.op=5/\e.halt=3))/\(Xq e.i=true\/e.halt=1\/e.halt=2)):=by
 unfold xJ;by_cases i:e.is<0\/e.is>3
 .rw[aa i];exact⟨λh=>(by cases h),λh=>by omega⟩
 rw[dZ i];by_cases f:(e.is=1/\e.left<=0)\/(e.is≠1/\e.left≠0)
 .rw[aa f];refine⟨λh=>(by cases h),λ⟨_,a,b,_⟩=>?_⟩;rcases f with ⟨x,y⟩|⟨x,y⟩
  .have:=a x;omega
  .exact absurd (b x) y
 rw[dZ f];by_cases c:e.is=2/\(aj e.i.op≠3\/e.known=false)
 .rw[aa c];refine⟨λh=>(by cases h),λ⟨_,_,_,a,_⟩=>?_⟩;have:=a c.1;rcases c.2 with x|x
  .exact absurd this.1 x
  .rw[this.2]at x;cases x
 rw[dZ c];by_cases d:e.halt≠0/\e.is≠3/\ ¬(e.is=1/\aj e.i.op=5/\e.halt=3)
 .rw[aa d];refine⟨λh=>(by cases h),λ⟨_,_,_,_,a,_⟩=>?_⟩;rcases a d.1 with x|x
  .exact absurd x d.2.1
  .exact absurd x d.2.2
 rw[dZ d];have k:e.is=2->aj e.i.op=3/\e.known=true:=λx=>by
  refine⟨dw λy=>c ⟨x,.inl y⟩,?_⟩
  cases n:e.known with
  |true=>rfl
  |false=>exact absurd ⟨x,.inr n⟩ c
 have l:e.halt≠0->e.is=3\/(e.is=1/\aj e.i.op=5/\e.halt=3):=λx=>dw λy=>d ⟨x,λz=>y (.inl z),λz=>y (.inr z)⟩;have j:e.is=1->0<e.left:=λx=>dw λy=>f (.inl ⟨x,oT⟩);have m:e.is≠1->e.left=0:=λx=>dw λy=>f (.inr ⟨x,y⟩);by_cases g:Xq e.i=true
 .rw[aa g];exact⟨λ_=>⟨oT,j,m,k,l,.inl g⟩,λ_=>rfl⟩
 .rw[dZ g];refine⟨λh=>⟨oT,j,m,k,l,.inr (sU h)⟩,λ⟨_,_,_,_,_,a⟩=>?_⟩;rcases a with a|a
  .exact absurd a g
  .simpa using a
structure eS(M:Int)(e:ai):Prop where
 st:xJ e=true
 kn:e.known=true->aj e.i.op=3\/aj e.i.op=4->kZ M e.W (bh e.i.op)=true
 s4:aj e.i.op=4->e.is=0\/e.is=3
 k4:aj e.i.op=4->e.is=3->e.halt=0->e.known=true
theorem eS.go{M}{e}(h:eS M e):eS M (bn e):=by
 let⟨h1,h2,h3,h4,b4,bb⟩:=(gh e).1 h.st;unfold bn;by_cases c:e.is≠1
 .rwa[aa c]
 rw[dZ c];have f:aj e.i.op≠4:=λq=>by rcases h.s4 q with x|x<;>omega
 by_cases d:wrap64 (e.left-1)<=0
 .rw[aa d];refine⟨(gh _).2 ⟨by simp,λq=>absurd q (by simp),λ_=>rfl,λq=>absurd q (by simp),λ_=>.inl R,bb⟩,λa b=>?_,λq=>absurd q f,λq=>absurd q f⟩;refine h.kn ?_ b;have a:(if aj e.i.op=5/\e.halt=0 then true else e.known)=true:=a;have b:aj e.i.op=3\/aj e.i.op=4:=b
  rwa [dZ ad]at a
 rw[dZ d];refine⟨(gh _).2 ⟨h1,λ_=>by show 0<wrap64 _;omega,λq=>absurd (cw.1 c) q,h4,b4,bb⟩,h.kn,h.s4,h.k4⟩
def I4{c}{a b}(d:aj c=2)(g:a<=4294967295)(h:b<=4294967295):0<e8 c a b:=by
 have i:42<=c/\c<=45:=by
  unfold aj at d
  (repeat' split at d)<;>omega
 unfold e8;rw[dZ ad];split
 .decide
 rename_i q;have e:cd c b<=cd c a:=oT;have f:=yJ c b ad (λz=>q (.inl z));have:=Kz (cd c b) (cd c a) (pT c b ad) (pT c a ad) oT ad;omega
theorem eS.start{M}{e}(h:eS M e){a b}(l:a<=4294967295)(m:b<=4294967295):eS M (rJ e a b):=by
 let⟨h1,h2,h3,h4,b4,bb⟩:=(gh e).1 h.st;unfold rJ;by_cases g:e.is≠0\/aj e.i.op=3\/aj e.i.op=4
 .rwa[aa g]
 rw[dZ g];have f:e.halt=0:=dw λq=>by rcases b4 q with x|x<;>omega
 have c:aj e.i.op≠4:=λq=>g (.inr (.inr q));have d: ¬(aj e.i.op=3\/aj e.i.op=4):=λq=>g (.inr q);by_cases k:aj e.i.op=1
 .rw[aa k];exact⟨(gh _).2 ⟨by simp,λ_=>by simp,λq=>absurd R q,λq=>absurd q (by simp),λq=>absurd f q,bb⟩,λ_ q=>absurd q d,λq=>absurd q c,λq=>absurd q c⟩
 rw[dZ k];by_cases i:aj e.i.op=2
 .rw[aa i];exact⟨(gh _).2 ⟨by simp,λ_=>by have:=I4 i l m;show(0:Int)<((e8 e.i.op a b:Nat):Int);omega,λq=>absurd R q,λq=>absurd q (by simp),λq=>absurd f q,bb⟩,λ_ q=>absurd q d,λq=>absurd q c,λq=>absurd q c⟩
 rw[dZ i];by_cases j:aj e.i.op=5
 .rw[aa j];split
  .exact⟨(gh _).2 ⟨by simp,λ_=>by simp,λq=>absurd R q,λq=>absurd q (by simp),λq=>absurd f q,bb⟩,λ_ q=>absurd q d,λq=>absurd q c,λq=>absurd q c⟩
  refine⟨(gh _).2 ⟨by simp,λ_=>by simp,λq=>absurd R q,λq=>absurd q (by simp),λ_=>.inr ⟨R,j,R⟩,?_⟩,λ_ q=>absurd q d,λq=>absurd q c,λq=>absurd q c⟩;rcases bb with x|x|x
  .exact .inl x
  .omega
  omega
 rw[dZ j];exact⟨(gh _).2 ⟨by simp,λ_=>by simp,λq=>absurd R q,λq=>absurd q (by simp),λq=>absurd f q,bb⟩,λ_ q=>absurd q d,λq=>absurd q c,λq=>absurd q c⟩
theorem eS.W{M}{e}(h:eS M e)(a):eS M (yC e M a):=by
 let⟨h1,h2,h3,h4,bb,b4⟩:=(gh e).1 h.st;unfold yC;by_cases b:(aj e.i.op≠3/\aj e.i.op≠4)\/e.is≠0\/e.known=true
 .rwa[aa b]
 rw[dZ b];have i:e.is=0:=dw λq=>b (.inr (.inl q));have g:e.halt=0:=dw λq=>by rcases bb q with x|x<;>omega
 split
 .rename_i f;exact⟨(gh _).2 ⟨h1,h2,h3,λq=>absurd (show e.is=2 from q) ad,bb,b4⟩,λ_ _=>f,h.s4,λ_ _ _=>rfl⟩
 .have c:e.known=false:=by cases d:e.known with
   |false=>rfl
   |true=>exact absurd (.inr (.inr d)) b
  refine⟨(gh _).2 ⟨by simp,λq=>absurd q (by simp),λ_=>(h3 ad),λq=>absurd q (by simp),λ_=>.inl R,?_⟩,λq=>(by rw[show e.known=true from q]at c;cases c),λ_=>.inr R,λ_ _ q=>?_⟩
  .rcases b4 with x|x|x
   .exact .inl x
   .omega
   .omega
  .have q:(if aj e.i.op=4 then(5:Int)else 4)=0:=q;split at q<;>omega
theorem eS.take{M}{e}(h:eS M e)(s):eS M (uM e s):=by
 let⟨h1,h2,h3,h4,bb,b4⟩:=(gh e).1 h.st;unfold uM;by_cases a:aj e.i.op≠3\/e.known=false\/(e.is≠0/\e.is≠2)
 .rwa[aa a]
 rw[dZ a];have c:aj e.i.op=3:=dw λq=>a (.inl q);have b:e.halt=0:=dw λq=>by rcases bb q with x|x<;>omega
 exact⟨(gh _).2 ⟨by simp,λ_=>by simp,λq=>absurd R q,λq=>absurd q (by simp),λq=>absurd b q,b4⟩,h.kn,λq=>absurd (show aj e.i.op=4 from q) ad,λq=>absurd (show aj e.i.op=4 from q) ad⟩
theorem eS.store{M}{e}(h:eS M e)(b):eS M (uF e b):=by
 let⟨h1,h2,h3,h4,b4,bb⟩:=(gh e).1 h.st;unfold uF;by_cases a:aj e.i.op≠4\/e.known=false\/e.is≠0
 .rwa[aa a]
 rw[dZ a];have f:e.is=0:=dw λq=>a (.inr (.inr q))
 have c:e.known=true:=by cases d:e.known with
  |true=>rfl
  |false=>exact absurd (.inr (.inl d)) a
 exact⟨(gh _).2 ⟨by simp,λq=>absurd q (by simp),λ_=>h3 ad,λq=>absurd q (by simp),λ_=>.inl R,bb⟩,h.kn,λ_=>.inr R,λ_ _ _=>c⟩
theorem eS.fill{M}{e}(h:eS M e)(c)(agY):eS M (wO c agY e):=by
 unfold wO;split
 .exact eS.take (e:={e with Z8:=true}) ⟨h.st,h.kn,h.s4,h.k4⟩ _
 exact h
theorem eS.wait{M}{e}(h:eS M e)(a:aj e.i.op=3)(c:e.known=true)(d:e.is=0\/e.is=2):eS M {e with is:=2}:=by
 let⟨h1,h2,cs,h4,bb,b4⟩:=(gh e).1 h.st;have b:e.halt=0:=dw λq=>by rcases bb q with x|x<;>omega
 exact⟨(gh _).2 ⟨by simp,λq=>absurd q (by simp),λ_=>cs ad,λ_=>⟨a,c⟩,λq=>absurd b q,b4⟩,h.kn,λq=>absurd (show aj e.i.op=4 from q) ad,λq=>absurd (show aj e.i.op=4 from q) ad⟩
def M8(e):(bn e).no=e.no:=by unfold bn;(repeat' split)<;>rfl
def I5(e)(a b):(rJ e a b).no=e.no:=by unfold rJ;(repeat' split)<;>rfl
def vw(e)(M)(a):(yC e M a).no=e.no:=by unfold yC;(repeat' split)<;>rfl
def qj(e)(s):(uM e s).no=e.no:=by unfold uM;split<;>rfl
def I6(e)(b):(uF e b).no=e.no:=by unfold uF;split<;>rfl
def I7(c)(agY)(e):(wO c agY e).no=e.no:=by
 unfold wO;split
 .rw[qj]
 rfl
structure eh(M nx:Int)(l:List ai):Prop where
 ev:∀e∈l,eS M e/\e.no<nx
 up:(l.map (·.no)).Pairwise (· < ·)
theorem eh.nil{M nx}:eh M nx []:=⟨λ_ h=>(List.not_mem_nil h).elim,.nil⟩
theorem eh.map{M nx}{l}(h:eh M nx l){f}(d:∀e,eS M e->eS M (f e))(a:∀e,(f e).no=e.no):eh M nx (l.map f):=by
 refine⟨λe c=>?_,?_⟩
 .obtain⟨x,b,rfl⟩:=pG.1 c;exact⟨d x (h.ev x b).1,by rw[a];exact(h.ev x b).2⟩
 rw[List.map_map,show((λe:ai=>e.no)∘f)=λe=>e.no from funext a];exact h.up
theorem eh.set{M nx}{l}(h:eh M nx l){i}{x e}(a:l[i]?=some x)(d:eS M e)(c:e.no=x.no):eh M nx (l.set i e):=by
 refine⟨λy f=>?_,?_⟩
 .rcases List.mem_or_eq_of_mem_set f with q|rfl
  .exact h.ev y q
  exact⟨d,by rw[c];exact(h.ev x (aB a)).2⟩
 rw[List.map_set,c,show(l.map _).set i x.no=l.map (·.no)from ?_]
 .exact h.up
 refine dD λj=>?_;by_cases b:i=j
 .subst b;rw[aZ (by rw[aH];exact ((Em.1 a).1)),aX,a];rfl
 rw[kX b]
theorem eh.sub{M nx}{l k}(h:eh M nx l)(a:k.Sublist l):eh M nx k:=
 ⟨λe b=>h.ev e (a.mem b),h.up.sublist (a.map _)⟩
theorem eh.cut{M nx}{l}(h:eh M nx l)(i):eh M nx (DY l i):=by
 unfold DY;split
 .rename_i e b;have c:(l.take i++[{e with K:=e.next}])=(l.set i {e with K:=e.next}).take (i+1):=by
   rw[bW,aZ ((Em.1 b).1),List.take_set_of_le (aC _)];rfl
  rw[c];have a:=(h.ev e (aB b)).1;exact(h.set b (e:={e with K:=e.next}) ⟨a.st,a.kn,a.s4,a.k4⟩ R).sub (List.take_sublist _ _)
 exact h
theorem eh.push{M nx}{l}(h:eh M nx l){e}(g:eS M e)(i:e.no=nx):eh M (nx+1) (l++[e]):=by
 refine⟨λy c=>?_,?_⟩
 .rcases dz.1 c with q|q
  .have:=h.ev y q;exact⟨this.1,oT⟩
  rw[uJ.1 q];exact⟨g,oT⟩
 rw[dH,List.pairwise_append];refine⟨h.up,List.pairwise_singleton _ _,λa f b d=>?_⟩;obtain⟨y,c,rfl⟩:=pG.1 f;have:=(h.ev y c).2;have d:b=e.no:=sU d;omega
theorem eh.right{M nx}{l}(h:eh M nx l)(c:l.length<=8):Ff l=true:=by
 unfold Ff;rw[aP,rC];refine⟨jP c,λi d=>?_⟩;unfold IB;split
 .rename_i e a;rw[aP];refine⟨?_,(h.ev e (aB a)).1.st⟩
  cases i with
  |zero=>rfl
  |succ i=>
   have f:=(Em.1 a).1;have:=List.pairwise_iff_getElem.1 h.up i _ (by rw[aH];omega) (by rw[aH];omega) ad;rw[List.getElem_map,List.getElem_map]at this;have b:l[i+1]=e:=(Em.1 a).2;rw[b]at this;unfold pn;rw[(oT:i+1-1=i),aA ad];simp[this]
 .rfl
theorem eh.V{M nx:Int}{r:Nat->Nat}{l:List ai}(h:eh M nx l):∀k,eh M nx (b3 r l k)
 |0=>h
 | k+1=>by
  have ih:=eh.V (r:=r) h k;show eh M nx (gm r (b3 r l k) k);unfold gm;split
  .rename_i e a;split
   .split
    .exact ih.set a ((ih.ev e (aB a)).1.store _) (I6 _ _)
    .exact ih
   .exact ih
  .exact ih
def m7(c:Ca)(k:Nat)(s:List Wy):(rK c k s).O.length=c.O.length/\(rK c k s).ways=c.ways:=⟨cC,R⟩
def uu(c)(agY):(tO c agY).O.length=c.O.length/\(tO c agY).ways=c.ways:=by
 unfold tO;split
 .exact m7 _ _ _
 exact⟨R,R⟩
def vc(c)(agY)(d)(b):(qZ c agY d b).1.O.length=c.O.length/\(qZ c agY d b).1.ways=c.ways:=by
 unfold qZ;split
 .split
  .exact m7 _ _ _
  split<;>exact m7 _ _ _
 exact⟨R,R⟩
def E4(c)(a)(b):(xL c a b).1.O.length=c.O.length/\(xL c a b).1.ways=c.ways:=by
 unfold xL;split
 .split
  .split
   .exact⟨R,R⟩
   exact m7 _ _ _
  exact⟨R,R⟩
 exact⟨R,R⟩
def E5(c)(agY):(wB c agY).O.length=c.O.length/\(wB c agY).ways=c.ways:=by
 unfold wB;split
 .exact m7 _ _ _
 exact⟨R,R⟩
def E6(c)(agY):(oK c agY).data.O.length=c.data.O.length/\(oK c agY).data.ways=c.data.ways:=by
 have hp:=vc c.data (ao agY) (Ga (jZ c.U c.mem) (ao agY)) false;unfold oK;rcases a:iQ c.data c.U c.mem agY (lX c.Q c.asked)with ⟨d,q,b⟩;show d.O.length=_/\d.ways=_;unfold iQ at a;split at a
 .cases a;exact⟨R,R⟩
 split at a
 .cases a;exact uu _ _
 split at a
 rename_i e;rw[e]at hp;split at a<;>(cases a;exact hp)
structure cq(q:Int)(c:Co):Prop where
 ro:eh c.mem.size c.next c.Z
 lo:0<=c.next
 nx:c.next<=q
 da:(c.data.O.length:Int)=c.Q.O/\c.data.ways=c.Q.ways
 wo:(c.u.O.length:Int)=c.Q.O/\c.u.ways=c.Q.ways
 sp:∀p∈c.V,kZ c.mem.size p.W p.data.size=true
 pg:c.prog.length<=64
def vd(c)(agY):(oK c agY).mem=c.mem/\(oK c agY).next=c.next/\(oK c agY).Z=c.Z/\(oK c agY).Q=c.Q/\(oK c agY).u=c.u/\(oK c agY).V=c.V/\(oK c agY).prog=c.prog:=by
 rw[<-uY];exact⟨R,R,R,R,R,R,R⟩
theorem cq.ZJ{q}{c}(h:cq q c)(agY):cq q (oK c agY):=by
 let⟨h1,h2,h3,h4,bb,b4,cs⟩:=vd c agY;have a:=E6 c agY;exact⟨by rw[h1,h2,h3];exact h.ro,by rw[h2];exact h.lo,by rw[h2];exact h.nx,by rw[a.1,a.2,h4];exact h.da,by rw[bb,h4];exact h.wo,by rw[b4,h1];exact h.sp,by rw[cs];exact h.pg⟩
theorem cq.Z{q}{c d}(h:cq q c)(k:eh c.mem.size c.next d.Z)(b:d.mem=c.mem)(a:d.next=c.next)(f:d.data=c.data)(g:d.u=c.u)(e:d.Q=c.Q)(i:d.V=c.V)(j:d.prog=c.prog):cq q d:=
 ⟨by rw[b,a];exact k,by rw[a];exact h.lo,by rw[a];exact h.nx,by rw[f,e];exact h.da,by rw[g,e];exact h.wo,by rw[i,b];exact h.sp,by rw[j];exact h.pg⟩
def I0{q}{c}(h:cq q c):cq q (lM c):=by
 have a:cq q (jJ c):=⟨h.ro,h.lo,h.nx,h.da,h.wo,h.sp,h.pg⟩;rw[kC];split
 .unfold ip
  repeat' split
  .exact a.Z (a.ro.map (λe b=>b.fill _ _) (λe=>I7 _ _ e)) R R R R R R R
  .have:=vc (jJ c).u (eH c.U).2.1.S oZ false;exact⟨a.ro,a.lo,a.nx,a.da,by show((qZ _ _ _ _).1.O.length:Int)=_/\(qZ _ _ _ _).1.ways=_;rw[this.1,this.2];exact a.wo,a.sp,a.pg⟩
  .exact a.ZJ _
  .have e:(rP (jJ c).mem [⟨(eH c.U).2.1.S,(eH c.U).2.1.data⟩]).size=(jJ c).mem.size:=iY ..;exact⟨by show eh _ _ _;rw[e];exact a.ro,a.lo,a.nx,a.da,a.wo,by show ∀p∈_,kZ _ _ _=true;rw[e];exact a.sp,a.pg⟩
  exact a
 exact a
def I1{q}{c}(h:cq q c):cq q (kK c):=by
 have a:eh c.mem.size c.next (b5 c):=eh.V (h.ro.map (λe b=>b.go) M8) _;unfold kK;split
 .exact h
 split
 .rename_i i _;exact h.Z (a.cut i) R R R R R R R
 exact h.Z a R R R R R R R
def HT(x n)(h:n=1\/n=2\/n=4):(oF x n).size=n:=by
 rcases h with rfl|rfl|rfl<;>rfl
def vZ{q}{c}(h:cq q c){e}(m:e∈c.Z)(l:e.is=3):cq q (fZ c (cA e)):=by
 refine⟨h.ro,h.lo,h.nx,h.da,h.wo,?_,h.pg⟩;show ∀p∈(match iJ (cA e)with|some p=>c.V++[p]|none=>c.V),_;split
 .rename_i p hp;intro y o;rcases dz.1 o with r|r
  .exact h.sp y r
  .rw [uJ.1 r];have f:=(h.ro.ev e m).1;unfold iJ at hp;split at hp
   .cases hp
   .rename_i d;have a:(cA e).store=true:=by
     cases g:(cA e).store with
     |true=>rfl
     |false=>exact absurd (.inl g) d
    have b:e.halt=0/\aj e.i.op=4:=by
     unfold cA at a;by_cases i:e.halt≠0
     .rw[aa i]at a;exact absurd (show false=true from a) (by simp)
     .by_cases k:aj e.i.op=4
      .exact⟨cw.1 i,k⟩
      .rw[dZ i,dZ k]at a
       repeat' split at a
       all_goals exact absurd (show false=true from a) (by simp)
    have n:cA e=⟨e.M,b_ e.M,wr e.i,e.value,e.W,(bh e.i.op:Nat),true,0,0⟩:=by
     unfold cA;rw[dZ (λz=>z b.1),aa b.2]
    rw[n]at hp d;injection hp with hp;have j:bh e.i.op=1\/bh e.i.op=2\/bh e.i.op=4:=by
     have d: ¬(((bh e.i.op:Nat):Int)≠1/\((bh e.i.op:Nat):Int)≠2/\((bh e.i.op:Nat):Int)≠4):=λz=>d (.inr (.inr z));omega
    have g:p.data.size=bh e.i.op:=by rw[<-hp];exact HT _ _ j
    rw[show p.W=e.W by rw[<-hp],g];exact (f.kn (f.k4 b.2 l b.1) (.inr b.2))
 .exact h.sp
def HU{q}{c}(h:cq q c){e}(b:e∈c.Z)(a:e.is=3):cq q (Bm c e):=by
 have k:=vZ h b a;exact⟨k.ro.sub (List.drop_sublist _ _),k.lo,k.nx,k.da,k.wo,k.sp,k.pg⟩
def HV{q}{c}(h:cq q c){e}(b:e∈c.Z)(a:e.is=3):cq q (MP c e):=by
 have k:=(vZ h b a).ZJ (cA e).W;rw[<-uY]at k;exact⟨eh.sub k.ro (List.drop_sublist _ _),k.lo,k.nx,k.da,k.wo,k.sp,k.pg⟩
theorem q5{q:Int}:∀(n:Nat) (c:Co),cq q c->cq q (c5 n c)
 |0,_,h=>h
 | n +1,c,h=>by
  by_cases f:c.halt≠0\/c.Z.length=0
  .rw[mG f];exact h
  .have e:c.Z[0]?=some (c.Z[0]'ad):=aA ad;have d:=aB e;rw[iX ad (λr=>f (.inl r)) e];split
   .exact h
   .rename_i a;have a:=cw.1 a;split
    .exact⟨eh.nil,h.lo,h.nx,h.da,h.wo,h.sp,h.pg⟩
    .split
     .exact h
     .rw[kB];by_cases b:aj (c.Z[0]'ad).i.op=3
      .rw[Ke b];exact q5 n _ (HV h d a)
      .rw[An b];exact q5 n _ (HU h d a)
theorem cq.setE{q:Int}{c:Co}(h:cq q c){i:Nat}{x e:ai}(d:c.Z[i]?=some x)(a:eS c.mem.size e)(b:e.no=x.no):cq q (fh c i e):=h.Z (h.ro.set d a b) R R R R R R R
def K3(e)(M)(a)(c:e.is=0):(yC e M a).known=true->(yC e M a).is=0\/e.known=false/\(yC e M a).is=0:=by
 intro b;unfold yC at b⊢;split
 .exact .inl c
 rename_i d;rw[dZ d]at b;split
 .exact .inl c
 rename_i f;rw[dZ f]at b;exact absurd (show e.known=true from b) (λz=>d (.inr (.inr z)))
def K4{q}{c}(h:cq q c){i}{x}(a:c.Z[i]?=some x)(e:aj x.i.op=3)(j:x.known=true->x.is=0):cq q (oE c i):=by
 have b:=(h.ro.ev x (aB a)).1;unfold oE;rw[a];dsimp only;split
 .exact h
 .rename_i f
  have d:x.known=true:=by cases k:x.known with
   |true=>rfl
   |false=>exact absurd k f
  have g:=b.wait e d (.inl (j d))
  repeat' split
  .exact h.setE a (b.take _) (qj _ _)
  .exact h
  .exact h.setE a (b.take _) (qj _ _)
  .exact h.setE a g R
  .exact cq.setE (c:=jE c 1 _ oZ) ⟨h.ro,h.lo,h.nx,h.da,h.wo,h.sp,h.pg⟩ a g R
  .exact h
def J3{l:List ai}{i:Nat}{x e:ai}(a:l[i]?=some x):(l.set i e)[i]?=some e:=aZ (Em.1 a).1
def I2{q}{c}{n}(f:c.E n)(h:cq q c){i}(g:∀e,c.Z[i]?=some e->e.is=0):cq q (iS c i):=by
 have d:=Cj f.ok.Z6 f.ok.r i;unfold iS
 cases a:c.Z[i]? with
 |none=>exact h
 | some e=>
  have b:=(h.ro.ev e (aB a)).1;dsimp only;split
  .exact h.setE a (b.W _) (vw _ _ _)
  .split
   .rename_i k;have j:aj (yC e c.mem.size (mI c.Z c.r i).1).i.op=3:=by
     unfold yC
     (repeat' split)<;>exact k
    exact K4 (h.setE a (b.W _) (vw _ _ _)) (J3 a) j (λz=>(K3 e _ _ (g e a) z).elim id (·.2))
   .exact h.setE a (b.start d.1 d.2) (I5 _ _ _)
def pb{l:List ai}{i j:Nat}{e:ai}(h:i≠j):(l.set i e)[j]?=l[j]? :=kX h
def F_(c){i j}(h:i≠j):(oE c i).Z[j]?=c.Z[j]? :=by
 unfold oE;split
 .rfl
 (try dsimp only)
 repeat' split
 all_goals first|rfl|exact pb h
def E7(c){i j}(h:i≠j):(iS c i).Z[j]?=c.Z[j]? :=by
 unfold iS;split
 .rfl
 (try dsimp only)
 split
 .exact pb h
 split
 .rw[F_ _ h];exact pb h
 exact pb h
theorem ve{q:Int}:∀(p:List Nat) (c:Co) (n:Nat),c.E n->n+p.length<=890000->cq q c->p.Pairwise (· < ·)->(∀i∈p,∀e,c.Z[i]?=some e->e.is=0)->cq q (p.foldl iS c)
 |[],_,_,_,_,h,_,_=>h
 |i::p,c,n,f,l,h,hp,b=>by
  have m:(i::p).length=p.length+1:=rfl;rw[m]at l;let⟨g,k⟩:=List.pairwise_cons.1 hp;refine ve p _ (n+1) (yY f ad i).1 ad (I2 f h (b i (dg ..))) k (λj d e a=>?_);have:=g j d;rw[E7 c ad]at a;exact b j (bY _ d) e a
theorem u2{agN:Int}{busy:Bool}{kinds:List Int}{can:List Bool}:∀k,(∀i∈(kA agN busy kinds can k).out,i<k/\can.getD i false=true)/\(kA agN busy kinds can k).out.Pairwise (· < ·)
 |0=>⟨λi d=>(List.not_mem_nil d).elim,.nil⟩
 | k + 1=>by
  have ih:=u2 (agN:=agN) (busy:=busy) (kinds:=kinds) (can:=can) k;have c:(∀i∈(kA agN busy kinds can k).out,i<k+1/\can.getD i false=true)/\(kA agN busy kinds can k).out.Pairwise (· < ·):=⟨λi d=>⟨oH ((ih.1 i d).1),(ih.1 i d).2⟩,ih.2⟩;show(∀i∈(IW agN kinds (kA agN busy kinds can k) k (can.getD k false)).out,_)/\(IW agN kinds (kA agN busy kinds can k) k (can.getD k false)).out.Pairwise _;unfold IW;split
  .exact c
  .split
   .exact c
   .rename_i h;split
    .exact c
    .refine⟨λi d=>?_,?_⟩
     .rcases dz.1 d with r|r
      .exact c.1 i r
      .rw[uJ.1 r]
       exact⟨oT,by cases g:can.getD k false with
        |true=>rfl
        |false=>exact absurd g h⟩
     .show((kA agN busy kinds can k).out++[k]).Pairwise _;rw[List.pairwise_append];refine⟨ih.2,List.pairwise_singleton _ _,λa e b f=>?_⟩;rw[uJ.1 f];exact(ih.1 a e).1
def J4{c}{i}{e}(h:fl c i=true)(a:c.Z[i]?=some e):e.is=0:=by
 unfold fl at h;rw[a]at h;dsimp only at h;split at h
 .cases h
 rename_i q;exact cw.1 q
def HW{q}{c}{n}(g:c.E n)(k:n+2<=890000)(h:cq q c):cq q (gY c):=by
 by_cases f:c.halt≠0
 .rw[show gY c=c from aa f];exact h
 have m:=pD g.cf;have l:=VH (agN:=c.Q.o) (busy:=c.Z.any IE) (kinds:=Fi c) (can:=Kv c) ad (Kv c).length;have d:=u2 (agN:=c.Q.o) (busy:=c.Z.any IE) (kinds:=Fi c) (can:=Kv c) (Kv c).length;rw[show gY c=(kA c.Q.o _ _ _ (Kv c).length).out.foldl iS c from dZ f];refine ve _ c n g ad h d.2 (λi j e b=>?_);have a:=(d.1 i j).2;refine J4 ?_ b;unfold Kv at a;rw[aR,aX,eZ ((Em.1 b).1)]at a;exact a
def I3{M}(c){f}{prog}(hp:∀x∈prog,x<=4294967295):eS M (qB c f prog)/\(qB c f prog).no=c:=by
 have a: ¬aj 0=4:=dT;unfold qB;split
 .exact⟨⟨(gh _).2 ⟨by simp,λq=>absurd q (by simp),λ_=>rfl,λq=>absurd q (by simp),λ_=>.inl R,.inr (.inl R)⟩,λq=>absurd (show false=true from q) (by simp),λq=>absurd (show aj 0=4 from q) a,λq=>absurd (show aj 0=4 from q) a⟩,R⟩
 split
 .exact⟨⟨(gh _).2 ⟨by simp,λq=>absurd q (by simp),λ_=>rfl,λq=>absurd q (by simp),λ_=>.inl R,.inr (.inr R)⟩,λq=>absurd (show false=true from q) (by simp),λq=>absurd (show aj 0=4 from q) a,λq=>absurd (show aj 0=4 from q) a⟩,R⟩
 rename_i d;have b:Xq (be (a8 prog f.M))=true:=(MZ _).2 (J6 _ d (CI (LN hp f.M)));split
 .exact⟨⟨(gh _).2 ⟨by simp,λq=>absurd q (by simp),λ_=>rfl,λq=>absurd q (by simp),λ_=>.inl R,.inl b⟩,λq=>absurd (show false=true from q) (by simp),λ_=>.inr R,λ_ _ q=>absurd (show(6:Int)=0 from q) (by simp)⟩,R⟩
 split
 .exact⟨⟨(gh _).2 ⟨by simp,λq=>absurd q (by simp),λ_=>rfl,λq=>absurd q (by simp),λ_=>.inl R,.inl b⟩,λq=>absurd (show false=true from q) (by simp),λ_=>.inr R,λ_ _ q=>absurd (show(7:Int)=0 from q) (by simp)⟩,R⟩
 exact⟨⟨(gh _).2 ⟨(show(0:Int)<=0/\(0:Int)<=3 from⟨by simp,by simp⟩),λq=>absurd (show(0:Int)=1 from q) (by simp),λ_=>rfl,λq=>absurd (show(0:Int)=2 from q) (by simp),λq=>absurd R q,.inl b⟩,λq=>absurd (show false=true from q) (by simp),λ_=>.inl R,λ_ q=>absurd (show(0:Int)=3 from q) (by simp)⟩,R⟩
theorem u3:∀(n:Nat) (q:Int) (c:Co),(∀x∈c.prog,x<=4294967295)->q+n<=9000000->cq q c->cq (q+n) (ez n c)
 |0,q,c,_,_,h=>by rw[(oT:q+((0:Nat):Int)=q)];exact h
 | n+1,q,c,hp,g,h=>by
  by_cases b:(c.Z.length:Int)>=c.Q.Z\/c.L.length=0
  .rw[Ap b];exact⟨h.ro,h.lo,oH h.nx,h.da,h.wo,h.sp,h.pg⟩
  .have f:c.L[0]?=some (c.L[0]'ad):=aA ad;have e:=CU (n:=n+1) (k:=0) ad (λr=>b (.inl r)) f;rw[(oT:n+1-(0+1)=n),(oT:n+1-0=n+1)]at e;rw[<-e,(oT:q+((n+1:Nat):Int)=(q+1)+(n:Nat))];have a:wrap64 (c.next+1)=c.next+1:=F' (oH h.lo) (oH h.nx);have d:=I3 (M:=c.mem.size) c.next (f:=c.L[0]'ad) hp;refine u3 n (q+1) _ hp ad ⟨?_,?_,?_,h.da,h.wo,h.sp,h.pg⟩
   .show eh c.mem.size (wrap64 (c.next+1)) (c.Z++[_]);rw[a];exact h.ro.push d.1 d.2
   .show 0<=wrap64 (c.next+1);rw[a];have:=h.lo;omega
   .show wrap64 (c.next+1)<=_;rw[a];have:=h.nx;omega
theorem uv{q:Int}:∀(n:Nat) (c:Co),cq q c->cq q (ed n c)
 |0,_,h=>h
 | n +1,c,h=>by
  by_cases b:c.stop=true\/(c.L.length:Int)>=c.Q.queue
  .rw[yZ b];exact h
  .by_cases d:(es c.prog c.J).isSome=false
   .rw[Aq ad b d];exact⟨h.ro,h.lo,h.nx,h.da,h.wo,h.sp,h.pg⟩
   .by_cases g:(bK c.u (ao c.J)).2.isSome=false
    .rw[uD ad b d g];split
     .exact⟨h.ro,h.lo,h.nx,h.da,h.wo,h.sp,h.pg⟩
     .exact h
    .have e:=BC (n:=n+1) (k:=0) ad b d g;rw[(oT:n+1-(0+1)=n),(oT:n+1-0=n+1)]at e;rw[<-e];refine uv n _ ?_;have f:=uu c.u (ao c.J);have a:cq q (lJ c):=⟨h.ro,h.lo,h.nx,h.da,by show((tO _ _).O.length:Int)=_/\(tO _ _).ways=_;rw[f.1,f.2];exact h.wo,h.sp,h.pg⟩;have i:∀w,cq q (dM (lJ c) w).1:=by
      intro w;unfold dM
      repeat' split
      all_goals exact⟨a.ro,a.lo,a.nx,a.da,a.wo,a.sp,a.pg⟩
     have k:=i (a8 c.prog c.J);exact⟨k.ro,k.lo,k.nx,k.da,k.wo,k.sp,k.pg⟩
def HX{q}{c}(h:cq q c):cq q (tY c):=by
 have a:cq q (bg c):=by
  refine⟨h.ro,h.lo,h.nx,?_,h.wo,?_,h.pg⟩
  .show((sL c.V c.data).2.1.O.length:Int)=_/\(sL c.V c.data).2.1.ways=_;unfold sL;split
   .exact h.da
   rename_i p l _;have:=E4 c.data p.W p.data;split
   .rw[this.1,this.2];exact h.da
   exact h.da
  show ∀p∈(sL c.V c.data).1,_;unfold sL;split
  .exact h.sp
  rename_i p l f;split
  .exact λy g=>h.sp y (by rw[f];exact bY _ g)
  exact h.sp
 have e:∀{d:Co},cq q d->cq q (f_ d):=λ{d} k=>by
  unfold f_;split
  .exact k
  split
  .exact⟨k.ro,k.lo,k.nx,k.da,k.wo,k.sp,k.pg⟩
  exact k
 have b:∀{d:Co},cq q d->cq q (ec d):=λ{d} k=>by
  unfold ec;split
  .exact k
  unfold pE;split
  .split
   .rename_i w _ _;have:=E5 d.data w.S;exact⟨k.ro,k.lo,k.nx,by show((wB _ _).O.length:Int)=_/\(wB _ _).ways=_;rw[this.1,this.2];exact k.da,k.wo,k.sp,k.pg⟩
   exact k
  exact k
 rw[mO];split
 .exact b (e a)
 exact b a
def l4(n lo a)(h:0<=lo/\lo<=a):0<=bV n lo a:=by unfold bV;(repeat' split)<;>omega
def L2(c:Cf)(prog:List Nat)(m:ByteArray):Bd (bZ c) 0 (fX c prog m):=
 ⟨R,l4 _ 2 8 dT,l4 _ 1 4 dT,l4 _ 1 4 dT,l4 _ 2 6 dT,R⟩
def H6(c:Cf):0<=(bZ c).Z/\0<=(bZ c).queue:=⟨l4 _ 2 8 dT,l4 _ 1 4 dT⟩
def M9{f}(d:0<=f.Z/\0<=f.queue){c}(h:Bd f c.N.length c):Bd f (uG c).N.length (uG c)/\c.N.length<=(uG c).N.length/\(uG c).N.length<=c.N.length+f.o.toNat:=by
 let⟨b,e,g,a⟩:=K8 d h;have:=a.ret;subst this;exact⟨a,e,g⟩
theorem cq.mono{q r}{c}(h:cq q c)(a:q<=r):cq r c:=⟨h.ro,h.lo,oH h.nx,h.da,h.wo,h.sp,h.pg⟩
def K2{q}{c}{n}(i:c.E n)(g:n+20<=890000)(j:q+2<=9000000)(h:cq q c):cq (q+2) (g6 c):=by
 have a:=Ql i g;have e:cq q (s3 c):=q5 _ _ (I1 (I0 ⟨h.ro,h.lo,h.nx,h.da,h.wo,h.sp,h.pg⟩));have b:cq q (eC c):=HW a.k3 ad e;have d:cq (q+2) (e6 c):=by
  show cq (q+2) (lP (eC c));have k:=pD a.k4.cf;unfold lP;split
  .exact b.mono ad
  exact(u3 _ q _ a.k4.ok.Z4 ad b).mono ad
 have f:cq (q+2) (e7 c):=by
  show cq (q+2) (eN (e6 c));unfold eN;split
  .exact d
  exact uv _ _ d
 exact HX f
def ut{x}(h:∃n,x.size=hY n):jB x=x:=by
 let⟨n,a⟩:=h;have b:x.size=16\/x.size=32\/x.size=64\/x.size=128\/x.size=256:=by rw[a];unfold hY;(repeat' split)<;>omega
 unfold jB;rw[(oT:min x.size 256=x.size),show hY x.size-x.size=0 by rcases b with e|e|e|e|e<;>rw[e]<;>rfl,List.replicate_zero,dY,show x.extract 0 x.size=x by simp]
 try (cases x;simp)
def HR{f}{a n}{q}{c}(b:c.E n)(d:Bd f a c)(h:cq q c)(l:∃n,c.mem.size=hY n):jF c=true:=by
 have m:=pD b.cf;have g:=d.Z;have i:=d.Z5;have j:=d.Z';rw[<-d.Q]at g i j;unfold jF;simp only[aP,aY,rC];refine⟨⟨⟨⟨⟨⟨⟨⟨⟨⟨⟨b.cf,h.pg⟩,?_⟩,h.ro.right ad⟩,g⟩,λe k=>(h.ro.ev e k).2⟩,?_⟩,?_⟩,b.K⟩,i⟩,j⟩,h.sp⟩
 .rw[ut l];simp
 .unfold Ax;simp[aP,aY];exact⟨⟨b.data,h.da.1⟩,h.da.2⟩
 unfold Ax;simp[aP,aY];exact⟨⟨b.u,h.wo.1⟩,h.wo.2⟩
structure ib(X:Co)(k:Nat):Prop where
 ok:(uN X k).ok (10*k)
 bd:Bd X.Q (uN X k).N.length (uN X k)
 rc:cq (1+2*k) (uN X k)
 ms:∃n,(uN X k).mem.size=hY n
 rt:jF (uN X k)=true
def J2(cf)(prog)(m)(d:cf.ok)(hp:∀x∈prog,x<=4294967295)(X)(c:X=fX cf prog m)(b:jF X=true):ib X 0:=by
 subst c;refine⟨Id cf prog m d hp,L2 cf prog m,⟨eh.nil,(show(0:Int)<=1 from dT),(show(1:Int)<=1+2*((0:Nat):Int)from dT),?_,?_,λp hp=>(List.not_mem_nil hp).elim,?_⟩,⟨_,wE m⟩,b⟩;rotate_left 2
 .show(prog.take _).length<=64;rw[aM];omega
 all_goals
  unfold jF at b;simp[aP,aY]at b
  first|let⟨⟨⟨⟨⟨⟨_,a⟩, _⟩, _⟩, _⟩, _⟩, _⟩:=b|let⟨⟨⟨⟨⟨_,a⟩, _⟩, _⟩, _⟩, _⟩:=b
  unfold Ax at a;simp[aP,aY]at a;exact⟨a.1.2,a.2⟩
theorem ib.next{X}{k}(h:ib X k)(j:k<=3000)(g:0<=X.Q.Z/\0<=X.Q.queue):ib X (k+1):=by
 have e:=EL h.ok ad h.rt;have f:uG (uN X k)=g6 (uN X k):=aa h.rt;have c:=(M9 g h.bd).1;have d:∃n,(uN X (k+1)).mem.size=hY n:=by
  let⟨n,hn⟩:=h.ms;exact⟨n,(J9 h.rt).2.2.trans hn⟩
 have i:=(Ql e ad).k7;have a:cq (1+2*((k+1:Nat):Int)) (uN X (k+1)):=by
  show cq _ (uG (uN X k));rw[f,(oT:1+2*((k+1:Nat):Int)=1+2*(k:Int)+2)];exact (K2 e ad ad h.rc)
 have b:(uN X (k+1)).E (10*k+10):=by show(uG (uN X k)).E _;rwa[f]
 exact⟨by rw[(oT:10*(k+1)=10*k+10)];exact b.ok,c,a,d,HR b c a d⟩
theorem vz{X:Co}(h:ib X 0)(a:0<=X.Q.Z/\0<=X.Q.queue):∀k,k<=3000->ib X k
 |0,_=>h
 |k+1,b=>(vz h a k ad).next ad a
def HS(cf)(prog)(m)(B:(fX cf prog m).ok 0):jF (fX cf prog m)=true:=by
 have a:∀n lo b:Int,lo<=b->lo<=bV n lo b/\bV n lo b<=b:=λn lo b h=>by unfold bV;(repeat' split)<;>omega
 have f:wA (bZ cf)=true:=by
  unfold wA jf bZ;have l:=a cf.o 1 2 dT;have o:=a cf.Z 2 8 dT;have p:=a cf.queue 1 4 dT;have q:=a cf.V 1 4 dT;have r:=a cf.m 2 6 dT;have C:=a cf.O 1 4 dT;have t:=a cf.ways 1 2 dT;have g:(1<=(if bV cf.O 1 4=3 then 2 else bV cf.O 1 4))/\(if bV cf.O 1 4=3 then 2 else bV cf.O 1 4)<=4/\(if bV cf.O 1 4=3 then 2 else bV cf.O 1 4)≠3:=by split<;>omega
  simp only[aP,aY,rC,ge_iff_le,ne_eq];refine⟨⟨⟨⟨⟨⟨⟨⟨⟨⟨⟨λx z=>?_,a cf.mode 0 2 dT⟩,l⟩,o⟩,p⟩,q⟩,r⟩,⟨g.1,g.2.1⟩⟩,g.2.2⟩,t⟩,?_⟩,?_⟩
  .obtain⟨y,_,rfl⟩:=pG.1 z;exact a y 1 8 dT
  .rw[aH,aM];omega
  rw[aM];omega
 have A:=pD f;have j:∀s w:Int,(s=1\/s=2\/s=4)->(w=1\/w=2)->Ax (CZ s w) { (bZ cf)with O:=s,ways:=w}=true:=by
  intro s w u v;rcases u with rfl|rfl|rfl<;>rcases v with rfl|rfl<;>rfl
 have c:(bZ cf).O=1\/(bZ cf).O=2\/(bZ cf).O=4:=by
  have:=a cf.O 1 4 dT;show(if bV cf.O 1 4=3 then 2 else bV cf.O 1 4)=1\/(if bV cf.O 1 4=3 then 2 else bV cf.O 1 4)=2\/(if bV cf.O 1 4=3 then 2 else bV cf.O 1 4)=4;split<;>omega
 have d:(bZ cf).ways=1\/(bZ cf).ways=2:=by
  have:=a cf.ways 1 2 dT;show bV cf.ways 1 2=1\/bV cf.ways 1 2=2;omega
 have k:=j _ _ c d;unfold jF;have D:(fX cf prog m).mem=jB m:=rfl;rw[show jB (fX cf prog m).mem=(fX cf prog m).mem from ut ⟨_,wE m⟩];simp only[aP,aY,rC];refine⟨⟨⟨⟨⟨⟨⟨⟨⟨⟨⟨f,?_⟩,by simp⟩,R⟩,?_⟩,λe i=>(List.not_mem_nil i).elim⟩,k⟩,k⟩,R⟩,?_⟩,?_⟩,λe i=>(List.not_mem_nil i).elim⟩
 .show(prog.take (min prog.length 64)).length<=64;rw[aM];omega
 .show((0:Nat):Int)<=(bZ cf).Z;omega
 .show((0:Nat):Int)<=(bZ cf).queue;omega
 show((0:Nat):Int)<=(bZ cf).V;omega
def gb(m:ByteArray)(i:Nat):Option UInt8:=m.data[i]?
def dt(p:Pt)(i:Nat):Option UInt8:=if p.W<=i then gb p.data (i-p.W)else none
def fw(l:List Pt)(i:Nat):Option UInt8:=l.foldl (λo p=>(dt p i).or o) none
def kc{m:ByteArray}{i:Nat}(h:m.size<=i):gb m i=none:=iE h
def mz{a b}(d:a.size=b.size)(h:∀i,i<a.size->gb a i=gb b i):a=b:=by
 refine ByteArray.ext (Array.ext_getElem? λi=>?_);by_cases c:i<a.size
 .exact h i c
 exact(kc ad).trans (kc ad).symm
def oi(a b)(i):gb (a++b) i=if i<a.size then gb a i else gb b (i-a.size):=by
 unfold gb;rw[ByteArray.data_append,Array.getElem?_append];rfl
def ke(m)(a b i):gb (m.extract a b) i=if i<min b m.size-a then gb m (a+i)else none:=by
 unfold gb;rw[ByteArray.data_extract,mQ];rfl
def vy(m)(p)(i)(d:i<m.size):gb (BE m p) i=(dt p i).or (gb m i):=by
 unfold BE dt;by_cases h:p.W<m.size
 .rw[aa h,oi,oi,ke,ke,ke];simp only[kH,dA];by_cases a:p.W<=i
  .rw[aa a];by_cases b:i-p.W<p.data.size
   .rw[aa ad,dZ ad,aa ad,(oT:0+(i-(min p.W m.size-0))=i-p.W)];have:∃x,gb p.data _=some x:=⟨p.data.data[i-p.W],aT b⟩;let⟨x,c⟩:=this;rw[c];rfl
   rw[dZ ad,aa ad,(oT:p.W+min p.data.size _+(i-(min p.W m.size-0+(min _ p.data.size-0)))=i)];rw[kc (i:=i-p.W) ad];rfl
  rw[dZ a,aa ad,aa ad,aa ad,(oT:0+i=i)];rfl
 rw[dZ h,dZ ad];rfl
def vo(l)(i):∀o,l.foldl (λo p=>(dt p i).or o) o=(fw l i).or o:=by
 induction l with
 |nil=>intro o;rfl
 |cons p l ih=>
  intro o;show l.foldl _ ((dt p i).or o)=(l.foldl _ ((dt p i).or none)).or o;rw[ih,ih _,Option.or_assoc];cases dt p i<;>rfl
def l3(p)(l)(i):fw (p::l) i=(fw l i).or (dt p i):=by
 show l.foldl _ ((dt p i).or none)=_;rw[vo];cases dt p i<;>rfl
def qb(a b)(i):fw (a++b) i=(fw b i).or (fw a i):=by
 unfold fw;rw[List.foldl_append];exact vo b i _
def mx(l)(i):∀m,i<m.size->gb (rP m l) i=(fw l i).or (gb m i):=by
 induction l with
 |nil=>intro m _;rfl
 |cons p l ih=>
  intro m a;show gb (rP (BE m p) l) i=_;rw[ih _ (by rw[Kn];exact a),vy m p i a,l3,Option.or_assoc]
def qe{l}{i}(h:∀p∈l,dt p i=none):fw l i=none:=by
 induction l with
 |nil=>rfl
 |cons p l ih=>rw[l3,ih (λq a=>h q (bY _ a)),h p dg];rfl
def IA{l}{i}{v}(h:∀p∈l,dt p i=none\/dt p i=v)(c:∃p∈l,dt p i=v):fw l i=v:=by
 induction l with
 |nil=>let⟨p,hp,_⟩:=c;exact absurd hp List.not_mem_nil
 | cons p l ih=>
  rw[l3];by_cases b:∃q∈l,dt q i=v
  .rw[ih (λq a=>h q (bY _ a)) b];rcases h p dg with e|e
   .rw[e];cases v<;>rfl
   .rw[e];cases v<;>rfl
  .rw[qe (λq a=>(h q (bY _ a)).resolve_right λe=>b ⟨q,a,e⟩)];let⟨q,a,e⟩:=c;rcases eu.1 a with e2|e2
   .subst e2;exact e
   .exact absurd ⟨q,e2,e⟩ b
def dh(c:Ca)(w:Wy):Prop:=w∈c.O.flatten
def j2{c}(h:c_ c){w}:dh c w↔w∈pF c (w.S/16%c.O.length):=by
 unfold dh;constructor
 .intro a;let⟨s,e,d⟩:=List.mem_flatten.1 a;obtain⟨k,b,rfl⟩:=fY e;rwa[((h.set k _ (aA b)).ZM w d).set,vA (aA b)]
 .intro a;unfold pF at a
  cases b:c.O[w.S/16%c.O.length]? with
  |none=>rw[b]at a;exact absurd a List.not_mem_nil
  |some s=>rw[b]at a;exact List.mem_flatten.2 ⟨s,aB b,a⟩
def ol{c}(h:c_ c){w}(e:dh c w):r9 c.O.length (w.S/16%c.O.length) w:=by
 let⟨s,d,b⟩:=List.mem_flatten.1 e;obtain⟨k,a,rfl⟩:=fY d;have g:=(h.set k _ (aA a)).ZM w b;rwa[g.set]
def HH{l:List Wy}(h:(l.map (·.S)).Nodup){w v}(b:w∈l)(a:v∈l)(e:w.S=v.S):w=v:=by
 induction l with
 |nil=>exact absurd b List.not_mem_nil
 | cons x l ih=>
  rw[jC,List.nodup_cons]at h;rcases eu.1 b with h1|h1
  .rcases eu.1 a with h2|h2
   .rw[h1,h2]
   .exact absurd (pG.2 ⟨v,h2,by rw[<-e,h1]⟩) h.1
  .rcases eu.1 a with h2|h2
   .exact absurd (pG.2 ⟨w,h1,by rw[e,h2]⟩) h.1
   .exact ih h.2 h1 h2
def qq{c}(h:c_ c){w v}(f:dh c w)(d:dh c v)(e:w.S=v.S):w=v:=by
 have a:=(j2 h).1 d;rw[<-e]at a;have b:0<c.O.length:=oH h.O;exact HH (h.at (aQ _ b)).one ((j2 h).1 f) a e
def oo{c}(h:c_ c){k}(g:k<c.O.length)(s){w}:dh (rK c k s) w↔w∈s\/(dh c w/\w.S/16%c.O.length≠k):=by
 show w∈(c.O.set k s).flatten↔_;rw[List.mem_flatten];constructor
 .rintro⟨t,i,b⟩;let⟨j,a,e⟩:=fY i;rw[List.getElem_set]at e;split at e
  .subst e;exact .inl b
  rename_i d;rw[cC]at a;subst e;refine .inr ⟨List.mem_flatten.2 ⟨_,jO a,b⟩,?_⟩;rw[((h.set j _ (aA a)).ZM w b).set];exact λz=>d z.symm
 rintro(b|⟨l,d⟩)
 .exact⟨s,List.mem_set g s,b⟩
 have f:=(j2 h).1 l;have a:w.S/16%c.O.length<c.O.length:=aQ _ ad;rw[vA (aA a)]at f;exact⟨_,List.mem_iff_getElem?.2 ⟨w.S/16%c.O.length,by rw[kX (λz=>d z.symm)];exact aA a⟩,f⟩
def ID{p}{i}(b:p.W%16=0)(a:p.data.size=0\/p.data.size=16):dt p i=if p.W=ao i then gb p.data (i%16)else none:=by
 unfold dt ao;by_cases h:p.W=i-i%16
 .rw[aa h,aa ad,(oT:i-p.W=i%16)]
 rw[dZ h];split
 .exact kc ad
 rfl
def gg(c:Ca)(i:Nat):Option UInt8:=fw (LV c) i
def my{c}(h:c_ c){w}(a:dh c w)(i):dt ⟨w.S,w.data⟩ i=if w.S=ao i then gb w.data (i%16)else none:=by
 have g:=ol h a;have:=g.S;exact ID (by show w.S%16=0;unfold ao at this;omega) g.data
def kb{c}(h:c_ c){w}(a:dh c w){i}(e:w.S=ao i):gg c i=gb w.data (i%16):=by
 refine IA (λp hp=>?_) ⟨⟨w.S,w.data⟩,pG.2 ⟨w,a,R⟩,by rw[my h a,aa e]⟩;obtain⟨v,b,rfl⟩:=pG.1 hp;rw[my h b];split
 .rename_i d;rw[qq h b a (d.trans e.symm)];exact .inr R
 exact .inl R
def og{c}(h:c_ c){i}(b:∀w,dh c w->w.S≠ao i):gg c i=none:=by
 refine qe λp hp=>?_;obtain⟨v,a,rfl⟩:=pG.1 hp;rw[my h a,dZ (b v a)]
def m9{c d}(h:c_ c)(k:c_ d){i}(e:∀w,w.S=ao i->(dh d w->∃v,dh c v/\v.S=w.S/\v.data=w.data)/\(dh c w->∃v,dh d v/\v.S=w.S/\v.data=w.data)):gg d i=gg c i:=by
 by_cases j:∃w,dh c w/\w.S=ao i
 .let⟨w,b,a⟩:=j;let⟨v,g,f,l⟩:=(e w a).2 b;rw[kb h b a,kb k g (f.trans a),l]
 rw[og h λw b a=>j ⟨w,b,a⟩,og k λw b a=>?_];let⟨v,g,f,_⟩:=(e w a).1 b;exact j ⟨v,g,f.trans a⟩
def HK{c}(h:c_ c)(agY){w}:dh (tO c agY) w↔dh c w:=by
 by_cases a:(bK c agY).2.isSome=true
 .rw[Dw a];have ff:=pR a;rw[oo h ff.2.2.1,(EV ff.2.2.2).mem_iff];constructor
  .rintro(h1|h1)
   .rwa[j2 h,((h.at ff.2.2.1).ZM w h1).set]
   exact h1.1
  intro b;by_cases e:w.S/16%c.O.length=(bK c agY).1
  .exact .inl (by rw[<-e];exact(j2 h).1 b)
  exact .inr ⟨b,e⟩
 rw[Dx (sU a)]
def va{c}(h:c_ c){agY}(b:(bK c agY).2.isSome=false){w}(f:dh c w):w.S≠ao agY:=by
 rw[rI (agY:=agY) (ir.1 h).1]at b;have e:jY _ _=none:=sU b;intro d;have a:=(j2 h).1 f;rw[d]at a;exact QC.1 e w a d
def vb{c}(h:c_ c){agY}(d:(bK c agY).2.isSome=true):∃w,(pF c (bK c agY).1)[(bK c agY).2.getD 0]?=some w/\dh c w/\w.S=ao agY:=by
 have ff:=pR d;refine⟨_,aA ff.2.2.2,?_,?_⟩
 .have g:=jO ff.2.2.2;rwa[j2 h,((h.at ff.2.2.1).ZM _ g).set]
 .have e:=rI (agY:=agY) (ir.1 h).1;have hp:∀(l:List Wy) (x j:Nat) _,jY l x=some j->l[j].S=x:=by
   intro l
   induction l with
   |nil=>intro x j a;exact absurd a (dG _)
   | cons y l ih=>
    intro x j a q;unfold jY at q;by_cases b:y.S=x
    .rw[aa b]at q;injection q with q;subst q;exact b
    .rw[dZ b,Gi]at q;let⟨i,k,m⟩:=q;subst m;exact ih x i _ k
  let⟨j,a⟩:=FH.1 d;apply hp _ _ _ _;have f:=a;rw[e]at f;rwa[a,e]
def T7{c}(h:c_ c){agY}(m:(bK c agY).2.isSome=false)(d)(b):
  ((qZ c agY d b).2.2=false/\∀w,dh (qZ c agY d b).1 w↔w=⟨ao agY,b,dC d⟩\/dh c w)\/
  ((qZ c agY d b).2.2=true/\dh c (qZ c agY d b).2.1/\∀w,dh (qZ c agY d b).1 w↔w=⟨ao agY,b,dC d⟩\/(dh c w/\w.S≠(qZ c agY d b).2.1.S)):=by
 have j:=(ir.1 h).1;have i:(bK c agY).1<c.O.length:=by rw[rI (agY:=agY) j];exact AP (kJ j).1 _
 have e:∀w,w∈pF c (bK c agY).1↔dh c w/\w.S/16%c.O.length=(bK c agY).1:=λw=>by
  constructor
  .intro f;have q:=((h.at i).ZM w f).set;exact⟨by rw[j2 h,q];exact f,q⟩
  .rintro⟨f,q⟩;rw[<-q];exact(j2 h).1 f
 rw[AR j m];split
 all_goals
  first
   |rename_i f;right;have a:pF c (bK c agY).1≠[]:=λz=>by rw[z]at f;have:=h.ways;simp at f;omega
    have l:(pF c (bK c agY).1).getLast?.getD qE=(pF c (bK c agY).1).getLast a:=by rw[List.getLast?_eq_some_getLast a];rfl
    have k:=(e _).1 (List.getLast_mem a);refine⟨R,by show dh c ((pF c (bK c agY).1).getLast?.getD qE);rw[l];exact k.1,λw=>?_⟩;rw[l,oo h i,eu];have g:=(h.at i).one;have n:w∈(pF c (bK c agY).1).dropLast↔w∈pF c (bK c agY).1/\w.S≠((pF c (bK c agY).1).getLast a).S:=by
     constructor
     .intro q;refine⟨oC _ q,λz=>?_⟩;rw[<-List.dropLast_concat_getLast a,dH,List.nodup_append]at g;exact g.2.2 w.S (pG.2 ⟨w,q,R⟩) _ (pG.2 ⟨_,uJ.2 R,R⟩) z
     .rintro⟨q,z⟩;rw[<-List.dropLast_concat_getLast a]at q;rcases dz.1 q with q|q
      .exact q
      .exact absurd (by rw[uJ.1 q]) z
    rw[n,e]
   |left;refine⟨rfl,λw=>?_⟩;rw[oo h i,eu,e]
  constructor
  .rintro((q|q)|q)
   .exact .inl q
   .first|exact .inr ⟨q.1.1,q.2⟩|exact .inr q.1
   .first|(exact .inr ⟨q.1,λz=>q.2 (by rw[z];exact k.2)⟩)|exact .inr q.1
  .rintro(q|q)
   .exact .inl (.inl q)
   .by_cases z:w.S/16%c.O.length=(bK c agY).1
    .first|exact .inl (.inr ⟨⟨q.1,z⟩,q.2⟩)|exact .inl (.inr ⟨q,z⟩)
    .first|exact .inr ⟨q.1,z⟩|exact .inr ⟨q,z⟩
def FT{f}{l}{j}{x:Wy}(a:l[j]?=some x):ku f (eY l j)=f x::(l.take j++l.drop (j+1)):=by
 unfold eY;rw[a];rfl
def vp{l:List Wy}(h:(l.map (·.S)).Nodup){j}{x}(b:l[j]?=some x){w}:w∈l.take j++l.drop (j+1)↔w∈l/\w.S≠x.S:=by
 let⟨c,e⟩:=Em.1 b;have hp:(x::(l.take j++l.drop (j+1))).Perm l:=by
  have:=EV c;unfold eY at this;rwa[b]at this
 have a:=((hp.map _).nodup_iff).2 h;rw[jC,List.nodup_cons]at a;constructor
 .intro q;exact⟨hp.mem_iff.1 (bY _ q),λz=>a.1 (pG.2 ⟨w,q,z⟩)⟩
 rintro⟨q,z⟩;rcases eu.1 (hp.mem_iff.2 q)with r|r
 .exact absurd (by rw[r]) z
 exact r
def vq{c}(h:c_ c){agY}(b:(bK c agY).2.isSome=true){s}{x y}(e:(pF c (bK c agY).1)[(bK c agY).2.getD 0]?=some x)
  (d:∀w,w∈s↔w=y\/(w∈pF c (bK c agY).1/\w.S≠x.S)) (a:x.S=ao agY) (w):dh (rK c (bK c agY).1 s) w↔w=y\/(dh c w/\w.S≠ao agY):=by
 have ff:=pR b;rw[oo h ff.2.2.1,d,a];constructor
 .rintro((q|q)|q)
  .exact .inl q
  .refine .inr ⟨?_,q.2⟩;rw[j2 h,((h.at ff.2.2.1).ZM w q.1).set];exact q.1
  refine .inr ⟨q.1,λz=>q.2 ?_⟩;rw[z, <-a];exact ((h.at ff.2.2.1).ZM x (aB e)).set
 rintro(q|q)
 .exact .inl (.inl q)
 by_cases z:w.S/16%c.O.length=(bK c agY).1
 .exact .inl (.inr ⟨by rw[<-z];exact(j2 h).1 q.1,q.2⟩)
 exact .inr ⟨q.1,z⟩
def HL{c}(h:c_ c){a}{b}(e:(xL c a b).2=true):∃v,dh c v/\v.S=ao a/\v.data.size=16/\b.size+a%16<=16/\
  ∀w,dh (xL c a b).1 w↔w={v with data:=Fk v.data (a%16) b,f:=true}\/(dh c w/\w.S≠ao a):=by
 by_cases d:(bK c a).2.isSome=true
 .let⟨x,f,i,g⟩:=vb h d;rw[At b d R f]at e⊢;by_cases j:x.data.size=0\/b.size+a%16>16
  .rw[aa j]at e;cases e
  rw[dZ j];refine⟨x,i,g,oH (ol h i).data,oT,vq h d f (λw=>?_) g⟩;rw[FT f,eu,vp (h.at (pR d).2.2.1).one f]
 rw[GV b (sU d)]at e;cases e
def HM{c}(h:c_ c){agY}(w):dh (wB c agY) w↔(∃u,dh c u/\u.S=ao agY/\w={u with f:=false})\/(dh c w/\w.S≠ao agY):=by
 by_cases a:(bK c agY).2.isSome=true
 .let⟨x,i,d,b⟩:=vb h a;rw[Dy a R,vq h a i (λv=>?_) b]
  .constructor
   .rintro(q|q)
    .exact .inl ⟨x,d,b,q⟩
    exact .inr q
   rintro(⟨u,f,g,j⟩|q)
   .rw[qq h f d (g.trans b.symm)]at j;exact .inl j
   exact .inr q
  let⟨l,e⟩:=Em.1 i;rw[<-vp ((h.at (pR a).2.2.1).one) i,List.modify_eq_take_cons_drop l,e];simp[dz,eu];constructor
  all_goals
   rintro(q|q|q)
   .exact .inr (.inl q)
   .exact .inl q
   exact .inr (.inr q)
 rw[Dz (sU a)];have k:=λv=>va h (sU a) (w:=v);constructor
 .intro q;exact .inr ⟨q,k w q⟩
 rintro(⟨u,f,g,_⟩|q)
 .exact absurd g (k u f)
 exact q.1
def ep(q:List bp)(m:ByteArray)(i:Nat):Option UInt8:=(fw (fP q) i).or (gb m i)
def hQ(c:Ca)(q:List bp)(m:ByteArray)(i:Nat):Option UInt8:=(gg c i).or (ep q m i)
def IH(q:List bp)(m:ByteArray){i:Nat}(a:i<m.size):gb (jZ q m) i=ep q m i:=mx _ _ _ a
def qu(s)(c)(q)(m){i}(a:i<m.size):gb (jz s c q m) i=(fw s i).or (hQ c q m i):=by
 unfold jz Ct jZ;rw[mx _ _ _ (by rw[iY,iY];exact a),mx _ _ _ (by rw[iY];exact a),mx _ _ _ a];rfl
def qc{s f}{c b}{q e}{m a}(g:a.size=m.size)(h:∀i,i<m.size->(fw f i).or (hQ b e a i)=(fw s i).or (hQ c q m i)):jz f b e a=jz s c q m:=by
 refine mz (by rw[MU,MU,g]) λi d=>?_;rw[MU]at d;rw[qu _ _ _ _ d,qu _ _ _ _ ad];exact h i ad
def uq(q)(k)(agY)(left)(d):fP (Bi q k agY left d)=fP q++if k=4 then [⟨agY,d⟩]else []:=by
 unfold fP Bi;rw[mL,dH];congr 1;by_cases h:k=4
 .rw[aa h];subst h;rfl
 rw[dZ h,List.filter_cons,dZ (sU h)];rfl
def ur(q)(agY)(left)(d)(m)(i):ep (Bi q 4 agY left d) m i=(dt ⟨agY,d⟩ i).or (ep q m i):=by
 unfold ep;rw[uq,aa R,qb,Option.or_assoc];congr 1;rw[l3];rfl
def F8(q){k}(a:k≠4)(agY)(left)(d)(m)(i):ep (Bi q k agY left d) m i=ep q m i:=by
 unfold ep;rw[uq,dZ a,dY]
structure h6(d:Ca)(q:List bp)(m:ByteArray):Prop where
 g:c_ d
 al:m.size%16=0
 cl:∀w,dh d w->w.f=false->0<w.data.size->∀i,i<m.size->w.S=ao i->gb w.data (i%16)=ep q m i
def oq{c}(h:c_ c){w}(a:dh c w)(b:0<w.data.size){i}:∃x,gb w.data (i%16)=some x:=by
 have:=(ol h a).data;exact⟨_,aT (show i%16<w.data.data.size by show i%16<w.data.size;omega)⟩
def Ku{m:ByteArray}(a:m.size%16=0){i}(b:i<m.size):ao i+16<=m.size:=by unfold ao;omega
def J0{m}(b:m.size%16=0){agY i}(c:i<m.size)(e:ao agY=ao i):(dC (Ga m agY)).size=16/\gb (dC (Ga m agY)) (i%16)=gb m i:=by
 have d:=Ku b c;unfold Ga;rw[e,aa ad,(oT:min _ 16=16)];have a:(m.extract (ao i) (ao i+16)).size=16:=by rw[dA];omega
 rw[show dC _=m.extract _ (ao i+16)from aa a];refine⟨a,?_⟩;rw[ke,aa ad];congr 1;unfold ao;omega
def IN{d}{q}{m}(h:h6 d q m){agY}(Q:agY<=4294967295)(left):
  h6 (iQ d q m agY left).1 (iQ d q m agY left).2.1 m/\∀i,i<m.size->hQ (iQ d q m agY left).1 (iQ d q m agY left).2.1 m i=hQ d q m i:=by
 unfold iQ;rw[dZ (by rw[(ir.1 h.g).1];decide)];have u:ao (ao agY)=ao agY:=by unfold ao;omega
 by_cases K:(bK d (ao agY)).2.isSome=true
 .rw[aa K];have N:=λw=>HK h.g (ao agY) (w:=w);refine⟨⟨h.g.Zg _,h.al,λw f=>h.cl w ((N w).1 f)⟩,λi _=>?_⟩;show hQ (tO d (ao agY)) q m i=_;unfold hQ;rw[m9 h.g (h.g.Zg _) λw _=>⟨λz=>⟨w,(N w).1 z,R,R⟩,λz=>⟨w,(N w).2 z,R,R⟩⟩]
 .rw [dZ K];have E:(bK d (ao agY)).2.isSome=false:=sU K;have H:∀{w},dh d w->w.S≠ao agY:=λ{w} f=>u ▸ va h.g E f;have j:=h.g.put (dV Q) (Ga (jZ q m) (ao agY)) false;have I:(jZ q m).size=m.size:=iY _ _;have k:∀i,i<m.size->ao agY=ao i->(dC (Ga (jZ q m) (ao agY))).size=16/\gb (dC (Ga (jZ q m) (ao agY))) (i%16)=ep q m i:=λi b e=>by
   obtain⟨O,J⟩:=J0 (by rw[I];exact h.al) (by rw[I];exact b) (u.trans e);exact⟨O,J.trans (IH q m b)⟩
  have v:∀i,i<m.size->ao agY=ao i->gg d i=none:=λi _ e=>og h.g λw f z=>H f (z.trans e.symm);have B:∀i,i<m.size->ao agY=ao i->∃x,ep q m i=some x:=λi b e=>by
   let⟨O,J⟩:=k i b e;rw[<-J];exact⟨_,aT (oT:i%16<(dC (Ga (jZ q m) (ao agY))).size)⟩
  rcases T7 h.g E (Ga (jZ q m) (ao agY)) false with ⟨o,f⟩|⟨o,l,f⟩
  .rcases L:qZ d (ao agY) (Ga (jZ q m) (ao agY)) false with ⟨c,a,g⟩;rw[L]at o f j;simp only at o f j;rw[u]at f;show h6 (if g=true/\a.f=true/\a.data.size≠0 then(c,Bi q 4 a.S left a.data,true)else(c,q,false):Ca×List bp×Bool).1 (if g=true/\a.f=true/\a.data.size≠0 then(c,Bi q 4 a.S left a.data,true)else(c,q,false):Ca×List bp×Bool).2.1 m/\∀i,i<m.size->hQ (if g=true/\a.f=true/\a.data.size≠0 then(c,Bi q 4 a.S left a.data,true)else(c,q,false):Ca×List bp×Bool).1 (if g=true/\a.f=true/\a.data.size≠0 then(c,Bi q 4 a.S left a.data,true)else(c,q,false):Ca×List bp×Bool).2.1 m i=hQ d q m i;rw[dZ (by rw[o];simp)];have D:dh c ⟨ao agY,false,dC (Ga (jZ q m) (ao agY))⟩:=(f _).2 (.inl R);refine⟨⟨j,h.al,λw r s t i b e=>?_⟩,λi b=>?_⟩
   .rcases(f w).1 r with z|z
    .subst z;exact(k i b e).2
    .exact h.cl w z s t i b e
   .show(gg c i).or _=(gg d i).or _;by_cases e:ao agY=ao i
    .rw[kb j D e,v i b e,(k i b e).2];let⟨x,p⟩:=B i b e;rw[p];rfl
    .rw[m9 h.g j λw C=>⟨λz=>⟨w,((f w).1 z).resolve_left λy=>e (by rw[<-C,y]),R,R⟩,λz=>⟨w,(f w).2 (.inr z),R,R⟩⟩]
  .rcases L:qZ d (ao agY) (Ga (jZ q m) (ao agY)) false with ⟨c,a,g⟩;rw[L]at o f j l;simp only at o f j l;rw[u]at f;have D:dh c ⟨ao agY,false,dC (Ga (jZ q m) (ao agY))⟩:=(f _).2 (.inl R);have F:a.S≠ao agY:=H l;have G:∀i,a.S=ao i->gg c i=none:=λi e=>og j λw z y=>by
    rcases(f w).1 z with x|x
    .rw[x]at y;exact F (e.trans y.symm)
    .exact x.2 (y.trans e.symm)
   have A:∀i,ao agY≠ao i->a.S≠ao i->gg c i=gg d i:=λi e n=>
    m9 h.g j λw C=>⟨λz=>⟨w,(((f w).1 z).resolve_left λy=>e (by rw[<-C,y])).1,R,R⟩,λz=>⟨w,(f w).2 (.inr ⟨z,λy=>n (by rw[<-y,C])⟩),R,R⟩⟩
   show h6 (if g=true/\a.f=true/\a.data.size≠0 then(c,Bi q 4 a.S left a.data,true)else(c,q,false):Ca×List bp×Bool).1 (if g=true/\a.f=true/\a.data.size≠0 then(c,Bi q 4 a.S left a.data,true)else(c,q,false):Ca×List bp×Bool).2.1 m/\∀i,i<m.size->hQ (if g=true/\a.f=true/\a.data.size≠0 then(c,Bi q 4 a.S left a.data,true)else(c,q,false):Ca×List bp×Bool).1 (if g=true/\a.f=true/\a.data.size≠0 then(c,Bi q 4 a.S left a.data,true)else(c,q,false):Ca×List bp×Bool).2.1 m i=hQ d q m i;by_cases M:g=true/\a.f=true/\a.data.size≠0
   .rw [aa M];have P:∀i,ep (Bi q 4 a.S left a.data) m i=if a.S=ao i then gb a.data (i%16)else ep q m i:=λi=>by
     rw[ur,my h.g l];split
     .obtain⟨x,p⟩:=oq h.g l ad;rw[p];rfl
     .rfl
    refine⟨⟨j,h.al,λw r s t i b e=>?_⟩,λi b=>?_⟩
    .show _=ep (Bi q 4 a.S left a.data) m i;rw[P];rcases(f w).1 r with z|z
     .subst z;rw[dZ (λy=>F (y.trans e.symm))];exact(k i b e).2
     .rw[dZ (λy=>z.2 (e.trans y.symm))];exact h.cl w z.1 s t i b e
    .show(gg c i).or (ep (Bi q 4 a.S left a.data) m i)=(gg d i).or _;rw[P];by_cases n:a.S=ao i
     .rw[aa n,G i n,kb h.g l n];obtain⟨x,p⟩:=oq h.g l ad;rw[p];rfl
     .rw[dZ n];by_cases e:ao agY=ao i
      .rw[kb j D e,v i b e,(k i b e).2];let⟨x,p⟩:=B i b e;rw[p];rfl
      .rw[A i e n]
   .rw [dZ M];refine⟨⟨j,h.al,λw r s t i b e=>?_⟩,λi b=>?_⟩
    .rcases(f w).1 r with z|z
     .subst z;exact(k i b e).2
     .exact h.cl w z.1 s t i b e
    .show(gg c i).or _=(gg d i).or _;by_cases n:a.S=ao i
     .rw[G i n,kb h.g l n];by_cases t:a.data.size=0
      .rw[kc ad]
      .have s:a.f=false:=by
        cases S:a.f with
        |false=>rfl
        |true=>exact absurd ⟨o,S,t⟩ M
       rw[h.cl a l s ad i b n];cases ep q m i<;>rfl
     .by_cases e:ao agY=ao i
      .rw[kb j D e,v i b e,(k i b e).2];let⟨x,p⟩:=B i b e;rw[p];rfl
      .rw[A i e n]
def ot(x)(q):fP (x::q)=(if x.kind=4 then [⟨x.S,x.data⟩]else [])++fP q:=by
 unfold fP;by_cases h:x.kind=4
 .rw[aa h,List.filter_cons,aa (sU h)];rfl
 rw[dZ h,List.filter_cons,dZ (sU h)];rfl
def F9(q)(m)(i)(b:i<m.size):
  ep (eH q).1 (if(eH q).2.2=true/\(eH q).2.1.kind=4 then rP m [⟨(eH q).2.1.S,(eH q).2.1.data⟩]else m) i=ep q m i:=by
 cases q with
 |nil=>rfl
 | cons x r=>
  by_cases h:wrap64 (x.left-1)>0
  .rw[show eH (x::r)=({x with left:=wrap64 _}::r,OU,false)from aa h,dZ (by simp)];unfold ep;rw[ot,ot]
  .rw[show eH (x::r)=(r,{x with left:=wrap64 _},true)from dZ h];by_cases a:x.kind=4
   .rw[aa ⟨R,a⟩];unfold ep;rw[ot,aa a,mx _ _ _ b,qb,Option.or_assoc]
   .rw[dZ (λz=>a z.2)];unfold ep;rw[ot,dZ a,iA]
theorem h6.Za{d}{q b}{m a}(h:h6 d q m)(g:a.size=m.size)(c:∀i,i<m.size->ep b a i=ep q m i):h6 d b a:=
 ⟨h.g,by rw[g];exact h.al,λw k f j i l e=>by rw[c i ad];exact h.cl w k f j i ad e⟩
abbrev Co.mc(c:Co):Prop:=h6 c.data c.U c.mem
abbrev Co.YE(c:Co)(i:Nat):Option UInt8:=hQ c.data c.U c.mem i
structure ic(c d:Co):Prop where
 mc:d.mc
 j:d.mem.size=c.mem.size
 un:∀i,i<c.mem.size->d.YE i=c.YE i
theorem ic.refl{c}(h:c.mc):ic c c:=⟨h,R,λ_ _=>rfl⟩
theorem ic.trans{a b c}(h:ic a b)(k:ic b c):ic a c:=⟨k.mc,k.j.trans h.j,λi d=>(k.un i (oH h.j)).trans (h.un i d)⟩
theorem ic.same{a b c}(h:ic a b)(e:c.data=b.data)(f:c.U=b.U)(d:c.mem=b.mem):ic a c:=by
 refine⟨?_,by rw[d];exact h.j,λi g=>?_⟩
 .show h6 c.data c.U c.mem;rw[e,f,d];exact h.mc
 show hQ c.data c.U c.mem i=_;rw[e,f,d];exact h.un i g
def q3{c}(h:c.mc){agY}(e:agY<=4294967295):ic c (oK c agY):=by
 have b:=IN h e (lX c.Q c.asked);have a:=(vd c agY).1;refine⟨?_,by rw[a],λi d=>?_⟩
 .show h6 (oK c agY).data (oK c agY).U (oK c agY).mem;rw[a];exact b.1
 show hQ (oK c agY).data (oK c agY).U (oK c agY).mem i=_;rw[a];exact b.2 i d
def na{c}(h:c.mc){k}(b:k≠4)(agY)(d):ic c (jE c k agY d):=by
 have a:∀i,ep (jE c k agY d).U c.mem i=ep c.U c.mem i:=λi=>F8 _ b _ _ _ _ _;refine⟨h6.Za h R λi _=>a i,R,λi _=>?_⟩;show(gg c.data i).or (ep (jE c k agY d).U c.mem i)=_;rw[a];rfl
def HN{q}(h:∀x∈q,x.ok):(eH q).2.2=true->(eH q).2.1.S<=4294967295:=by
 cases q with
 |nil=>intro z;cases z
 |cons x r=>
  by_cases a:wrap64 (x.left-1)>0
  .rw[show eH (x::r)=({x with left:=wrap64 _}::r,OU,false)from aa a];intro z;cases z
  .rw[show eH (x::r)=(r,{x with left:=wrap64 _},true)from dZ a];exact λ_=>(h x dg).1
def ou{c}(h:c.mc)(r:∀x∈c.U,x.ok):ic c (lM c):=by
 have a:=F9 c.U c.mem;have k:=HN r;unfold lM;rcases p:eH c.U with ⟨q,x,ok⟩;rw[p]at a k;simp only at a k;show ic c (if ok=true then ip {c with U:=q} x else {c with U:=q});have j:∀{e:ByteArray},e.size=c.mem.size->(∀i,i<c.mem.size->ep q e i=ep c.U c.mem i)->ic c {c with U:=q,mem:=e }:=λ{e} o a=>by
  refine⟨h6.Za h o a,o,λi b=>?_⟩;show(gg c.data i).or (ep q e i)=_;rw[a i b];rfl
 by_cases d:ok=true
 .rw [aa d];unfold ip;by_cases f:x.kind=4
  .rw[dZ ad,dZ ad,dZ ad,aa f];exact j (iY _ _) λi b=>by have:=a i b;rwa[aa ⟨d,f⟩]at this
  have g:ic c {c with U:=q}:=j R λi b=>by have:=a i b;rwa[dZ (λz=>f z.2)]at this
  by_cases l:x.kind=1
  .rw[aa l];exact g.same R R R
  rw[dZ l];by_cases m:x.kind=2
  .rw[aa m];exact g.same R R R
  rw[dZ m];by_cases n:x.kind=3
  .rw[aa n];exact g.trans (q3 g.mc (k d))
  rwa[dZ n,dZ f]
 rw[dZ d];exact j R λi b=>by have:=a i b;rwa[dZ (λz=>d z.1)]at this
def HO{d b}{a j}(h:d.size=16)(g:b.size+a<=16)(i:j<16):gb (Fk d a b) j=(if a<=j then gb b (j-a)else none).or (gb d j):=by
 unfold Fk;rw[oi,oi,ke,ke];simp only[kH,dA];by_cases c:a<=j
 .rw[aa c];by_cases e:j-a<b.size
  .rw[aa ad,dZ ad,(oT:j-(min a d.size-0)=j-a)];have:∃x,gb b _=some x:=⟨_,aT e⟩;let⟨x,f⟩:=this;rw[f];rfl
  rw[kc (i:=j-a) ad,dZ ad,aa ad,(oT:a+b.size+(j-(min a d.size-0+b.size))=j)];rfl
 rw[dZ c,aa ad,aa ad,aa ad,(oT:0+j=j)];rfl
def IS{d}{q}{m}(h:h6 d q m){p}(u:(xL d p.W p.data).2=true):
  h6 (xL d p.W p.data).1 q m/\∀i,i<m.size->hQ (xL d p.W p.data).1 q m i=(dt p i).or (hQ d q m i):=by
 let⟨v,t,a,n,j,b⟩:=HL h.g u;have c:=h.g.write p.W p.data;refine⟨⟨c,h.al,λw o k s i l e=>?_⟩,λi l=>?_⟩
 .rcases(b w).1 o with z|z
  .subst z;cases k
  exact h.cl w z.1 k s i l e
 show(gg _ i).or _=(dt p i).or ((gg d i).or _);by_cases e:ao p.W=ao i
 .rw[kb c ((b _).2 (.inl rfl)) (a.trans e),kb h.g t (a.trans e),HO n j ad,Option.or_assoc];congr 1;unfold dt ao at *;by_cases g:p.W<=i
  .rw[aa g,aa ad];congr 1;omega
  rw[dZ g,dZ ad]
 have r:dt p i=none:=by
  unfold dt;split
  .exact kc (by unfold ao at e;omega)
  rfl
 rw[r,m9 h.g c λw f=>⟨λz=>⟨w,(((b w).1 z).resolve_left λy=>e (by rw[<-f,y];exact a.symm)).1,R,R⟩,λz=>⟨w,(b w).2 (.inr ⟨z,λy=>e (by rw[<-y,f])⟩),R,R⟩⟩];rfl
def KK{d}{q}{m}(h:h6 d q m){w}(a:dh d w)(A:w.data.size≠0)(left):
  h6 (wB d w.S) (Bi q 4 w.S left w.data) m/\∀i,i<m.size->hQ (wB d w.S) (Bi q 4 w.S left w.data) m i=hQ d q m i:=by
 have n:=h.g.Y5 w.S;have c:=(ol h.g a).S;have b:=λv=>HM h.g (agY:=w.S) v;have l:∀i,ep (Bi q 4 w.S left w.data) m i=if w.S=ao i then gb w.data (i%16)else ep q m i:=λi=>by
  rw[ur,my h.g a];split
  .obtain⟨x,j⟩:=oq h.g a ad;rw[j];rfl
  rfl
 refine⟨⟨n,h.al,λv t r p i o e=>?_⟩,λi o=>?_⟩
 .rw[l];rcases(b v).1 t with ⟨u,f,k,g⟩|z
  .have:=qq h.g f a (k.trans c);subst this g;rw[aa e]
  rw[dZ (λy=>z.2 (by rw[e, <-y,c]))];exact h.cl v z.1 r p i o e
 show(gg _ i).or _=(gg d i).or _;have s:gg (wB d w.S) i=gg d i:=m9 h.g n λv _=>⟨λz=>by
  rcases(b v).1 z with ⟨u,f,k,g⟩|y
  .subst g;exact⟨u,f,rfl,rfl⟩
  .exact⟨v,y.1,rfl,rfl⟩,λz=>by
  by_cases e:v.S=ao w.S
  .exact⟨{v with f:=false},(b _).2 (.inl ⟨v,z,e,R⟩),R,R⟩
  exact⟨v,(b v).2 (.inr ⟨z,e⟩),R,R⟩⟩
 rw[s,l];split
 .rename_i e;rw[kb h.g a e];obtain⟨x,j⟩:=oq h.g a ad;rw[j];rfl
 rfl
def m_{c d:Co}(h:ic c d)(b:d.V=c.V):Xr d=Xr c:=qc h.j λi a=>by rw[b];exact am _ (h.un i a)
def v1{c}(h:c.mc):(tY c).mc/\Xr (tY c)=Xr c/\(tY c).mem.size=c.mem.size:=by
 have g:(bg c).mc/\Xr (bg c)=Xr c/\(bg c).mem=c.mem:=by
  cases f:c.V with
  |nil=>
   have m:bg c={c with V:=[],data:=c.data}:=by unfold bg;rw[f];rfl
   rw[m]
   exact⟨h,by unfold Xr;rw[f],R⟩
  | cons p l=>
   have m:bg c={c with V:=(sL (p::l) c.data).1,data:=(sL (p::l) c.data).2.1}:=by unfold bg;rw[f]
   rw[m];by_cases j:(xL c.data p.W p.data).2=true
   .rw[show sL (p::l) c.data=(l,(xL c.data p.W p.data).1,true)from aa j];have k:=IS h j;refine⟨k.1,?_,R⟩;unfold Xr;refine qc R λi n=>?_;rw[f,l3,Option.or_assoc,k.2 i n]
   .rw[show sL (p::l) c.data=(p::l,c.data,false)from dZ j];exact⟨h,by unfold Xr;rw[f],R⟩
 have q:∀{d:Co},d.mc->(f_ d).mc/\Xr (f_ d)=Xr d/\(f_ d).mem.size=d.mem.size:=λ{d} k=>by
  unfold f_;split
  .exact⟨k,R,R⟩
  .split
   .have z:=λl=>na k (k:=3) dT l oZ;exact⟨(z _).mc,m_ (z _) R,(z _).j⟩
   .exact⟨k,R,R⟩
 have o:∀{d:Co},d.mc->(ec d).mc/\Xr (ec d)=Xr d/\(ec d).mem.size=d.mem.size:=λ{d} k=>by
  unfold ec;split
  .exact⟨k,R,R⟩
  .unfold pE;split
   .rename_i w e;split
    .rename_i f;have j:dh d.data w:=by
      unfold cR at e;split at e
      .exact List.mem_of_find?_eq_some e
      .cases e
     have z:=KK k j f (lX d.Q d.asked);refine⟨z.1,?_,R⟩;unfold Xr;exact qc R λi n=>am _ (z.2 i n)
    .exact⟨k,R,R⟩
   .exact⟨k,R,R⟩
 rw[mO];split
 .have a:=q g.1;have b:=o a.1;exact⟨b.1,b.2.1.trans (a.2.1.trans g.2.1),b.2.2.trans (a.2.2.trans (by rw[g.2.2]))⟩
 .have b:=o g.1;exact⟨b.1,b.2.1.trans g.2.1,b.2.2.trans (by rw[g.2.2])⟩
def fc{c d:Co}(h:c.mc)(a:d.data=c.data)(b:d.U=c.U)(e:d.mem=c.mem):d.mc:=by
 show h6 d.data d.U d.mem;rwa[a,b,e]
theorem ov:∀(n:Nat) (c:Co),(∀e∈c.Z,e.ok)->c.mc->(c5 n c).mc
 |0,_,_,h=>h
 | n + 1,c,d,h=>by
  unfold c5;split
  .exact h
  .split
   .exact h
   .rename_i e l a;split
    .exact h
    .split
     .exact fc h R R R
     .split
      .exact h
      .have b:=d e (by rw[a];exact dg);refine ov n _ (λx f=>d x (by rw[a];exact bY _ f)) ?_;have hp:(fZ c (cA e)).mc:=fc h R R R;unfold io vG;split
       .exact fc (q3 hp (fE b).W).mc R R R
       .exact fc h R R R
def K0{c}(h:c.mc)(i):(oE c i).mc:=by
 have a:=λl=>(na h (k:=1) dT l oZ).mc;unfold oE
 repeat' split
 all_goals first|exact h|exact (λe=>fc h R R R) _|exact fc (a _) rfl rfl rfl
def IT{c}(h:c.mc)(i):(iS c i).mc:=by
 have a:∀e,(fh c i e).mc:=λe=>fc h R R R;unfold iS
 repeat' split
 all_goals first|exact h|exact a _|exact K0 (a _) _
theorem qf:∀(p:List Nat) (c:Co),c.mc->(p.foldl iS c).mc
 |[],_,h=>h
 |i::p,c,h=>qf p _ (IT h i)
theorem qz:∀(n:Nat) (c:Co),c.mc->(ez n c).mc
 |0,_,h=>h
 |n+1,c,h=>by
  unfold ez
  repeat' split
  .exact h
  .exact h
  .exact qz n _ (fc h R R R)
theorem q4:∀(n:Nat) (c:Co),c.mc->(ed n c).mc
 |0,_,h=>h
 | n +1,c,h=>by
  unfold ed;split
  .exact h
  .split
   .exact fc h R R R
   .split
    .split
     .exact(na h (k:=2) dT _ _).mc
     .exact h
    .refine q4 n _ ?_;have a:∀w,(dM {c with u:=tO c.u (ao c.J)} w).1.mc:=λw=>by
      unfold dM
      repeat' split
      all_goals exact fc h R R R
     exact fc (a (a8 c.prog c.J)) R R R
def K1{c}{n}(l:c.E n)(k:n+20<=890000)(h:c.mc):(g6 c).mc:=by
 have e:=Ql l k;have f:(s0 c).mc:=fc h R R R;have g:(s1 c).mc:=(ou f e.k0.ok.Z_).mc;have i:(s2 c).mc:=by
  show(kK _).mc;unfold kK
  repeat' split
  all_goals exact fc g R R R
 have a:(s3 c).mc:=ov _ _ e.k2.ok.Z6 i;have b:(eC c).mc:=by
  show(gY _).mc;unfold gY;split
  .exact a
  exact qf _ _ a
 have d:(e6 c).mc:=by
  show(lP _).mc;unfold lP;split
  .exact b
  exact qz _ _ b
 have j:(e7 c).mc:=by
  show(eN _).mc;unfold eN;split
  .exact d
  exact q4 _ _ d
 exact(v1 j).1
def J1(cf)(prog)(m)(d:(fX cf prog m).E 0):(fX cf prog m).mc:=by
 have a:∀w, ¬dh (fX cf prog m).data w:=λw b=>by
  let⟨s,e,c⟩:=List.mem_flatten.1 b;rw[(List.mem_replicate.1 e).2]at c;exact absurd c List.not_mem_nil
 refine⟨d.gd,?_,λw b=>absurd b (a w)⟩;show(jB m).size%16=0;let⟨n,a⟩:∃n,(jB m).size=hY n:=⟨_,wE m⟩;rw[a];unfold hY
 (repeat' split)<;>rfl
theorem oj{X:Co}(a:∀k,k<=3000->ib X k)(h:X.mc):∀k,k<=3000->(uN X k).mc
 |0,_=>h
 |k+1,b=>by
  have g:=a k ad;show(uG (uN X k)).mc;rw[show uG (uN X k)=g6 (uN X k)from aa g.rt];exact K1 (EL g.ok ad g.rt) ad (oj a h k ad)
structure T9(c:Co):Prop where
 st:c.halt≠0->c.Z=[]/\c.L=[]
structure nF(c d:Co):Prop where
 ret:d.N=c.N
 r:d.r=c.r
 halt:d.halt=c.halt
 Z:c.Z=[]->d.Z=[]
 Z5:d.L=c.L
 J:d.J=c.J
theorem nF.trans{a b c}(h:nF a b)(k:nF b c):nF a c:=⟨k.ret.trans h.ret,k.r.trans h.r,k.halt.trans h.halt,λz=>k.Z (h.Z z),k.Z5.trans h.Z5,k.J.trans h.J⟩
end Go.Proofs.YtiaekocjeinkjaaGreatDoor
