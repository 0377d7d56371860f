import Derived.Test.YtiaekocjeinkjaaGreatDoorLaysR
import Derived.Test.YtiaekocjeinkjaaGreatDoorS38
set_option linter.all false
namespace Go.Proofs.YtiaekocjeinkjaaGreatDoor
open Go.RowKit
def gh(e:ai):xJ e=true↔((0<=e.is/\e.is<=3)/\(e.is=1->0<e.left)/\(e.is≠1->e.left=0)/\(e.is=2->aj e.i.op=3/\e.known=true)/\(e.halt≠0->e.is=3\/(e.is=1/\aj e.i.op=5/\e.halt=3))/\(Xq e.i=true\/e.halt=1\/e.halt=2)):=by
 unfold xJ;by_cases i:e.is<0\/e.is>3
 .rw[aa i];exact⟨λh=>(by cases h),λh=>by omega⟩
 rw[dZ i];by_cases f:(e.is=1/\e.left<=0)\/(e.is≠1/\e.left≠0)
 .rw[aa f];refine⟨λh=>(by cases h),λ⟨_,a,b,_⟩=>?_⟩;rcases f with ⟨x,y⟩|⟨x,y⟩
  .have:=a x;omega
  .exact absurd (b x) y
 rw[dZ f];by_cases c:e.is=2/\(aj e.i.op≠3\/e.known=false)
 .rw[aa c];refine⟨λh=>(by cases h),λ⟨_,_,_,a,_⟩=>?_⟩;have:=a c.1;rcases c.2 with x|x
  .exact absurd this.1 x
  .rw[this.2]at x;cases x
 rw[dZ c];by_cases d:e.halt≠0/\e.is≠3/\ ¬(e.is=1/\aj e.i.op=5/\e.halt=3)
 .rw[aa d];refine⟨λh=>(by cases h),λ⟨_,_,_,_,a,_⟩=>?_⟩;rcases a d.1 with x|x
  .exact absurd x d.2.1
  .exact absurd x d.2.2
 rw[dZ d];have k:e.is=2->aj e.i.op=3/\e.known=true:=λx=>by
  refine⟨dw λy=>c ⟨x,.inl y⟩,?_⟩
  cases n:e.known with
  |true=>rfl
  |false=>exact absurd ⟨x,.inr n⟩ c
 have l:e.halt≠0->e.is=3\/(e.is=1/\aj e.i.op=5/\e.halt=3):=λx=>dw λy=>d ⟨x,λz=>y (.inl z),λz=>y (.inr z)⟩;have j:e.is=1->0<e.left:=λx=>dw λy=>f (.inl ⟨x,oT⟩);have m:e.is≠1->e.left=0:=λx=>dw λy=>f (.inr ⟨x,y⟩);by_cases g:Xq e.i=true
 .rw[aa g];exact⟨λ_=>⟨oT,j,m,k,l,.inl g⟩,λ_=>rfl⟩
 .rw[dZ g];refine⟨λh=>⟨oT,j,m,k,l,.inr (sU h)⟩,λ⟨_,_,_,_,_,a⟩=>?_⟩;rcases a with a|a
  .exact absurd a g
  .simpa using a
structure eS(M:Int)(e:ai):Prop where
 st:xJ e=true
 kn:e.known=true->aj e.i.op=3\/aj e.i.op=4->kZ M e.W (bh e.i.op)=true
 s4:aj e.i.op=4->e.is=0\/e.is=3
 k4:aj e.i.op=4->e.is=3->e.halt=0->e.known=true
theorem eS.go{M:Int}{e:ai}(h:eS M e):eS M (bn e):=by
 obtain⟨i,l,m,j,k,d⟩:=(gh e).1 h.st;unfold bn;by_cases c:e.is≠1
 .rw[aa c];exact h
 rw[dZ c];have c:e.is=1:=cw.1 c;have g:aj e.i.op≠4:=λq=>by rcases h.s4 q with x|x<;>omega
 by_cases f:wrap64 (e.left-1)<=0
 .rw[aa f];refine⟨(gh _).2 ⟨by simp,λq=>absurd q (by simp),λ_=>rfl,λq=>absurd q (by simp),λ_=>.inl R,d⟩,λa b=>?_,λq=>absurd q g,λq=>absurd q g⟩;refine h.kn ?_ b;have a:(if aj e.i.op=5/\e.halt=0 then true else e.known)=true:=a;have b:aj e.i.op=3\/aj e.i.op=4:=b
  rwa [dZ ad]at a
 rw[dZ f];refine⟨(gh _).2 ⟨i,λ_=>by show 0<wrap64 (e.left-1);omega,λq=>absurd c q,j,k,d⟩,h.kn,h.s4,h.k4⟩
def I4{c:Int}{a b:Nat}(d:aj c=2)(g:a<=4294967295)(h:b<=4294967295):0<e8 c a b:=by
 have i:42<=c/\c<=45:=by
  unfold aj at d
  (repeat' split at d)<;>omega
 unfold e8;rw[dZ ad];split
 .decide
 rename_i q;have e:cd c b<=cd c a:=oT;have f:=yJ c b ad (λz=>q (.inl z));have:=Kz (cd c b) (cd c a) (pT c b ad) (pT c a ad) e ad;omega
theorem eS.start{M:Int}{e:ai}(h:eS M e){a b:Nat}(n:a<=4294967295)(o:b<=4294967295):eS M (rJ e a b):=by
 obtain⟨p,r,s,t,m,d⟩:=(gh e).1 h.st;unfold rJ;by_cases i:e.is≠0\/aj e.i.op=3\/aj e.i.op=4
 .rw[aa i];exact h
 rw[dZ i];have g:e.halt=0:=dw λq=>by rcases m q with x|x<;>omega
 have c:aj e.i.op≠4:=λq=>i (.inr (.inr q));have f: ¬(aj e.i.op=3\/aj e.i.op=4):=λq=>i (.inr q);by_cases l:aj e.i.op=1
 .rw[aa l];exact⟨(gh _).2 ⟨by simp,λ_=>by simp,λq=>absurd R q,λq=>absurd q (by simp),λq=>absurd g q,d⟩,λ_ q=>absurd q f,λq=>absurd q c,λq=>absurd q c⟩
 rw[dZ l];by_cases j:aj e.i.op=2
 .rw[aa j];exact⟨(gh _).2 ⟨by simp,λ_=>by have:=I4 j n o;show(0:Int)<((e8 e.i.op a b:Nat):Int);omega,λq=>absurd R q,λq=>absurd q (by simp),λq=>absurd g q,d⟩,λ_ q=>absurd q f,λq=>absurd q c,λq=>absurd q c⟩
 rw[dZ j];by_cases k:aj e.i.op=5
 .rw[aa k];split
  .exact⟨(gh _).2 ⟨by simp,λ_=>by simp,λq=>absurd R q,λq=>absurd q (by simp),λq=>absurd g q,d⟩,λ_ q=>absurd q f,λq=>absurd q c,λq=>absurd q c⟩
  refine⟨(gh _).2 ⟨by simp,λ_=>by simp,λq=>absurd R q,λq=>absurd q (by simp),λ_=>.inr ⟨R,k,R⟩,?_⟩,λ_ q=>absurd q f,λq=>absurd q c,λq=>absurd q c⟩;rcases d with x|x|x
  .exact .inl x
  .omega
  omega
 rw[dZ k];exact⟨(gh _).2 ⟨by simp,λ_=>by simp,λq=>absurd R q,λq=>absurd q (by simp),λq=>absurd g q,d⟩,λ_ q=>absurd q f,λq=>absurd q c,λq=>absurd q c⟩
theorem eS.W{M:Int}{e:ai}(h:eS M e)(a:Nat):eS M (yC e M a):=by
 obtain⟨i,j,c,n,d,f⟩:=(gh e).1 h.st;unfold yC;by_cases b:(aj e.i.op≠3/\aj e.i.op≠4)\/e.is≠0\/e.known=true
 .rw[aa b];exact h
 rw[dZ b];have p:e.is=0:=dw λq=>b (.inr (.inl q));have o:e.halt=0:=dw λq=>by rcases d q with x|x<;>omega
 have k:e.left=0:=c ad;split
 .rename_i m;exact⟨(gh _).2 ⟨i,j,c,λq=>absurd (show e.is=2 from q) ad,d,f⟩,λ_ _=>m,h.s4,λ_ _ _=>rfl⟩
 .have g:e.known=false:=by cases l:e.known with
   |false=>rfl
   |true=>exact absurd (.inr (.inr l)) b
  refine⟨(gh _).2 ⟨by simp,λq=>absurd q (by simp),λ_=>k,λq=>absurd q (by simp),λ_=>.inl R,?_⟩,λq=>(by rw[show e.known=true from q]at g;cases g),λ_=>.inr R,λ_ _ q=>?_⟩
  .rcases f with x|x|x
   .exact .inl x
   .omega
   .omega
  .have q:(if aj e.i.op=4 then(5:Int)else 4)=0:=q;split at q<;>omega
theorem eS.take{M:Int}{e:ai}(h:eS M e)(s:ByteArray):eS M (uM e s):=by
 obtain⟨f,g,i,j,b,c⟩:=(gh e).1 h.st;unfold uM;by_cases a:aj e.i.op≠3\/e.known=false\/(e.is≠0/\e.is≠2)
 .rw[aa a];exact h
 rw[dZ a];have k:aj e.i.op=3:=dw λq=>a (.inl q);have d:e.halt=0:=dw λq=>by rcases b q with x|x<;>omega
 exact⟨(gh _).2 ⟨by simp,λ_=>by simp,λq=>absurd R q,λq=>absurd q (by simp),λq=>absurd d q,c⟩,h.kn,λq=>absurd (show aj e.i.op=4 from q) ad,λq=>absurd (show aj e.i.op=4 from q) ad⟩
theorem eS.store{M:Int}{e:ai}(h:eS M e)(b:Nat):eS M (uF e b):=by
 obtain⟨i,j,c,k,l,d⟩:=(gh e).1 h.st;unfold uF;by_cases a:aj e.i.op≠4\/e.known=false\/e.is≠0
 .rw[aa a];exact h
 rw[dZ a];have m:e.is=0:=dw λq=>a (.inr (.inr q))
 have f:e.known=true:=by cases g:e.known with
  |true=>rfl
  |false=>exact absurd (.inr (.inl g)) a
 exact⟨(gh _).2 ⟨by simp,λq=>absurd q (by simp),λ_=>c ad,λq=>absurd q (by simp),λ_=>.inl R,d⟩,h.kn,λ_=>.inr R,λ_ _ _=>f⟩
theorem eS.fill{M:Int}{e:ai}(h:eS M e)(c:Co)(agY:Nat):eS M (wO c agY e):=by
 unfold wO;split
 .exact eS.take (e:={e with Z8:=true}) ⟨h.st,h.kn,h.s4,h.k4⟩ _
 exact h
theorem eS.wait{M:Int}{e:ai}(h:eS M e)(a:aj e.i.op=3)(f:e.known=true)(i:e.is=0\/e.is=2):eS M {e with is:=2}:=by
 obtain⟨j,k,g,l,b,c⟩:=(gh e).1 h.st;have d:e.halt=0:=dw λq=>by rcases b q with x|x<;>omega
 exact⟨(gh _).2 ⟨by simp,λq=>absurd q (by simp),λ_=>g ad,λ_=>⟨a,f⟩,λq=>absurd d q,c⟩,h.kn,λq=>absurd (show aj e.i.op=4 from q) ad,λq=>absurd (show aj e.i.op=4 from q) ad⟩
def M8(e:ai):(bn e).no=e.no:=by unfold bn;(repeat' split)<;>rfl
def I5(e:ai)(a b:Nat):(rJ e a b).no=e.no:=by unfold rJ;(repeat' split)<;>rfl
def vw(e:ai)(M:Int)(a:Nat):(yC e M a).no=e.no:=by unfold yC;(repeat' split)<;>rfl
def qj(e:ai)(s:ByteArray):(uM e s).no=e.no:=by unfold uM;split<;>rfl
def I6(e:ai)(b:Nat):(uF e b).no=e.no:=by unfold uF;split<;>rfl
def I7(c:Co)(agY:Nat)(e:ai):(wO c agY e).no=e.no:=by
 unfold wO;split
 .rw[qj]
 rfl
structure eh(M nx:Int)(l:List ai):Prop where
 ev:∀e∈l,eS M e/\e.no<nx
 up:(l.map (·.no)).Pairwise (· < ·)
theorem eh.nil{M a:Int}:eh M a []:=⟨λ_ h=>(List.not_mem_nil h).elim,.nil⟩
theorem eh.map{M c:Int}{l:List ai}(h:eh M c l){f:ai->ai}(g:∀e,eS M e->eS M (f e))(a:∀e,(f e).no=e.no):eh M c (l.map f):=by
 refine⟨λe d=>?_,?_⟩
 .obtain⟨x,b,rfl⟩:=pG.1 d;exact⟨g x (h.ev x b).1,by rw[a];exact(h.ev x b).2⟩
 rw[List.map_map,show((λe:ai=>e.no)∘f)=λe=>e.no from funext a];exact h.up
theorem eh.set{M d:Int}{l:List ai}(h:eh M d l){i:Nat}{x e:ai}(a:l[i]?=some x)(f:eS M e)(c:e.no=x.no):eh M d (l.set i e):=by
 refine⟨λy k=>?_,?_⟩
 .rcases List.mem_or_eq_of_mem_set k with q|rfl
  .exact h.ev y q
  exact⟨f,by rw[c];exact(h.ev x (aB a)).2⟩
 rw[List.map_set,c];rw[show(l.map (·.no)).set i x.no=l.map (·.no)from ?_]
 .exact h.up
 refine dD λj=>?_;by_cases b:i=j
 .subst b;have g:=(Em.1 a).1;rw[aZ (by rw[aH];exact g),aX,a];rfl
 rw[kX b]
theorem eh.sub{M b:Int}{l k:List ai}(h:eh M b l)(a:k.Sublist l):eh M b k:=
 ⟨λe c=>h.ev e (a.mem c),h.up.sublist (a.map _)⟩
theorem eh.cut{M c:Int}{l:List ai}(h:eh M c l)(i:Nat):eh M c (DY l i):=by
 unfold DY;split
 .rename_i e b;have d:=(Em.1 b).1;have f:(l.take i++[{e with K:=e.next}])=(l.set i {e with K:=e.next}).take (i+1):=by
   rw[bW,aZ d,List.take_set_of_le (aC _)];rfl
  rw[f];have a:=(h.ev e (aB b)).1;exact(h.set b (e:={e with K:=e.next}) ⟨a.st,a.kn,a.s4,a.k4⟩ R).sub (List.take_sublist _ _)
 exact h
theorem eh.push{M d:Int}{l:List ai}(h:eh M d l){e:ai}(i:eS M e)(j:e.no=d):eh M (d+1) (l++[e]):=by
 refine⟨λy c=>?_,?_⟩
 .rcases dz.1 c with q|q
  .have:=h.ev y q;exact⟨this.1,oT⟩
  rw[uJ.1 q];exact⟨i,oT⟩
 rw[dH,List.pairwise_append];refine⟨h.up,List.pairwise_singleton _ _,λa g b f=>?_⟩;obtain⟨y,c,rfl⟩:=pG.1 g;have:=(h.ev y c).2;have f:b=e.no:=sU f;omega
theorem eh.right{M f:Int}{l:List ai}(h:eh M f l)(c:l.length<=8):Ff l=true:=by
 unfold Ff;rw[aP,rC];refine⟨jP c,λi g=>?_⟩;unfold IB;split
 .rename_i e a;rw[aP];refine⟨?_,(h.ev e (aB a)).1.st⟩
  cases i with
  |zero=>rfl
  |succ i=>
   have j:=(Em.1 a).1;have d:l[i]?=some (l[i]'ad):=aA ad;have:=List.pairwise_iff_getElem.1 h.up i (i+1) (by rw[aH];omega) (by rw[aH];omega) ad;rw[List.getElem_map,List.getElem_map]at this;have b:l[i+1]=e:=(Em.1 a).2;rw[b]at this;unfold pn;rw[(oT:i+1-1=i),d];simp[this]
 .rfl
theorem eh.V{M a:Int}{r:Nat->Nat}{l:List ai}(h:eh M a l):∀k,eh M a (cN r l k)
 |0=>h
 | k+1=>by
  have ih:=eh.V (r:=r) h k;show eh M a (gm r (cN r l k) k);unfold gm;split
  .rename_i e b;split
   .split
    .exact ih.set b ((ih.ev e (aB b)).1.store _) (I6 _ _)
    .exact ih
   .exact ih
  .exact ih
def m7(c:Ca)(k:Nat)(s:List Wy):(rK c k s).O.length=c.O.length/\(rK c k s).ways=c.ways:=⟨cC,R⟩
def uu(c:Ca)(agY:Nat):(tO c agY).O.length=c.O.length/\(tO c agY).ways=c.ways:=by
 unfold tO;split
 .exact m7 _ _ _
 exact⟨R,R⟩
def vc(c:Ca)(agY:Nat)(d:ByteArray)(b:Bool):(qZ c agY d b).1.O.length=c.O.length/\(qZ c agY d b).1.ways=c.ways:=by
 unfold qZ;split
 .split
  .exact m7 _ _ _
  split<;>exact m7 _ _ _
 exact⟨R,R⟩
def E4(c:Ca)(a:Nat)(b:ByteArray):(xL c a b).1.O.length=c.O.length/\(xL c a b).1.ways=c.ways:=by
 unfold xL;split
 .split
  .split
   .exact⟨R,R⟩
   exact m7 _ _ _
  exact⟨R,R⟩
 exact⟨R,R⟩
def E5(c:Ca)(agY:Nat):(wB c agY).O.length=c.O.length/\(wB c agY).ways=c.ways:=by
 unfold wB;split
 .exact m7 _ _ _
 exact⟨R,R⟩
def E6(c:Co)(agY:Nat):(oK c agY).data.O.length=c.data.O.length/\(oK c agY).data.ways=c.data.ways:=by
 have hp:=vc c.data (ao agY) (Ga (jZ c.U c.mem) (ao agY)) false;unfold oK;rcases a:iQ c.data c.U c.mem agY (lX c.Q c.asked)with ⟨d,q,b⟩;show d.O.length=_/\d.ways=_;unfold iQ at a;split at a
 .cases a;exact⟨R,R⟩
 split at a
 .cases a;exact uu _ _
 split at a
 rename_i e;rw[e]at hp;split at a<;>(cases a;exact hp)
structure cq(q:Int)(c:Co):Prop where
 ro:eh c.mem.size c.next c.Z
 lo:0<=c.next
 nx:c.next<=q
 da:(c.data.O.length:Int)=c.Q.O/\c.data.ways=c.Q.ways
 wo:(c.u.O.length:Int)=c.Q.O/\c.u.ways=c.Q.ways
 sp:∀p∈c.V,kZ c.mem.size p.W p.data.size=true
 pg:c.prog.length<=64
def vd(c:Co)(agY:Nat):(oK c agY).mem=c.mem/\(oK c agY).next=c.next/\(oK c agY).Z=c.Z/\(oK c agY).Q=c.Q/\(oK c agY).u=c.u/\(oK c agY).V=c.V/\(oK c agY).prog=c.prog:=by
 rw[<-uY];exact⟨R,R,R,R,R,R,R⟩
theorem cq.ZJ{q:Int}{c:Co}(h:cq q c)(agY:Nat):cq q (oK c agY):=by
 obtain⟨b,a,f,d,g,i,j⟩:=vd c agY;have e:=E6 c agY;exact⟨by rw[b,a,f];exact h.ro,by rw[a];exact h.lo,by rw[a];exact h.nx,by rw[e.1,e.2,d];exact h.da,by rw[g,d];exact h.wo,by rw[i,b];exact h.sp,by rw[j];exact h.pg⟩
theorem cq.Z{q:Int}{c d:Co}(h:cq q c)(k:eh c.mem.size c.next d.Z)(b:d.mem=c.mem)(a:d.next=c.next)(f:d.data=c.data)(g:d.u=c.u)(e:d.Q=c.Q)(i:d.V=c.V)(j:d.prog=c.prog):cq q d:=
 ⟨by rw[b,a];exact k,by rw[a];exact h.lo,by rw[a];exact h.nx,by rw[f,e];exact h.da,by rw[g,e];exact h.wo,by rw[i,b];exact h.sp,by rw[j];exact h.pg⟩
def I0{q:Int}{c:Co}(h:cq q c):cq q (lM c):=by
 have a:cq q (jJ c):=⟨h.ro,h.lo,h.nx,h.da,h.wo,h.sp,h.pg⟩;rw[kC];split
 .unfold ID
  repeat' split
  .exact a.Z (a.ro.map (λe b=>b.fill _ _) (λe=>I7 _ _ e)) R R R R R R R
  .have:=vc (jJ c).u (eH c.U).2.1.S oZ false;exact⟨a.ro,a.lo,a.nx,a.da,by show((qZ _ _ _ _).1.O.length:Int)=_/\(qZ _ _ _ _).1.ways=_;rw[this.1,this.2];exact a.wo,a.sp,a.pg⟩
  .exact a.ZJ _
  .have e:(rP (jJ c).mem [⟨(eH c.U).2.1.S,(eH c.U).2.1.data⟩]).size=(jJ c).mem.size:=iY ..;exact⟨by show eh ((rP _ _).size:Int) _ _;rw[e];exact a.ro,a.lo,a.nx,a.da,a.wo,by show ∀p∈_,kZ ((rP _ _).size:Int) _ _=true;rw[e];exact a.sp,a.pg⟩
  exact a
 exact a
def I1{q:Int}{c:Co}(h:cq q c):cq q (kK c):=by
 have a:eh c.mem.size c.next (b5 c):=eh.V (h.ro.map (λe b=>b.go) M8) _;unfold kK;split
 .exact h
 split
 .rename_i i _;exact h.Z (a.cut i) R R R R R R R
 exact h.Z a R R R R R R R
def HT(x n:Nat)(h:n=1\/n=2\/n=4):(oF x n).size=n:=by
 rcases h with rfl|rfl|rfl<;>rfl
def vZ{q:Int}{c:Co}(h:cq q c){e:ai}(m:e∈c.Z)(l:e.is=3):cq q (fZ c (cA e)):=by
 refine⟨h.ro,h.lo,h.nx,h.da,h.wo,?_,h.pg⟩;show ∀p∈(match iJ (cA e)with|some p=>c.V++[p]|none=>c.V),_;split
 .rename_i p hp;intro y s;rcases dz.1 s with r|r
  .exact h.sp y r
  .rw [uJ.1 r];have f:=(h.ro.ev e m).1;unfold iJ at hp;split at hp
   .cases hp
   .rename_i d;have a:(cA e).store=true:=by
     cases g:(cA e).store with
     |true=>rfl
     |false=>exact absurd (.inl g) d
    have b:e.halt=0/\aj e.i.op=4:=by
     unfold cA at a;by_cases i:e.halt≠0
     .rw[aa i]at a;exact absurd (show false=true from a) (by simp)
     .by_cases k:aj e.i.op=4
      .exact⟨cw.1 i,k⟩
      .rw[dZ i,dZ k]at a
       repeat' split at a
       all_goals exact absurd (show false=true from a) (by simp)
    have o:cA e=⟨e.M,b_ e.M,wr e.i,e.value,e.W,(bh e.i.op:Nat),true,0,0⟩:=by
     unfold cA;rw[dZ (λz=>z b.1),aa b.2]
    rw[o]at hp d;injection hp with hp;have n:=f.kn (f.k4 b.2 l b.1) (.inr b.2);have j:bh e.i.op=1\/bh e.i.op=2\/bh e.i.op=4:=by
     have d: ¬(((bh e.i.op:Nat):Int)≠1/\((bh e.i.op:Nat):Int)≠2/\((bh e.i.op:Nat):Int)≠4):=λz=>d (.inr (.inr z));omega
    have g:p.data.size=bh e.i.op:=by rw[<-hp];exact HT _ _ j
    rw[show p.W=e.W by rw[<-hp],g];exact n
 .exact h.sp
def HU{q:Int}{c:Co}(h:cq q c){e:ai}(b:e∈c.Z)(a:e.is=3):cq q (Bm c e):=by
 have k:=vZ h b a;exact⟨k.ro.sub (List.drop_sublist _ _),k.lo,k.nx,k.da,k.wo,k.sp,k.pg⟩
def HV{q:Int}{c:Co}(h:cq q c){e:ai}(b:e∈c.Z)(a:e.is=3):cq q (MP c e):=by
 have k:=(vZ h b a).ZJ (cA e).W;rw[<-uY]at k;exact⟨eh.sub (l:=c.Z) k.ro (List.drop_sublist _ _),k.lo,k.nx,k.da,k.wo,k.sp,k.pg⟩
theorem q5{q:Int}:∀(n:Nat) (c:Co),cq q c->cq q (bx n c)
 |0,_,h=>h
 | n +1,c,h=>by
  by_cases f:c.halt≠0\/c.Z.length=0
  .rw[mG f];exact h
  .have e:c.Z[0]?=some (c.Z[0]'ad):=aA ad;have d:=aB e;rw[iX ad (λr=>f (.inl r)) e];split
   .exact h
   .rename_i a;have a:=cw.1 a;split
    .exact⟨eh.nil,h.lo,h.nx,h.da,h.wo,h.sp,h.pg⟩
    .split
     .exact h
     .rw[kB];by_cases b:aj (c.Z[0]'ad).i.op=3
      .rw[Ke b];exact q5 n _ (HV h d a)
      .rw[An b];exact q5 n _ (HU h d a)
theorem cq.setE{q:Int}{c:Co}(h:cq q c){i:Nat}{x e:ai}(d:c.Z[i]?=some x)(a:eS c.mem.size e)(b:e.no=x.no):cq q (fh c i e):=h.Z (h.ro.set d a b) R R R R R R R
def K3(e:ai)(M:Int)(a:Nat)(c:e.is=0):(yC e M a).known=true->(yC e M a).is=0\/e.known=false/\(yC e M a).is=0:=by
 intro b;unfold yC at b⊢;split
 .exact .inl c
 rename_i d;rw[dZ d]at b;split
 .exact .inl c
 rename_i f;rw[dZ f]at b;exact absurd (show e.known=true from b) (λz=>d (.inr (.inr z)))
def K4{q:Int}{c:Co}(h:cq q c){i:Nat}{x:ai}(a:c.Z[i]?=some x)(e:aj x.i.op=3)(j:x.known=true->x.is=0):cq q (oE c i):=by
 have b:=(h.ro.ev x (aB a)).1;unfold oE;rw[a];dsimp only;split
 .exact h
 .rename_i f
  have d:x.known=true:=by cases k:x.known with
   |true=>rfl
   |false=>exact absurd k f
  have g:=b.wait e d (.inl (j d))
  repeat' split
  .exact h.setE a (b.take _) (qj _ _)
  .exact h
  .exact h.setE a (b.take _) (qj _ _)
  .exact h.setE a g R
  .exact cq.setE (c:=jE c 1 (ao x.W) oZ) ⟨h.ro,h.lo,h.nx,h.da,h.wo,h.sp,h.pg⟩ a g R
  .exact h
def J3{l:List ai}{i:Nat}{x e:ai}(a:l[i]?=some x):(l.set i e)[i]?=some e:=aZ (Em.1 a).1
def I2{q:Int}{c:Co}{n:Nat}(f:c.E n)(h:cq q c){i:Nat}(j:∀e,c.Z[i]?=some e->e.is=0):cq q (iS c i):=by
 have d:=Cj f.ok.Z6 f.ok.r i;unfold iS
 cases a:c.Z[i]? with
 |none=>exact h
 | some e=>
  have b:=(h.ro.ev e (aB a)).1;have g:=j e a;dsimp only;split
  .exact h.setE a (b.W _) (vw _ _ _)
  .split
   .rename_i l;have k:aj (yC e c.mem.size (mI c.Z c.r i).1).i.op=3:=by
     unfold yC
     (repeat' split)<;>exact l
    exact K4 (h.setE a (b.W _) (vw _ _ _)) (J3 a) k (λz=>(K3 e _ _ g z).elim id (·.2))
   .exact h.setE a (b.start d.1 d.2) (I5 _ _ _)
def pb{l:List ai}{i j:Nat}{e:ai}(h:i≠j):(l.set i e)[j]?=l[j]? :=kX h
def F_(c:Co){i j:Nat}(h:i≠j):(oE c i).Z[j]?=c.Z[j]? :=by
 unfold oE;split
 .rfl
 (try dsimp only)
 repeat' split
 all_goals first|rfl|exact pb h
def E7(c:Co){i j:Nat}(h:i≠j):(iS c i).Z[j]?=c.Z[j]? :=by
 unfold iS;split
 .rfl
 (try dsimp only)
 split
 .exact pb h
 split
 .rw[F_ _ h];exact pb h
 exact pb h
theorem ve{q:Int}:∀(p:List Nat) (c:Co) (n:Nat),c.E n->n+p.length<=890000->cq q c->p.Pairwise (· < ·)->(∀i∈p,∀e,c.Z[i]?=some e->e.is=0)->cq q (p.foldl iS c)
 |[],_,_,_,_,h,_,_=>h
 |i::p,c,n,f,l,h,hp,b=>by
  have m:(i::p).length=p.length+1:=rfl;rw[m]at l;obtain⟨g,k⟩:=List.pairwise_cons.1 hp;refine ve p _ (n+1) (yY f ad i).1 ad (I2 f h (b i (ce ..))) k (λj d e a=>?_);have:=g j d;rw[E7 c ad]at a;exact b j (bY _ d) e a
theorem u2{agN:Int}{busy:Bool}{kinds:List Int}{can:List Bool}:∀k,(∀i∈(kA agN busy kinds can k).out,i<k/\can.getD i false=true)/\(kA agN busy kinds can k).out.Pairwise (· < ·)
 |0=>⟨λi d=>(List.not_mem_nil d).elim,.nil⟩
 | k + 1=>by
  have ih:=u2 (agN:=agN) (busy:=busy) (kinds:=kinds) (can:=can) k;have c:(∀i∈(kA agN busy kinds can k).out,i<k+1/\can.getD i false=true)/\(kA agN busy kinds can k).out.Pairwise (· < ·):=⟨λi d=>⟨oH ((ih.1 i d).1),(ih.1 i d).2⟩,ih.2⟩;show(∀i∈(IW agN kinds (kA agN busy kinds can k) k (can.getD k false)).out,_)/\(IW agN kinds (kA agN busy kinds can k) k (can.getD k false)).out.Pairwise _;unfold IW;split
  .exact c
  .split
   .exact c
   .rename_i h;split
    .exact c
    .refine⟨λi d=>?_,?_⟩
     .rcases dz.1 d with r|r
      .exact c.1 i r
      .rw[uJ.1 r]
       exact⟨oT,by cases g:can.getD k false with
        |true=>rfl
        |false=>exact absurd g h⟩
     .show((kA agN busy kinds can k).out++[k]).Pairwise _;rw[List.pairwise_append];refine⟨ih.2,List.pairwise_singleton _ _,λa e b f=>?_⟩;rw[uJ.1 f];exact(ih.1 a e).1
def J4{c:Co}{i:Nat}{e:ai}(h:dg c i=true)(a:c.Z[i]?=some e):e.is=0:=by
 unfold dg at h;rw[a]at h;dsimp only at h;split at h
 .cases h
 rename_i q;exact cw.1 q
def HW{q:Int}{c:Co}{n:Nat}(j:c.E n)(l:n+2<=890000)(h:cq q c):cq q (gY c):=by
 by_cases f:c.halt≠0
 .rw[show gY c=c from aa f];exact h
 have o:=pD j.cf;have m:=VH (agN:=c.Q.o) (busy:=c.Z.any IE) (kinds:=Fi c) (can:=Kv c) ad (Kv c).length;have d:=u2 (agN:=c.Q.o) (busy:=c.Z.any IE) (kinds:=Fi c) (can:=Kv c) (Kv c).length;rw[show gY c=(kA c.Q.o (c.Z.any IE) (Fi c) (Kv c) (Kv c).length).out.foldl iS c from dZ f];refine ve _ c n j ad h d.2 (λi k e b=>?_);have a:=(d.1 i k).2;have g:=(Em.1 b).1;refine J4 (i:=i) ?_ b;unfold Kv at a;rw[aR,aX,eZ g]at a;exact a
def I3{M:Int}(c:Int){f:Ft}{prog:List Nat}(hp:∀x∈prog,x<=4294967295):eS M (qB c f prog)/\(qB c f prog).no=c:=by
 have e:a8 prog f.M<4294967296:=CI (LN hp f.M);have a: ¬aj 0=4:=dT;unfold qB;split
 .exact⟨⟨(gh _).2 ⟨by simp,λq=>absurd q (by simp),λ_=>rfl,λq=>absurd q (by simp),λ_=>.inl R,.inr (.inl R)⟩,λq=>absurd (show false=true from q) (by simp),λq=>absurd (show aj 0=4 from q) a,λq=>absurd (show aj 0=4 from q) a⟩,R⟩
 split
 .exact⟨⟨(gh _).2 ⟨by simp,λq=>absurd q (by simp),λ_=>rfl,λq=>absurd q (by simp),λ_=>.inl R,.inr (.inr R)⟩,λq=>absurd (show false=true from q) (by simp),λq=>absurd (show aj 0=4 from q) a,λq=>absurd (show aj 0=4 from q) a⟩,R⟩
 rename_i d;have b:Xq (be (a8 prog f.M))=true:=(MZ _).2 (J6 _ d e);split
 .exact⟨⟨(gh _).2 ⟨by simp,λq=>absurd q (by simp),λ_=>rfl,λq=>absurd q (by simp),λ_=>.inl R,.inl b⟩,λq=>absurd (show false=true from q) (by simp),λ_=>.inr R,λ_ _ q=>absurd (show(6:Int)=0 from q) (by simp)⟩,R⟩
 split
 .exact⟨⟨(gh _).2 ⟨by simp,λq=>absurd q (by simp),λ_=>rfl,λq=>absurd q (by simp),λ_=>.inl R,.inl b⟩,λq=>absurd (show false=true from q) (by simp),λ_=>.inr R,λ_ _ q=>absurd (show(7:Int)=0 from q) (by simp)⟩,R⟩
 exact⟨⟨(gh _).2 ⟨(show(0:Int)<=0/\(0:Int)<=3 from⟨by simp,by simp⟩),λq=>absurd (show(0:Int)=1 from q) (by simp),λ_=>rfl,λq=>absurd (show(0:Int)=2 from q) (by simp),λq=>absurd R q,.inl b⟩,λq=>absurd (show false=true from q) (by simp),λ_=>.inl R,λ_ q=>absurd (show(0:Int)=3 from q) (by simp)⟩,R⟩
theorem u3:∀(n:Nat) (q:Int) (c:Co),(∀x∈c.prog,x<=4294967295)->q+n<=9000000->cq q c->cq (q+n) (cl n c)
 |0,q,c,_,_,h=>by rw[(oT:q+((0:Nat):Int)=q)];exact h
 | n+1,q,c,hp,g,h=>by
  by_cases b:(c.Z.length:Int)>=c.Q.Z\/c.L.length=0
  .rw[Ap b];exact⟨h.ro,h.lo,oH h.nx,h.da,h.wo,h.sp,h.pg⟩
  .have f:c.L[0]?=some (c.L[0]'ad):=aA ad;have e:=CU (n:=n+1) (k:=0) ad (λr=>b (.inl r)) f;rw[(oT:n+1-(0+1)=n),(oT:n+1-0=n+1)]at e;rw[<-e,(oT:q+((n+1:Nat):Int)=(q+1)+(n:Nat))];have a:wrap64 (c.next+1)=c.next+1:=F' (oH h.lo) (oH h.nx);have d:=I3 (M:=c.mem.size) c.next (f:=c.L[0]'ad) hp;refine u3 n (q+1) _ hp ad ⟨?_,?_,?_,h.da,h.wo,h.sp,h.pg⟩
   .show eh c.mem.size (wrap64 (c.next+1)) (c.Z++[_]);rw[a];exact h.ro.push d.1 d.2
   .show 0<=wrap64 (c.next+1);rw[a];have:=h.lo;omega
   .show wrap64 (c.next+1)<=_;rw[a];have:=h.nx;omega
theorem uv{q:Int}:∀(n:Nat) (c:Co),cq q c->cq q (ch n c)
 |0,_,h=>h
 | n +1,c,h=>by
  by_cases b:c.stop=true\/(c.L.length:Int)>=c.Q.queue
  .rw[yZ b];exact h
  .by_cases d:(es c.prog c.J).isSome=false
   .rw[Aq ad b d];exact⟨h.ro,h.lo,h.nx,h.da,h.wo,h.sp,h.pg⟩
   .by_cases g:(bK c.u (ao c.J)).2.isSome=false
    .rw[uD ad b d g];split
     .exact⟨h.ro,h.lo,h.nx,h.da,h.wo,h.sp,h.pg⟩
     .exact h
    .have e:=BC (n:=n+1) (k:=0) ad b d g;rw[(oT:n+1-(0+1)=n),(oT:n+1-0=n+1)]at e;rw[<-e];refine uv n _ ?_;have f:=uu c.u (ao c.J);have a:cq q (lJ c):=⟨h.ro,h.lo,h.nx,h.da,by show((tO _ _).O.length:Int)=_/\(tO _ _).ways=_;rw[f.1,f.2];exact h.wo,h.sp,h.pg⟩;have i:∀w,cq q (dM (lJ c) w).1:=by
      intro w;unfold dM
      repeat' split
      all_goals exact⟨a.ro,a.lo,a.nx,a.da,a.wo,a.sp,a.pg⟩
     have k:=i (a8 c.prog c.J);exact⟨k.ro,k.lo,k.nx,k.da,k.wo,k.sp,k.pg⟩
def HX{q:Int}{c:Co}(h:cq q c):cq q (tY c):=by
 have a:cq q (al c):=by
  refine⟨h.ro,h.lo,h.nx,?_,h.wo,?_,h.pg⟩
  .show((sL c.V c.data).2.1.O.length:Int)=_/\(sL c.V c.data).2.1.ways=_;unfold sL;split
   .exact h.da
   rename_i p l _;have:=E4 c.data p.W p.data;split
   .rw[this.1,this.2];exact h.da
   exact h.da
  show ∀p∈(sL c.V c.data).1,_;unfold sL;split
  .exact h.sp
  rename_i p l f;split
  .exact λy g=>h.sp y (by rw[f];exact bY _ g)
  exact h.sp
 have e:∀{d:Co},cq q d->cq q (c5 d):=λ{d} k=>by
  unfold c5;split
  .exact k
  split
  .exact⟨k.ro,k.lo,k.nx,k.da,k.wo,k.sp,k.pg⟩
  exact k
 have b:∀{d:Co},cq q d->cq q (cj d):=λ{d} k=>by
  unfold cj;split
  .exact k
  unfold pE;split
  .split
   .rename_i w _ _;have:=E5 d.data w.S;exact⟨k.ro,k.lo,k.nx,by show((wB _ _).O.length:Int)=_/\(wB _ _).ways=_;rw[this.1,this.2];exact k.da,k.wo,k.sp,k.pg⟩
   exact k
  exact k
 rw[mO];split
 .exact b (e a)
 exact b a
def l4(n lo a:Int)(h:0<=lo/\lo<=a):0<=bV n lo a:=by unfold bV;(repeat' split)<;>omega
def L2(c:Cf)(prog:List Nat)(m:ByteArray):Bd (bZ c) 0 (fX c prog m):=
 ⟨R,l4 _ 2 8 dT,l4 _ 1 4 dT,l4 _ 1 4 dT,l4 _ 2 6 dT,R⟩
def H6(c:Cf):0<=(bZ c).Z/\0<=(bZ c).queue:=⟨l4 _ 2 8 dT,l4 _ 1 4 dT⟩
def M9{f:Cf}(d:0<=f.Z/\0<=f.queue){c:Co}(h:Bd f c.N.length c):Bd f (uG c).N.length (uG c)/\c.N.length<=(uG c).N.length/\(uG c).N.length<=c.N.length+f.o.toNat:=by
 obtain⟨b,e,g,a⟩:=K8 d h;have:=a.ret;subst this;exact⟨a,e,g⟩
theorem cq.mono{q r:Int}{c:Co}(h:cq q c)(a:q<=r):cq r c:=⟨h.ro,h.lo,oH h.nx,h.da,h.wo,h.sp,h.pg⟩
def K2{q:Int}{c:Co}{n:Nat}(j:c.E n)(i:n+20<=890000)(k:q+2<=9000000)(h:cq q c):cq (q+2) (g6 c):=by
 have a:=Ql j i;have e:cq q (s0 c):=⟨h.ro,h.lo,h.nx,h.da,h.wo,h.sp,h.pg⟩;have f:cq q (s3 c):=q5 _ _ (I1 (I0 e));have b:cq q (eC c):=HW a.k3 ad f;have d:cq (q+2) (e6 c):=by
  show cq (q+2) (lP (eC c));have l:=pD a.k4.cf;unfold lP;split
  .exact b.mono ad
  exact(u3 _ q _ a.k4.ok.Z4 ad b).mono ad
 have g:cq (q+2) (e7 c):=by
  show cq (q+2) (eN (e6 c));unfold eN;split
  .exact d
  exact uv _ _ d
 exact HX g
def ut{x:ByteArray}(h:∃n,x.size=hY n):jB x=x:=by
 obtain⟨n,a⟩:=h;have b:x.size=16\/x.size=32\/x.size=64\/x.size=128\/x.size=256:=by rw[a];unfold hY;(repeat' split)<;>omega
 unfold jB;rw[(oT:min x.size 256=x.size),show hY x.size-x.size=0 by rcases b with e|e|e|e|e<;>rw[e]<;>rfl,List.replicate_zero,dY,show x.extract 0 x.size=x by simp]
 try (cases x;simp)
def HR{f:Cf}{a n:Nat}{q:Int}{c:Co}(b:c.E n)(d:Bd f a c)(h:cq q c)(l:∃n,c.mem.size=hY n):jF c=true:=by
 have m:=pD b.cf;have g:=d.Z;have i:=d.Z5;have j:=d.Z';rw[<-d.Q]at g i j;unfold jF;simp only[aP,aY,rC];refine⟨⟨⟨⟨⟨⟨⟨⟨⟨⟨⟨b.cf,h.pg⟩,?_⟩,h.ro.right ad⟩,g⟩,λe k=>(h.ro.ev e k).2⟩,?_⟩,?_⟩,b.K⟩,i⟩,j⟩,h.sp⟩
 .rw[ut l];simp
 .unfold Ax;simp only[aP,aY];exact⟨⟨b.data,h.da.1⟩,h.da.2⟩
 unfold Ax;simp only[aP,aY];exact⟨⟨b.u,h.wo.1⟩,h.wo.2⟩
structure ib(X:Co)(k:Nat):Prop where
 ok:(bz X k).ok (10*k)
 bd:Bd X.Q (bz X k).N.length (bz X k)
 rc:cq (1+2*k) (bz X k)
 ms:∃n,(bz X k).mem.size=hY n
 rt:jF (bz X k)=true
def J2(c:Cf)(prog:List Nat)(m:ByteArray)(f:c.ok)(hp:∀x∈prog,x<=4294967295)(X:Co)(e:X=fX c prog m)(b:jF X=true):ib X 0:=by
 have d:=Id c prog m f hp;subst e;refine⟨d,L2 c prog m,⟨eh.nil,(show(0:Int)<=1 from dT),(show(1:Int)<=1+2*((0:Nat):Int)from dT),?_,?_,λp hp=>(List.not_mem_nil hp).elim,?_⟩,⟨_,wE m⟩,b⟩;rotate_left 2
 .show(prog.take (min prog.length 64)).length<=64;rw[aM];omega
 all_goals
  unfold jF at b;simp only[aP,aY]at b
  first|obtain⟨⟨⟨⟨⟨⟨-,a⟩, -⟩, -⟩, -⟩, -⟩, -⟩:=b|obtain⟨⟨⟨⟨⟨-,a⟩, -⟩, -⟩, -⟩, -⟩:=b
  unfold Ax at a;simp only[aP,aY]at a;exact⟨a.1.2,a.2⟩
theorem ib.next{X:Co}{k:Nat}(h:ib X k)(m:k<=3000)(i:0<=X.Q.Z/\0<=X.Q.queue):ib X (k+1):=by
 have f:=EL h.ok ad h.rt;have g:uG (bz X k)=g6 (bz X k):=aa h.rt;have c:=(M9 i h.bd).1;have j:=K2 f ad ad h.rc;have d:∃n,(bz X (k+1)).mem.size=hY n:=by
  obtain⟨n,l⟩:=h.ms;exact⟨n,(J9 h.rt).2.2.trans l⟩
 have e:=(Ql f ad).k7;have a:cq (1+2*((k+1:Nat):Int)) (bz X (k+1)):=by
  show cq _ (uG (bz X k));rw[g,(oT:1+2*((k+1:Nat):Int)=1+2*(k:Int)+2)];exact j
 have b:(bz X (k+1)).E (10*k+10):=by show(uG (bz X k)).E _;rw[g];exact e
 exact⟨by rw[(oT:10*(k+1)=10*k+10)];exact b.ok,c,a,d,HR b c a d⟩
theorem vz{X:Co}(h:ib X 0)(a:0<=X.Q.Z/\0<=X.Q.queue):∀k,k<=3000->ib X k
 |0,_=>h
 |k+1,b=>(vz h a k ad).next ad a
def HS(a:Cf)(prog:List Nat)(m:ByteArray)(D:(fX a prog m).ok 0):jF (fX a prog m)=true:=by
 have b:∀n lo c:Int,lo<=c->lo<=bV n lo c/\bV n lo c<=c:=λn lo c h=>by unfold bV;(repeat' split)<;>omega
 have g:wA (bZ a)=true:=by
  unfold wA jf bZ;have o:=b a.mode 0 2 dT;have p:=b a.o 1 2 dT;have q:=b a.Z 2 8 dT;have r:=b a.queue 1 4 dT;have t:=b a.V 1 4 dT;have u:=b a.m 2 6 dT;have E:=b a.O 1 4 dT;have v:=b a.ways 1 2 dT;have i:(1<=(if bV a.O 1 4=3 then 2 else bV a.O 1 4))/\(if bV a.O 1 4=3 then 2 else bV a.O 1 4)<=4/\(if bV a.O 1 4=3 then 2 else bV a.O 1 4)≠3:=by split<;>omega
  simp only[aP,aY,rC,ge_iff_le,ne_eq];refine⟨⟨⟨⟨⟨⟨⟨⟨⟨⟨⟨λx B=>?_,o⟩,p⟩,q⟩,r⟩,t⟩,u⟩,⟨i.1,i.2.1⟩⟩,i.2.2⟩,v⟩,?_⟩,?_⟩
  .obtain⟨y,_,rfl⟩:=pG.1 B;exact b y 1 8 dT
  .rw[aH,aM];omega
  rw[aM];omega
 have C:=pD g;have k:∀s w:Int,(s=1\/s=2\/s=4)->(w=1\/w=2)->Ax (CZ s w) { (bZ a)with O:=s,ways:=w}=true:=by
  intro s w z A;rcases z with rfl|rfl|rfl<;>rcases A with rfl|rfl<;>rfl
 have d:(bZ a).O=1\/(bZ a).O=2\/(bZ a).O=4:=by
  have:=b a.O 1 4 dT;show(if bV a.O 1 4=3 then 2 else bV a.O 1 4)=1\/(if bV a.O 1 4=3 then 2 else bV a.O 1 4)=2\/(if bV a.O 1 4=3 then 2 else bV a.O 1 4)=4;split<;>omega
 have f:(bZ a).ways=1\/(bZ a).ways=2:=by
  have:=b a.ways 1 2 dT;show bV a.ways 1 2=1\/bV a.ways 1 2=2;omega
 have l:=k _ _ d f;unfold jF;have F:(fX a prog m).mem=jB m:=rfl;rw[show jB (fX a prog m).mem=(fX a prog m).mem from ut ⟨_,wE m⟩];simp only[aP,aY,rC];refine⟨⟨⟨⟨⟨⟨⟨⟨⟨⟨⟨g,?_⟩,by simp⟩,R⟩,?_⟩,λe j=>(List.not_mem_nil j).elim⟩,l⟩,l⟩,R⟩,?_⟩,?_⟩,λe j=>(List.not_mem_nil j).elim⟩
 .show(prog.take (min prog.length 64)).length<=64;rw[aM];omega
 .show((0:Nat):Int)<=(bZ a).Z;omega
 .show((0:Nat):Int)<=(bZ a).queue;omega
 show((0:Nat):Int)<=(bZ a).V;omega
open Go.Proofs.Tryz
set_option maxRecDepth 100000
set_option maxHeartbeats 4000000
def HL(X:Co):Nat->List e_
 |0=>[]
 |n+1=>lF (g6 X) (X.N.length:Nat)::HL (g6 X) n
theorem Rd(X:Co):∀k,bz (uG X) k=bz X (k+1)
 |0=>rfl
 |k+1=>am uG (Rd X k)
theorem gg:∀(n:Nat) (X:Co),(∀k,k<n->jF (bz X k)=true)->fQ X n=HL X n
 |0,_,_=>rfl
 |n+1,X,h=>by
  have e:uG X=g6 X:=aa (h 0 (Nat.zero_lt_succ n));unfold fQ HL;rw[List.range_succ_eq_map,jC,List.map_map, <-e, <-gg n (uG X) λk a=>by rw[Rd];exact h (k+1) (Nat.succ_lt_succ a)];refine List.cons_eq_cons.2 ⟨R,iB λk _=>?_⟩;show lF (uG (bz X (k+1))) _=lF (uG (bz (uG X) k)) _;rw[Rd]
def cx(k:Int):Cf:=⟨k,2,8,4,2,4,2,2,[],false,[]⟩
def fc(k:Int):(cx k).ok:=⟨aE _,aE _,λx a=>by cases a⟩
def gi(k:Int)(p:List Nat)(m:ByteArray)(hp:∀x∈p,x<=4294967295)(n:Nat)(f:n<=2000):fQ (fX (cx k) p m) n=HL (fX (cx k) p m) n:=by
 obtain⟨X,a⟩:∃X,X=fX (cx k) p m:=⟨_,R⟩;rw[<-a];have b:X.ok 0:=a ▸ Id (cx k) _ _ (fc k) hp;have c:0<=X.Q.Z/\0<=X.Q.queue:=by rw[a];exact H6 (cx k)
 have d:jF X=true:=a ▸ HS _ _ _ (a ▸ b);exact gg n X λj e=>(vz (J2 (cx k) p m (fc k) hp X a d) c j ad).rt
def fw:Nat->List UInt8
 |0=>[]
 |n+1=>0::fw n
def Al(c:UInt8):ByteArray:=⟨(fw 16++(c::fw 47)).toArray⟩
def dt:List Nat:=[2147483831,1048851,35705267,104035,16785923,139907,1048691]
def ew:List Nat:=[16785923,2147483831,1048851,35705267,103523,139907,1048691]
def b3:List Nat:=[16785539,1081651,1048691]
def fv{p:List Nat}(h:p.all (λx=>x.ble 4294967295)=true):∀x∈p,x<=4294967295:=λx a=>aJ (rC.1 h x a)
def ed(p:List Nat)(k:Int)(a:Bool):Bool:=Vf (CJ p (Al 32) (yM (cx k) 100) a) (CJ p (Al 48) (yM (cx k) 100) a) (yM (cx k) 100) (jB (Al 32)).size (jB (Al 48)).size
def Iv(p:List Nat)(k:Int):Bool:=decide (uI (HL (fX (cx k) p (Al 32)) 100) (HL (fX (cx k) p (Al 48)) 100) 0>=0)
set_option maxRecDepth 1000000 in
theorem hC:(ed dt 0 true,Iv dt 0)=(true,true):=by decide+kernel
set_option maxRecDepth 1000000 in
theorem io:Iv dt 1=false:=by decide+kernel
set_option maxRecDepth 1000000 in
theorem ip:Iv dt 2=false:=by decide+kernel
set_option maxRecDepth 1000000 in
theorem hQ:(ed ew 1 false,Iv ew 1)=(true,true):=by decide+kernel
set_option maxRecDepth 1000000 in
theorem iq:Iv ew 2=false:=by decide+kernel
set_option maxRecDepth 1000000 in
theorem hV:(ed b3 2 false,Iv b3 2)=(true,false):=by decide+kernel
set_option maxRecDepth 1000000 in
theorem iw:ed b3 2 true=false:=by decide+kernel
def gs:∀m:ByteArray,hv (a3 m) (e9 b3 (a3 m) (cz b3 (min (2000:Int) 10000).toNat (a3 m)))=bf b3 (a3 m) (cz b3 2000 (a3 m)):=λm=>Jj ..
def h9:(((bf b3 (a3 (Al 32)) (cz b3 2000 (a3 (Al 32)))).r 1:Int)==((bf b3 (a3 (Al 48)) (cz b3 2000 (a3 (Al 48)))).r 1:Int))=false:=by decide+kernel
def hz(n:Nat)(h:n<=100):bI C0 56 [.v (.string ⟨#[0]⟩),.v (.int .i64 (n:Int))] (.v (.string ⟨(Lib.repeatL [0] n).toArray⟩)):=
 .of_flat func56 R R R R λw=>strings_Repeat ⟨#[0]⟩ n w ad (by show 1*n<=_;omega)
def ia(c:UInt8):(⟨(Lib.repeatL [0] 16).toArray⟩:ByteArray)++⟨#[c]⟩++⟨(Lib.repeatL [0] 47).toArray⟩=Al c:=rfl
def ej(c:UInt8):bI C0 29 [.v (.string ⟨#[c]⟩)] (.v (.string (Al c))):=by
 refine bc func29 R ?_;refine zC (hz 16 dT)<|nW (.v (.string ((⟨(Lib.repeatL [0] 16).toArray⟩:ByteArray)++(⟨#[c]⟩:ByteArray)))) R R (by exact ax R)<|aW R (hz 47 dT)<|zM (.v (.string (((⟨(Lib.repeatL [0] 16).toArray⟩:ByteArray)++(⟨#[c]⟩:ByteArray))++(⟨(Lib.repeatL [0] 47).toArray⟩:ByteArray)))) R (by have h:(⟨(Lib.repeatL [0] 16).toArray⟩:ByteArray).size=16:=(by decide+kernel);have i:(⟨(Lib.repeatL [0] 47).toArray⟩:ByteArray).size=47:=(by decide+kernel);rw[ByteArray.size_append,h,i];show((16+1+47:Nat):Int)<=_;decide) ?_;exact fT R (am (λz=>AV.v (.string z)) (ia c))
def fe(l:List Nat)(b:l.length<=64)(a:0<l.length):bI C0 30 [.Y 1 (l.map dU) true] (.Y 1 (l.map dU) false):=by
 refine bc func30 R ?_;refine zF (x:=.X 2 0 l.length false) (h':=an _ 2 (some (.arr (l.map dU) 1))) (Iw ad) (⟨R,by exact ad,by exact ad,tr⟩)<|dK R (by show 0+l.length<=(l.map dU).length;exact ad) R ?_;exact am (λz=>AV.Y 1 z false) (jW dU l (aC _))
def f_:bI C0 16 [vI 0] (.F [.agg [vI 0,vI 2,vI 8,vI 4,vI 2,vI 4,vI 2,vI 2,.Y 0 [] true,vB false,.Y 0 [] true,.Y 1 (dt.map dU) false,.v (.string (Al 32)),vI 100],.v (.string (Al 48)),vB true]):=by
 refine eb func16 R ?_;refine rV (.agg [vI 0,vI 2,vI 8,vI 4,vI 2,vI 4,vI 2,vI 2,.Y 0 ([]) true,vB false,.Y 0 ([]) true]) R<|aW R (ej 32)<|zV (.agg [vI 0,vI 2,vI 8,vI 4,vI 2,vI 4,vI 2,vI 2,.Y 0 ([]) true,vB false,.Y 0 ([]) true,.Y 0 ([]) true,.v (.string (Al 32)),vI 100]) ?_;refine de (0==0) (λ_=>?_) (λa=>by exact absurd a dT);refine rV (.Y 1 ([[.v (.int .u32 2147483831)],[.v (.int .u32 1048851)],[.v (.int .u32 35705267)],[.v (.int .u32 104035)],[.v (.int .u32 16785923)],[.v (.int .u32 139907)],[.v (.int .u32 1048691)]]) true) R<|zC (fe dt dT dT)<|zR<|zC (ej 48) ?_;exact fT R R
def gb:bI C0 16 [vI 1] (.F [.agg [vI 1,vI 2,vI 8,vI 4,vI 2,vI 4,vI 2,vI 2,.Y 0 [] true,vB false,.Y 0 [] true,.Y 1 (ew.map dU) false,.v (.string (Al 32)),vI 100],.v (.string (Al 48)),vB true]):=by
 refine eb func16 R ?_;refine rV (.agg [vI 0,vI 2,vI 8,vI 4,vI 2,vI 4,vI 2,vI 2,.Y 0 ([]) true,vB false,.Y 0 ([]) true]) R<|aW R (ej 32)<|zV (.agg [vI 0,vI 2,vI 8,vI 4,vI 2,vI 4,vI 2,vI 2,.Y 0 ([]) true,vB false,.Y 0 ([]) true,.Y 0 ([]) true,.v (.string (Al 32)),vI 100]) ?_;refine de (1==0) (λa=>by exact absurd a dT) (λ_=>?_);refine de (1==1) (λ_=>?_) (λb=>by exact absurd b dT);refine rV (.Y 1 ([[.v (.int .u32 16785923)],[.v (.int .u32 2147483831)],[.v (.int .u32 1048851)],[.v (.int .u32 35705267)],[.v (.int .u32 103523)],[.v (.int .u32 139907)],[.v (.int .u32 1048691)]]) true) R<|zC (fe ew dT dT)<|zR<|zC (ej 48) ?_;exact fT R R
def gc:bI C0 16 [vI 2] (.F [.agg [vI 2,vI 2,vI 8,vI 4,vI 2,vI 4,vI 2,vI 2,.Y 0 [] true,vB false,.Y 0 [] true,.Y 1 (b3.map dU) false,.v (.string (Al 32)),vI 100],.v (.string (Al 48)),vB true]):=by
 refine eb func16 R ?_;refine rV (.agg [vI 0,vI 2,vI 8,vI 4,vI 2,vI 4,vI 2,vI 2,.Y 0 ([]) true,vB false,.Y 0 ([]) true]) R<|aW R (ej 32)<|zV (.agg [vI 0,vI 2,vI 8,vI 4,vI 2,vI 4,vI 2,vI 2,.Y 0 ([]) true,vB false,.Y 0 ([]) true,.Y 0 ([]) true,.v (.string (Al 32)),vI 100]) ?_;refine de (2==0) (λa=>by exact absurd a dT) (λ_=>?_);refine de (2==1) (λb=>by exact absurd b dT) (λ_=>?_);refine de (2==2) (λ_=>?_) (λc=>by exact absurd c dT);refine rV (.Y 1 ([[.v (.int .u32 16785539)],[.v (.int .u32 1081651)],[.v (.int .u32 1048691)]]) true) R<|zC (fe b3 dT dT)<|zR<|zC (ej 48) ?_;exact fT R R
def ic(n:Int)(c:n≠0)(a:n≠1)(b:n≠2):bI C0 16 [vI n] (.F [.agg [vI 0,vI 0,vI 0,vI 0,vI 0,vI 0,vI 0,vI 0,.Y 0 [] true,vB false,.Y 0 [] true,.Y 0 [] true,.v (.string ⟨#[]⟩),vI 0],.v (.string ⟨#[]⟩),vB false]):=by
 refine eb func16 R ?_;refine rV (.agg [vI 0,vI 2,vI 8,vI 4,vI 2,vI 4,vI 2,vI 2,.Y 0 ([]) true,vB false,.Y 0 ([]) true]) R<|aW R (ej 32)<|zV (.agg [vI 0,vI 2,vI 8,vI 4,vI 2,vI 4,vI 2,vI 2,.Y 0 ([]) true,vB false,.Y 0 ([]) true,.Y 0 ([]) true,.v (.string (Al 32)),vI 100]) ?_;refine de (n==0) (λa=>by exact absurd (mT a) c) (λ_=>?_);refine de (n==1) (λb=>by exact absurd (mT b) a) (λ_=>?_);refine de (n==2) (λd=>by exact absurd (mT d) b) (λ_=>?_);refine zV (.agg [vI 0,vI 0,vI 0,vI 0,vI 0,vI 0,vI 0,vI 0,.Y 0 ([]) true,vB false,.Y 0 ([]) true,.Y 0 ([]) true,.v (.string (⟨#[]⟩:ByteArray)),vI 0]) ?_;exact fT R R
def h6(n:Int):∃(h i j l o p q r:Int) (k:Nat) (rs:List (List AV)) (b:Bool) (m w:ByteArray) (g:Int),bI C0 16 [vI n] (.F [.agg [vI h,vI i,vI j,vI l,vI o,vI p,vI q,vI r,.Y 0 [] true,vB false,.Y 0 [] true,.Y k rs b,.v (.string m),vI g],.v (.string w),vB (cE (decide (n>=0)) (decide (n<=2)) false)]):=by
 by_cases c:n=0
 .subst c;exact⟨_,_,_,_,_,_,_,_,_,_,_,_,_,_,f_⟩
 by_cases d:n=1
 .subst d;exact⟨_,_,_,_,_,_,_,_,_,_,_,_,_,_,gb⟩
 by_cases f:n=2
 .subst f;exact⟨_,_,_,_,_,_,_,_,_,_,_,_,_,_,gc⟩
 have e:cE (decide (n>=0)) (decide (n<=2)) false=false:=by
  by_cases a:n>=0
  .rw[sW (oT:¬n<=2),jP a];rfl
  rw[sW a];rfl
 rw[e];exact⟨_,_,_,_,_,_,_,_,_,_,_,_,_,_,ic n c d f⟩
def ik(j k:Int)(p:List Nat)(a:Bool)(hp:∀x∈p,x<=4294967295)(c:p.length<=64):bI C0 17 [.agg [vI j,vI 2,vI 8,vI 4,vI 2,vI 4,vI 2,vI 2,.Y 0 [] true,vB false,.Y 0 [] true,.Y 1 (p.map dU) false,.v (.string (Al 32)),vI 100],.v (.string (Al 48)),vI k,vB a] (.F [vB (ed p k a),vB (Iv p k)]):=by
 refine dJ func17 ?_;have b:bI C0 11 [.agg [vI k,vI 2,vI 8,vI 4,vI 2,vI 4,vI 2,vI 2,.Y 0 [] true,vB false,.Y 0 [] true],.Y 1 (p.map dU) false,.v (.string (Al 32)),.v (.string (Al 48)),vI 100,vB a] _:=(A6 (cx k) p (Al 32) (Al 48) 100 a (fc k) hp (aL c dT)).args ⟨Sub.agg ⟨Sub.refl _,Sub.refl _,Sub.refl _,Sub.refl _,Sub.refl _,Sub.refl _,Sub.refl _,Sub.refl _,oM 1 false,Sub.refl _,oM 1 false,tr⟩,Sub.refl _,Sub.refl _,Sub.refl _,Sub.refl _,Sub.refl _,tr⟩;rw[show Cd (100:Int)=100 from R,gi k p _ hp 100 dT,gi k p _ hp 100 dT]at b;have d:Iv p k=decide (uI (HL (fX (cx k) p (Al 32)) 100) (HL (fX (cx k) p (Al 48)) 100) 0>=0):=rfl;rw[d];generalize uI _ _ 0=F at b⊢;generalize br _ _=K at b;generalize Vf _ _ _ _ _=g at b;refine qS 0 R<|zC (x:=.F [vN (br (CJ p (Al 32) (yM (cx k) 100) a) (CJ p (Al 48) (yM (cx k) 100) a)),vB (ed p k a)]) ((show bI C0 14 [.agg [vI k,vI 2,vI 8,vI 4,vI 2,vI 4,vI 2,vI 2,.Y 0 [] true,vB false,.Y 0 [] true],.Y 1 (p.map dU) false,.v (.string (Al 32)),.v (.string (Al 48)),vI 100,vB a] (.F [vN (br (CJ p (Al 32) (yM (cx k) 100) a) (CJ p (Al 48) (yM (cx k) 100) a)),vB (ed p k a)])from(OF (cx k) p (Al 32) (Al 48) 100 a (fc k) hp (aL c dT)).args ⟨Sub.agg ⟨Sub.refl _,Sub.refl _,Sub.refl _,Sub.refl _,Sub.refl _,Sub.refl _,Sub.refl _,Sub.refl _,oM 1 false,Sub.refl _,oM 1 false,tr⟩,Sub.refl _,Sub.refl _,Sub.refl _,Sub.refl _,Sub.refl _,tr⟩))<|zC (b)<|zV (vB (decide (F>=0))) ?_;exact fT R R
def ep{j k:Int}{p:List Nat}{b f a:Bool}(hp:p.all (λx=>x.ble 4294967295)=true)(e:p.length<=64)(d:ed p k b=f)(c:Iv p k=a):bI C0 17 [.agg [vI j,vI 2,vI 8,vI 4,vI 2,vI 4,vI 2,vI 2,.Y 0 [] true,vB false,.Y 0 [] true,.Y 1 (p.map dU) false,.v (.string (Al 32)),vI 100],.v (.string (Al 48)),vI k,vB b] (.F [vB f,vB a]):=by
 subst d c;exact ik j k p b (fv hp) e
def ig(n:Int):bI C0 6 [vI n] (vB true):=by
 refine dJ func6 ?_;obtain⟨t,u,v,x,y,A,B,C,k,rs,b,m,w,r,o⟩:=h6 n;have hZ:=ui b3 (Al 32) 2000 false (fv R) dT;rw[gs]at hZ;obtain⟨Z,c⟩:∃z,bf b3 (a3 (Al 32)) (cz b3 2000 (a3 (Al 32)))=z:=⟨_,R⟩;rw[c]at hZ;have g:((e9 b3 (a3 (Al 32)) (cz b3 (min (2000:Int) 10000).toNat (a3 (Al 32)))).map Prod.snd).length<=10000:=by rw[aH,lR];exact aL (AB ..) dT
 generalize (e9 b3 (a3 (Al 32)) (cz b3 (min (2000:Int) 10000).toNat (a3 (Al 32)))).map Prod.snd=q at hZ g;have d:=ui b3 (Al 48) 2000 false (fv R) dT;rw[gs]at d;obtain⟨Y,a⟩:∃z,bf b3 (a3 (Al 48)) (cz b3 2000 (a3 (Al 48)))=z:=⟨_,R⟩;rw[a]at d;have f:((e9 b3 (a3 (Al 48)) (cz b3 (min (2000:Int) 10000).toNat (a3 (Al 48)))).map Prod.snd).length<=10000:=by rw[aH,lR];exact aL (AB ..) dT
 generalize (e9 b3 (a3 (Al 48)) (cz b3 (min (2000:Int) 10000).toNat (a3 (Al 48)))).map Prod.snd=p at d f;have e:=h9;rw[c,a]at e;clear c a;refine qS 0 R<|zC (o) ?_;refine zV (vB (decide (n>=0)))<|aw (x:=vB (decide (n<=2))) R id R<|bO R R R (λh=>h)<|rW (vB false) R (ak (by simp)) ?_;refine qR 1 R<|zC (f_)<|rW _ R (cD dU dt)<|zW _ (ak (fq _ _)) ?_;refine gS R id<|aw (x:=vB (decide (100>2000))) R id R<|zN R (by simp)<|gS R id<|gn (x:=vN ((Al 32).size)) R id R<|aw (x:=vN ((Al 48).size)) R id R<|aw (x:=vB (((Al 32).size) != ((Al 48).size))) R b9 (ak (db _ _))<|zN R (by simp) ?_;refine zB R (λi=>by exact absurd i dT) (λ_=>?_);refine zC (ep (p:=dt) R dT (am Prod.fst hC) (am Prod.snd hC))<|zC (ep (p:=dt) R dT R io) ?_;refine zC (ep (p:=dt) R dT R ip)<|gS R id<|zN R (by simp)<|zN R (by simp)<|zN R (by simp) ?_;refine zB R (λj=>by exact absurd j dT) (λ_=>?_);refine zC (gb)<|zC (ep (p:=ew) R dT (am Prod.fst hQ) (am Prod.snd hQ)) ?_;refine zC (ep (p:=ew) R dT R iq)<|gS R id<|zN R (by simp)<|zN R (by simp) ?_;refine gS R id<|gn (x:=vN ((Al 32).size)) R id R<|aw (x:=vN ((Al 48).size)) R id R<|aw (x:=vB (((Al 32).size) != ((Al 48).size))) R b9 (ak (db _ _))<|zN R (by simp) ?_;refine zB R (λl=>by exact absurd l dT) (λ_=>?_);refine zC (gc)<|zC (ep (p:=b3) R dT (am Prod.fst hV) (am Prod.snd hV)) ?_;refine zC (ep (p:=b3) R dT iw R)<|zC (hZ) ?_;refine zC (d)<|gS R id<|zN R (λh=>h)<|gS R id<|zN R (λh=>h) ?_;refine zG R id<|gS R id<|aw (x:=vB true) R b9 (ak (by rw[e];simp))<|zN R (λh=>h)<|gS R id<|gn (x:=vN ((Al 32).size)) R id R<|aw (x:=vN ((Al 48).size)) R id R<|aw (x:=vB (((Al 32).size)==((Al 48).size))) R b9 (ak (ba _ _))<|zN R (λh=>h) ?_;refine ii (args:=[]) (x:=vB true) (g:=cE (cE (cE (cE true (!false) false) (!false) false) true false) (((Al 32).size)==((Al 48).size)) false) R R R R R R R (.inl R) R (λs=>Yc)<|zN R (λh=>h) ?_;exact fT R (dR dT)
end Go.Proofs.YtiaekocjeinkjaaGreatDoor
