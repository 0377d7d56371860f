/- Lemmas. -/
import Derived.Test.YtdhclfgoomldfaaGreatDoorS1
import Derived.Test.YtdhclfgoomldfaaGreatDoorS36
import Derived.Test.YtdhclfgoomldfaaGreatDoorS37
set_option linter.all false
namespace Go.Proofs.YtdhclfgoomldfaaGreatDoor
open Go.RowKit
def m5(c:Ca)(k:Nat)(s:List Wy):(rK c k s).Q.length=c.Q.length∧(rK c k s).ways=c.ways:=⟨cC,rfl⟩
def u4(c)(agY):(tO c agY).Q.length=c.Q.length∧(tO c agY).ways=c.ways:=by
 unfold tO;split
 ·exact m5 _ _ _
 exact⟨rfl,rfl⟩
def vo(c)(agY)(d)(b):(qZ c agY d b).1.Q.length=c.Q.length∧(qZ c agY d b).1.ways=c.ways:=by
 unfold qZ;split
 ·split
  ·exact m5 _ _ _
  split<;>exact m5 _ _ _
 exact⟨rfl,rfl⟩
def E1(c)(a)(b):(xL c a b).1.Q.length=c.Q.length∧(xL c a b).1.ways=c.ways:=by
 unfold xL;split
 ·split
  ·split
   ·exact⟨rfl,rfl⟩
   exact m5 _ _ _
  exact⟨rfl,rfl⟩
 exact⟨rfl,rfl⟩
def E2(c)(agY):(wB c agY).Q.length=c.Q.length∧(wB c agY).ways=c.ways:=by
 unfold wB;split
 ·exact m5 _ _ _
 exact⟨rfl,rfl⟩
def E3(c)(agY):(oK c agY).data.Q.length=c.data.Q.length∧(oK c agY).data.ways=c.data.ways:=by
 have hp:=vo c.data (ab agY) (Ga (jZ c.X c.mem) (ab agY)) false;unfold oK;rcases a:iQ c.data c.X c.mem agY (lX c.U c.asked)with ⟨d,q,b⟩;show d.Q.length=_∧d.ways=_;unfold iQ at a;split at a
 ·cases a;exact⟨rfl,rfl⟩
 split at a
 ·cases a;exact u4 _ _
 split at a
 rename_i e;rw[e]at hp;split at a<;>(cases a;exact hp)
structure ce(q:Int)(c:Co):Prop where
 ro:ec c.mem.size c.next c.Z
 lo:0<=c.next
 nx:c.next<=q
 da:(c.data.Q.length:Int)=c.U.Q∧c.data.ways=c.U.ways
 wo:(c.y.Q.length:Int)=c.U.Q∧c.y.ways=c.U.ways
 sp:∀p∈c.W,kZ c.mem.size p.V p.data.size=true
 pg:c.prog.length<=64
def j6(c)(agY):(oK c agY).mem=c.mem∧(oK c agY).next=c.next∧(oK c agY).Z=c.Z∧(oK c agY).U=c.U∧(oK c agY).y=c.y∧(oK c agY).W=c.W∧(oK c agY).prog=c.prog:=by
 rw[<-uY];exact⟨rfl,rfl,rfl,rfl,rfl,rfl,rfl⟩
theorem ce.ZL{q}{c}(h:ce q c)(agY):ce q (oK c agY):=by
 let⟨h1,h2,h3,h4,bb,b4,cs⟩:=j6 c agY;have a:=E3 c agY;exact⟨by rw[h1,h2,h3];exact h.ro,by rw[h2];exact h.lo,by rw[h2];exact h.nx,by rw[a.1,a.2,h4];exact h.da,by rw[bb,h4];exact h.wo,by rw[b4,h1];exact h.sp,by rw[cs];exact h.pg⟩
theorem ce.Z{q}{c d}(h:ce q c)(k:ec c.mem.size c.next d.Z)(b:d.mem=c.mem)(a:d.next=c.next)(f:d.data=c.data)(g:d.y=c.y)(e:d.U=c.U)(i:d.W=c.W)(j:d.prog=c.prog):ce q d:=
 ⟨by rw[b,a];exact k,by rw[a];exact h.lo,by rw[a];exact h.nx,by rw[f,e];exact h.da,by rw[g,e];exact h.wo,by rw[i,b];exact h.sp,by rw[j];exact h.pg⟩
def wk{q}{c}(h:ce q c):ce q (lM c):=by
 have a:ce q (jJ c):=⟨h.ro,h.lo,h.nx,h.da,h.wo,h.sp,h.pg⟩;rw[kC];split
 ·unfold ID
  repeat' split
  ·exact a.Z (a.ro.map (λe b=>b.fill _ _) (λe=>IF _ _ e)) rfl rfl rfl rfl rfl rfl rfl
  ·have:=vo (jJ c).y (eH c.X).2.1.R oZ false;exact⟨a.ro,a.lo,a.nx,a.da,by show((qZ _ _ _ _).1.Q.length:Int)=_∧(qZ _ _ _ _).1.ways=_;rw[this.1,this.2];exact a.wo,a.sp,a.pg⟩
  ·exact a.ZL _
  ·have e:(rP (jJ c).mem [⟨(eH c.X).2.1.R,(eH c.X).2.1.data⟩]).size=(jJ c).mem.size:=iY ..;exact⟨by show ec _ _ _;rw[e];exact a.ro,a.lo,a.nx,a.da,a.wo,by show ∀p∈_,kZ _ _ _=true;rw[e];exact a.sp,a.pg⟩
  exact a
 exact a
def wm{q}{c}(h:ce q c):ce q (kK c):=by
 have a:ec c.mem.size c.next (bt c):=ec.W (h.ro.map (λe b=>b.go) K') _;unfold kK;split
 ·exact h
 split
 ·rename_i i _;exact h.Z (a.cut i) rfl rfl rfl rfl rfl rfl rfl
 exact h.Z a rfl rfl rfl rfl rfl rfl rfl
def HF(x n)(h:n=1∨n=2∨n=4):(oF x n).size=n:=by
 rcases h with rfl|rfl|rfl<;>rfl
def wi{q}{c}(h:ce q c){e}(m:e∈c.Z)(l:e.is=3):ce q (fZ c (cA e)):=by
 refine⟨h.ro,h.lo,h.nx,h.da,h.wo,?_,h.pg⟩;show ∀p∈(match iJ (cA e)with|some p=>c.W++[p]|none=>c.W),_;split
 ·rename_i p hp;intro y o;rcases cz.1 o with r|r
  ·exact h.sp y r
  ·rw [uJ.1 r];have f:=(h.ro.ev e m).1;unfold iJ at hp;split at hp
   ·cases hp
   ·rename_i d;have a:(cA e).store=true:=by
     cases g:(cA e).store with
     |true=>rfl
     |false=>exact absurd (.inl g) d
    have b:e.halt=0∧ak e.i.op=4:=by
     unfold cA at a;by_cases i:e.halt≠0
     ·rw[aa i]at a;exact absurd (show false=true from a) (by simp)
     ·by_cases k:ak e.i.op=4
      ·exact⟨b'.1 i,k⟩
      ·rw[dZ i,dZ k]at a
       repeat' split at a
       all_goals exact absurd (show false=true from a) (by simp)
    have n:cA e=⟨e.L,b8 e.L,wr e.i,e.value,e.V,(be e.i.op:Nat),true,0,0⟩:=by
     unfold cA;rw[dZ (λz=>z b.1),aa b.2]
    rw[n]at hp d;injection hp with hp;have j:be e.i.op=1∨be e.i.op=2∨be e.i.op=4:=by
     have d: ¬(((be e.i.op:Nat):Int)≠1∧((be e.i.op:Nat):Int)≠2∧((be e.i.op:Nat):Int)≠4):=λz=>d (.inr (.inr z));omega
    have g:p.data.size=be e.i.op:=by rw[<-hp];exact HF _ _ j
    rw[show p.V=e.V by rw[<-hp],g];exact (f.kn (f.k4 b.2 l b.1) (.inr b.2))
 ·exact h.sp
def HH{q}{c}(h:ce q c){e}(b:e∈c.Z)(a:e.is=3):ce q (Bm c e):=by
 have k:=wi h b a;exact⟨k.ro.sub (List.drop_sublist _ _),k.lo,k.nx,k.da,k.wo,k.sp,k.pg⟩
def HK{q}{c}(h:ce q c){e}(b:e∈c.Z)(a:e.is=3):ce q (MP c e):=by
 have k:=(wi h b a).ZL (cA e).V;rw[<-uY]at k;exact⟨ec.sub k.ro (List.drop_sublist _ _),k.lo,k.nx,k.da,k.wo,k.sp,k.pg⟩
theorem o8{q:Int}:∀(n:Nat) (c:Co),ce q c->ce q (eC n c)
 |0,_,h=>h
 | n +1,c,h=>by
  by_cases f:c.halt≠0∨c.Z.length=0
  ·rw[mG f];exact h
  ·have e:c.Z[0]?=some (c.Z[0]'ad):=aA ad;have d:=aB e;rw[iX ad (λr=>f (.inl r)) e];split
   ·exact h
   ·rename_i a;have a:=b'.1 a;split
    ·exact⟨ec.nil,h.lo,h.nx,h.da,h.wo,h.sp,h.pg⟩
    ·split
     ·exact h
     ·rw[kB];by_cases b:ak (c.Z[0]'ad).i.op=3
      ·rw[Ke b];exact o8 n _ (HK h d a)
      ·rw[An b];exact o8 n _ (HH h d a)
theorem ce.setE{q:Int}{c:Co}(h:ce q c){i:Nat}{x e:ai}(d:c.Z[i]?=some x)(a:eu c.mem.size e)(b:e.no=x.no):ce q (b1 c i e):=h.Z (h.ro.set d a b) rfl rfl rfl rfl rfl rfl rfl
def Jl(e)(M)(a)(c:e.is=0):(yC e M a).known=true->(yC e M a).is=0∨e.known=false∧(yC e M a).is=0:=by
 intro b;unfold yC at b⊢;split
 ·exact .inl c
 rename_i d;rw[dZ d]at b;split
 ·exact .inl c
 rename_i f;rw[dZ f]at b;exact absurd (show e.known=true from b) (λz=>d (.inr (.inr z)))
def Jm{q}{c}(h:ce q c){i}{x}(a:c.Z[i]?=some x)(e:ak x.i.op=3)(j:x.known=true->x.is=0):ce q (oE c i):=by
 have b:=(h.ro.ev x (aB a)).1;unfold oE;rw[a];dsimp only;split
 ·exact h
 ·rename_i f
  have d:x.known=true:=by cases k:x.known with
   |true=>rfl
   |false=>exact absurd k f
  have g:=b.wait e d (.inl (j d))
  repeat' split
  ·exact h.setE a (b.take _) (qt _ _)
  ·exact h
  ·exact h.setE a (b.take _) (qt _ _)
  ·exact h.setE a g rfl
  ·exact ce.setE (c:=jE c 1 _ oZ) ⟨h.ro,h.lo,h.nx,h.da,h.wo,h.sp,h.pg⟩ a g rfl
  ·exact h
def I0{l:List ai}{i:Nat}{x e:ai}(a:l[i]?=some x):(l.set i e)[i]?=some e:=aZ (Em.1 a).1
def H'{q}{c}{n}(f:c.F n)(h:ce q c){i}(g:∀e,c.Z[i]?=some e->e.is=0):ce q (iS c i):=by
 have d:=Cj f.ok.Z8 f.ok.r i;unfold iS
 cases a:c.Z[i]? with
 |none=>exact h
 | some e=>
  have b:=(h.ro.ev e (aB a)).1;dsimp only;split
  ·exact h.setE a (b.V _) (v_ _ _ _)
  ·split
   ·rename_i k;have j:ak (yC e c.mem.size (mI c.Z c.r i).1).i.op=3:=by
     unfold yC
     (repeat' split)<;>exact k
    exact Jm (h.setE a (b.V _) (v_ _ _ _)) (I0 a) j (λz=>(Jl e _ _ (g e a) z).elim id (·.2))
   ·exact h.setE a (b.start d.1 d.2) (Ix _ _ _)
def pv{l:List ai}{i j:Nat}{e:ai}(h:i≠j):(l.set i e)[j]?=l[j]? :=kX h
def F6(c){i j}(h:i≠j):(oE c i).Z[j]?=c.Z[j]? :=by
 unfold oE;split
 ·rfl
 (try dsimp only)
 repeat' split
 all_goals first|rfl|exact pv h
def E4(c){i j}(h:i≠j):(iS c i).Z[j]?=c.Z[j]? :=by
 unfold iS;split
 ·rfl
 (try dsimp only)
 split
 ·exact pv h
 split
 ·rw[F6 _ h];exact pv h
 exact pv h
theorem vp{q:Int}:∀(p:List Nat) (c:Co) (n:Nat),c.F n->n+p.length<=890000->ce q c->p.Pairwise (· < ·)->(∀i∈p,∀e,c.Z[i]?=some e->e.is=0)->ce q (p.foldl iS c)
 |[],_,_,_,_,h,_,_=>h
 |i::p,c,n,f,l,h,hp,b=>by
  have m:(i::p).length=p.length+1:=rfl;rw[m]at l;let⟨g,k⟩:=List.pairwise_cons.1 hp;refine vp p _ (n+1) (yY f ad i).1 ad (H' f h (b i (b_ ..))) k (λj d e a=>?_);have:=g j d;rw[E4 c ad]at a;exact b j (bY _ d) e a
theorem ve{agN:Int}{busy:Bool}{kinds:List Int}{can:List Bool}:∀k,(∀i∈(kA agN busy kinds can k).out,i<k∧can.getD i false=true)∧(kA agN busy kinds can k).out.Pairwise (· < ·)
 |0=>⟨λi d=>(List.not_mem_nil d).elim,.nil⟩
 | k + 1=>by
  have ih:=ve (agN:=agN) (busy:=busy) (kinds:=kinds) (can:=can) k;have c:(∀i∈(kA agN busy kinds can k).out,i<k+1∧can.getD i false=true)∧(kA agN busy kinds can k).out.Pairwise (· < ·):=⟨λi d=>⟨oH ((ih.1 i d).1),(ih.1 i d).2⟩,ih.2⟩;show(∀i∈(IW agN kinds (kA agN busy kinds can k) k (can.getD k false)).out,_)∧(IW agN kinds (kA agN busy kinds can k) k (can.getD k false)).out.Pairwise _;unfold IW;split
  ·exact c
  ·split
   ·exact c
   ·rename_i h;split
    ·exact c
    ·refine⟨λi d=>?_,?_⟩
     ·rcases cz.1 d with r|r
      ·exact c.1 i r
      ·rw[uJ.1 r]
       exact⟨oT,by cases g:can.getD k false with
        |true=>rfl
        |false=>exact absurd g h⟩
     ·show((kA agN busy kinds can k).out++[k]).Pairwise _;rw[List.pairwise_append];refine⟨ih.2,List.pairwise_singleton _ _,λa e b f=>?_⟩;rw[uJ.1 f];exact(ih.1 a e).1
def I1{c}{i}{e}(h:DN c i=true)(a:c.Z[i]?=some e):e.is=0:=by
 unfold DN at h;rw[a]at h;dsimp only at h;split at h
 ·cases h
 rename_i q;exact b'.1 q
def HN{q}{c}{n}(g:c.F n)(k:n+2<=890000)(h:ce q c):ce q (gY c):=by
 by_cases f:c.halt≠0
 ·rw[show gY c=c from aa f];exact h
 have m:=pD g.cf;have l:=VH (agN:=c.U.o) (busy:=c.Z.any IE) (kinds:=Fi c) (can:=Kv c) ad (Kv c).length;have d:=ve (agN:=c.U.o) (busy:=c.Z.any IE) (kinds:=Fi c) (can:=Kv c) (Kv c).length;rw[show gY c=(kA c.U.o _ _ _ (Kv c).length).out.foldl iS c from dZ f];refine vp _ c n g ad h d.2 (λi j e b=>?_);have a:=(d.1 i j).2;refine I1 ?_ b;unfold Kv at a;rw[aR,aX,eZ ((Em.1 b).1)]at a;exact a
def If{M}(c){f}{prog}(hp:∀x∈prog,x<=4294967295):eu M (qB c f prog)∧(qB c f prog).no=c:=by
 have a: ¬ak 0=4:=dT;unfold qB;split
 ·exact⟨⟨(fp _).2 ⟨by simp,λq=>absurd q (by simp),λ_=>rfl,λq=>absurd q (by simp),λ_=>.inl rfl,.inr (.inl rfl)⟩,λq=>absurd (show false=true from q) (by simp),λq=>absurd (show ak 0=4 from q) a,λq=>absurd (show ak 0=4 from q) a⟩,rfl⟩
 split
 ·exact⟨⟨(fp _).2 ⟨by simp,λq=>absurd q (by simp),λ_=>rfl,λq=>absurd q (by simp),λ_=>.inl rfl,.inr (.inr rfl)⟩,λq=>absurd (show false=true from q) (by simp),λq=>absurd (show ak 0=4 from q) a,λq=>absurd (show ak 0=4 from q) a⟩,rfl⟩
 rename_i d;have b:Xq (bn (bi prog f.L))=true:=(MZ _).2 (I3 _ d (CI (LN hp f.L)));split
 ·exact⟨⟨(fp _).2 ⟨by simp,λq=>absurd q (by simp),λ_=>rfl,λq=>absurd q (by simp),λ_=>.inl rfl,.inl b⟩,λq=>absurd (show false=true from q) (by simp),λ_=>.inr rfl,λ_ _ q=>absurd (show(6:Int)=0 from q) (by simp)⟩,rfl⟩
 split
 ·exact⟨⟨(fp _).2 ⟨by simp,λq=>absurd q (by simp),λ_=>rfl,λq=>absurd q (by simp),λ_=>.inl rfl,.inl b⟩,λq=>absurd (show false=true from q) (by simp),λ_=>.inr rfl,λ_ _ q=>absurd (show(7:Int)=0 from q) (by simp)⟩,rfl⟩
 exact⟨⟨(fp _).2 ⟨(show(0:Int)<=0∧(0:Int)<=3 from⟨by simp,by simp⟩),λq=>absurd (show(0:Int)=1 from q) (by simp),λ_=>rfl,λq=>absurd (show(0:Int)=2 from q) (by simp),λq=>absurd rfl q,.inl b⟩,λq=>absurd (show false=true from q) (by simp),λ_=>.inl rfl,λ_ q=>absurd (show(0:Int)=3 from q) (by simp)⟩,rfl⟩
theorem vf:∀(n:Nat) (q:Int) (c:Co),(∀x∈c.prog,x<=4294967295)->q+n<=9000000->ce q c->ce (q+n) (kV n c)
 |0,q,c,_,_,h=>by rw[(oT:q+((0:Nat):Int)=q)];exact h
 | n+1,q,c,hp,g,h=>by
  by_cases b:(c.Z.length:Int)>=c.U.Z∨c.O.length=0
  ·rw[Ap b];exact⟨h.ro,h.lo,oH h.nx,h.da,h.wo,h.sp,h.pg⟩
  ·have f:c.O[0]?=some (c.O[0]'ad):=aA ad;have e:=CU (n:=n+1) (k:=0) ad (λr=>b (.inl r)) f;rw[(oT:n+1-(0+1)=n),(oT:n+1-0=n+1)]at e;rw[<-e,(oT:q+((n+1:Nat):Int)=(q+1)+(n:Nat))];have a:wrap64 (c.next+1)=c.next+1:=F7 (oH h.lo) (oH h.nx);have d:=If (M:=c.mem.size) c.next (f:=c.O[0]'ad) hp;refine vf n (q+1) _ hp ad ⟨?_,?_,?_,h.da,h.wo,h.sp,h.pg⟩
   ·show ec c.mem.size (wrap64 (c.next+1)) (c.Z++[_]);rw[a];exact h.ro.push d.1 d.2
   ·show 0<=wrap64 (c.next+1);rw[a];have:=h.lo;omega
   ·show wrap64 (c.next+1)<=_;rw[a];have:=h.nx;omega
theorem u5{q:Int}:∀(n:Nat) (c:Co),ce q c->ce q (eL n c)
 |0,_,h=>h
 | n +1,c,h=>by
  by_cases b:c.stop=true∨(c.O.length:Int)>=c.U.queue
  ·rw[yZ b];exact h
  ·by_cases d:(en c.prog c.K).isSome=false
   ·rw[Aq ad b d];exact⟨h.ro,h.lo,h.nx,h.da,h.wo,h.sp,h.pg⟩
   ·by_cases g:(bK c.y (ab c.K)).2.isSome=false
    ·rw[uD ad b d g];split
     ·exact⟨h.ro,h.lo,h.nx,h.da,h.wo,h.sp,h.pg⟩
     ·exact h
    ·have e:=BC (n:=n+1) (k:=0) ad b d g;rw[(oT:n+1-(0+1)=n),(oT:n+1-0=n+1)]at e;rw[<-e];refine u5 n _ ?_;have f:=u4 c.y (ab c.K);have a:ce q (lJ c):=⟨h.ro,h.lo,h.nx,h.da,by show((tO _ _).Q.length:Int)=_∧(tO _ _).ways=_;rw[f.1,f.2];exact h.wo,h.sp,h.pg⟩;have i:∀w,ce q (dM (lJ c) w).1:=by
      intro w;unfold dM
      repeat' split
      all_goals exact⟨a.ro,a.lo,a.nx,a.da,a.wo,a.sp,a.pg⟩
     have k:=i (bi c.prog c.K);exact⟨k.ro,k.lo,k.nx,k.da,k.wo,k.sp,k.pg⟩
def HO{q}{c}(h:ce q c):ce q (tY c):=by
 have a:ce q (aW c):=by
  refine⟨h.ro,h.lo,h.nx,?_,h.wo,?_,h.pg⟩
  ·show((sL c.W c.data).2.1.Q.length:Int)=_∧(sL c.W c.data).2.1.ways=_;unfold sL;split
   ·exact h.da
   rename_i p l _;have:=E1 c.data p.V p.data;split
   ·rw[this.1,this.2];exact h.da
   exact h.da
  show ∀p∈(sL c.W c.data).1,_;unfold sL;split
  ·exact h.sp
  rename_i p l f;split
  ·exact λy g=>h.sp y (by rw[f];exact bY _ g)
  exact h.sp
 have e:∀{d:Co},ce q d->ce q (tW d):=λ{d} k=>by
  unfold tW;split
  ·exact k
  split
  ·exact⟨k.ro,k.lo,k.nx,k.da,k.wo,k.sp,k.pg⟩
  exact k
 have b:∀{d:Co},ce q d->ce q (nP d):=λ{d} k=>by
  unfold nP;split
  ·exact k
  unfold pE;split
  ·split
   ·rename_i w _ _;have:=E2 d.data w.R;exact⟨k.ro,k.lo,k.nx,by show((wB _ _).Q.length:Int)=_∧(wB _ _).ways=_;rw[this.1,this.2];exact k.da,k.wo,k.sp,k.pg⟩
   exact k
  exact k
 rw[mO];split
 ·exact b (e a)
 exact b a
def l2(n lo a)(h:0<=lo∧lo<=a):0<=bV n lo a:=by unfold bV;(repeat' split)<;>omega
def J'(c:Cf)(prog:List Nat)(m:ByteArray):Bd (bZ c) 0 (fX c prog m):=
 ⟨rfl,l2 _ 2 8 dT,l2 _ 1 4 dT,l2 _ 1 4 dT,l2 _ 2 6 dT,rfl⟩
def HT(c:Cf):0<=(bZ c).Z∧0<=(bZ c).queue:=⟨l2 _ 2 8 dT,l2 _ 1 4 dT⟩
def Li{f}(d:0<=f.Z∧0<=f.queue){c}(h:Bd f c.N.length c):Bd f (uG c).N.length (uG c)∧c.N.length<=(uG c).N.length∧(uG c).N.length<=c.N.length+f.o.toNat:=by
 let⟨b,e,g,a⟩:=J1 d h;have:=a.ret;subst this;exact⟨a,e,g⟩
theorem ce.mono{q r}{c}(h:ce q c)(a:q<=r):ce r c:=⟨h.ro,h.lo,oH h.nx,h.da,h.wo,h.sp,h.pg⟩
def Ji{q}{c}{n}(i:c.F n)(g:n+20<=890000)(j:q+2<=9000000)(h:ce q c):ce (q+2) (ef c):=by
 have a:=Ql i g;have e:ce q (s3 c):=o8 _ _ (wm (wk (⟨h.ro,h.lo,h.nx,h.da,h.wo,h.sp,h.pg⟩)));have b:ce q (dj c):=HN a.k3 ad e;have d:ce (q+2) (ea c):=by
  show ce (q+2) (lP (dj c));have k:=pD a.k4.cf;unfold lP;split
  ·exact b.mono ad
  exact(vf _ q _ a.k4.ok.Z5 ad b).mono ad
 have f:ce (q+2) (ct c):=by
  show ce (q+2) (eN (ea c));unfold eN;split
  ·exact d
  exact u5 _ _ d
 exact HO f
def u3{x}(h:∃n,x.size=hL n):jB x=x:=by
 let⟨n,a⟩:=h;have b:x.size=16∨x.size=32∨x.size=64∨x.size=128∨x.size=256:=by rw[a];unfold hL;(repeat' split)<;>omega
 unfold jB;rw[(oT:min x.size 256=x.size),show hL x.size-x.size=0 by rcases b with e|e|e|e|e<;>rw[e]<;>rfl,List.replicate_zero,dY,show x.extract 0 x.size=x by simp]
 try (cases x;simp)
def He{f}{a n}{q}{c}(b:c.F n)(d:Bd f a c)(h:ce q c)(l:∃n,c.mem.size=hL n):jF c=true:=by
 have m:=pD b.cf;have g:=d.Z;have i:=d.Z6;have j:=d.Z';rw[<-d.U]at g i j;unfold jF;simp only[aP,aY,rC];refine⟨⟨⟨⟨⟨⟨⟨⟨⟨⟨⟨b.cf,h.pg⟩,?_⟩,h.ro.right ad⟩,g⟩,λe k=>(h.ro.ev e k).2⟩,?_⟩,?_⟩,b.M⟩,i⟩,j⟩,h.sp⟩
 ·rw[u3 l];simp
 ·unfold Ax;simp[aP,aY];exact⟨⟨b.data,h.da.1⟩,h.da.2⟩
 unfold Ax;simp[aP,aY];exact⟨⟨b.y,h.wo.1⟩,h.wo.2⟩
structure jq(X:Co)(k:Nat):Prop where
 ok:(uN X k).ok (10*k)
 bd:Bd X.U (uN X k).N.length (uN X k)
 rc:ce (1+2*k) (uN X k)
 ms:∃n,(uN X k).mem.size=hL n
 rt:jF (uN X k)=true
def IT(c)(prog)(m)(e:c.ok)(hp:∀x∈prog,x<=4294967295)(X)(d:X=fX c prog m)(b:jF X=true):jq X 0:=by
 subst d;refine⟨Id c prog m e hp,J' c prog m,⟨ec.nil,(show(0:Int)<=1 from dT),(show(1:Int)<=1+2*((0:Nat):Int)from dT),?_,?_,λp hp=>(List.not_mem_nil hp).elim,?_⟩,⟨_,wE m⟩,b⟩;rotate_left 2
 ·show(prog.take _).length<=64;rw[aM];omega
 all_goals
  unfold jF at b;simp[aP,aY]at b
  first|let⟨⟨⟨⟨⟨⟨_,a⟩, _⟩, _⟩, _⟩, _⟩, _⟩:=b|let⟨⟨⟨⟨⟨_,a⟩, _⟩, _⟩, _⟩, _⟩:=b
  unfold Ax at a;simp[aP,aY]at a;exact⟨a.1.2,a.2⟩
theorem jq.next{X}{k}(h:jq X k)(j:k<=3000)(g:0<=X.U.Z∧0<=X.U.queue):jq X (k+1):=by
 have e:=EL h.ok ad h.rt;have f:uG (uN X k)=ef (uN X k):=aa h.rt;have c:=(Li g h.bd).1;have d:∃n,(uN X (k+1)).mem.size=hL n:=by
  let⟨n,hn⟩:=h.ms;exact⟨n,(I6 h.rt).2.2.trans hn⟩
 have i:=(Ql e ad).k7;have a:ce (1+2*((k+1:Nat):Int)) (uN X (k+1)):=by
  show ce _ (uG (uN X k));rw[f,(oT:1+2*((k+1:Nat):Int)=1+2*(k:Int)+2)];exact (Ji e ad ad h.rc)
 have b:(uN X (k+1)).F (10*k+10):=by show(uG (uN X k)).F _;rwa[f]
 exact⟨by rw[(oT:10*(k+1)=10*k+10)];exact b.ok,c,a,d,He b c a d⟩
theorem wh{X:Co}(h:jq X 0)(a:0<=X.U.Z∧0<=X.U.queue):∀k,k<=3000->jq X k
 |0,_=>h
 |k+1,b=>(wh h a k ad).next ad a
def HB(a)(prog)(m)(C:(fX a prog m).ok 0):jF (fX a prog m)=true:=by
 have b:∀n lo c:Int,lo<=c->lo<=bV n lo c∧bV n lo c<=c:=λn lo c h=>by unfold bV;(repeat' split)<;>omega
 have g:wA (bZ a)=true:=by
  unfold wA iT bZ;have o:=b a.o 1 2 dT;have p:=b a.Z 2 8 dT;have q:=b a.queue 1 4 dT;have r:=b a.W 1 4 dT;have t:=b a.A 2 6 dT;have D:=b a.Q 1 4 dT;have u:=b a.ways 1 2 dT;have i:(1<=(if bV a.Q 1 4=3 then 2 else bV a.Q 1 4))∧(if bV a.Q 1 4=3 then 2 else bV a.Q 1 4)<=4∧(if bV a.Q 1 4=3 then 2 else bV a.Q 1 4)≠3:=by split<;>omega
  simp only[aP,aY,rC,ge_iff_le,ne_eq];refine⟨⟨⟨⟨⟨⟨⟨⟨⟨⟨⟨λx A=>?_,b a.mode 0 2 dT⟩,o⟩,p⟩,q⟩,r⟩,t⟩,⟨i.1,i.2.1⟩⟩,i.2.2⟩,u⟩,?_⟩,?_⟩
  ·obtain⟨y,_,rfl⟩:=pG.1 A;exact b y 1 8 dT
  ·rw[aH,aM];omega
  rw[aM];omega
 have B:=pD g;have k:∀s w:Int,(s=1∨s=2∨s=4)->(w=1∨w=2)->Ax (CZ s w) { (bZ a)with Q:=s,ways:=w}=true:=by
  intro s w v z;rcases v with rfl|rfl|rfl<;>rcases z with rfl|rfl<;>rfl
 have d:(bZ a).Q=1∨(bZ a).Q=2∨(bZ a).Q=4:=by
  have:=b a.Q 1 4 dT;show(if bV a.Q 1 4=3 then 2 else bV a.Q 1 4)=1∨(if bV a.Q 1 4=3 then 2 else bV a.Q 1 4)=2∨(if bV a.Q 1 4=3 then 2 else bV a.Q 1 4)=4;split<;>omega
 have f:(bZ a).ways=1∨(bZ a).ways=2:=by
  have:=b a.ways 1 2 dT;show bV a.ways 1 2=1∨bV a.ways 1 2=2;omega
 have l:=k _ _ d f;unfold jF;have E:(fX a prog m).mem=jB m:=rfl;rw[show jB (fX a prog m).mem=(fX a prog m).mem from u3 ⟨_,wE m⟩];simp only[aP,aY,rC];refine⟨⟨⟨⟨⟨⟨⟨⟨⟨⟨⟨g,?_⟩,by simp⟩,rfl⟩,?_⟩,λe j=>(List.not_mem_nil j).elim⟩,l⟩,l⟩,rfl⟩,?_⟩,?_⟩,λe j=>(List.not_mem_nil j).elim⟩
 ·show(prog.take (min prog.length 64)).length<=64;rw[aM];omega
 ·show((0:Nat):Int)<=(bZ a).Z;omega
 ·show((0:Nat):Int)<=(bZ a).queue;omega
 show((0:Nat):Int)<=(bZ a).W;omega
def gb(m:ByteArray)(i:Nat):Option UInt8:=m.data[i]?
def dg(p:Pt)(i:Nat):Option UInt8:=if p.V<=i then gb p.data (i-p.V)else none
def fi(l:List Pt)(i:Nat):Option UInt8:=l.foldl (λo p=>(dg p i).or o) none
def j8{m:ByteArray}{i:Nat}(h:m.size<=i):gb m i=none:=iE h
def mw{a b}(d:a.size=b.size)(h:∀i,i<a.size->gb a i=gb b i):a=b:=by
 refine ByteArray.ext (Array.ext_getElem? λi=>?_);by_cases c:i<a.size
 ·exact h i c
 exact(j8 ad).trans (j8 ad).symm
def oy(a b)(i):gb (a++b) i=if i<a.size then gb a i else gb b (i-a.size):=by
 unfold gb;rw[ByteArray.data_append,Array.getElem?_append];rfl
def j9(m)(a b i):gb (m.extract a b) i=if i<min b m.size-a then gb m (a+i)else none:=by
 unfold gb;rw[ByteArray.data_extract,mQ];rfl
def wg(m)(p)(i)(d:i<m.size):gb (BE m p) i=(dg p i).or (gb m i):=by
 unfold BE dg;by_cases h:p.V<m.size
 ·rw[aa h,oy,oy,j9,j9,j9];simp only[kH,dA];by_cases a:p.V<=i
  ·rw[aa a];by_cases b:i-p.V<p.data.size
   ·rw[aa ad,dZ ad,aa ad,(oT:0+(i-(min p.V m.size-0))=i-p.V)];have:∃x,gb p.data _=some x:=⟨p.data.data[i-p.V],aT b⟩;let⟨x,c⟩:=this;rw[c];rfl
   rw[dZ ad,aa ad,(oT:p.V+min p.data.size _+(i-(min p.V m.size-0+(min _ p.data.size-0)))=i)];rw[j8 (i:=i-p.V) ad];rfl
  rw[dZ a,aa ad,aa ad,aa ad,(oT:0+i=i)];rfl
 rw[dZ h,dZ ad];rfl
def v0(l)(i):∀o,l.foldl (λo p=>(dg p i).or o) o=(fi l i).or o:=by
 induction l with
 |nil=>intro o;rfl
 |cons p l ih=>
  intro o;show l.foldl _ ((dg p i).or o)=(l.foldl _ ((dg p i).or none)).or o;rw[ih,ih _,Option.or_assoc];cases dg p i<;>rfl
def l1(p)(l)(i):fi (p::l) i=(fi l i).or (dg p i):=by
 show l.foldl _ ((dg p i).or none)=_;rw[v0];cases dg p i<;>rfl
def qo(a b)(i):fi (a++b) i=(fi b i).or (fi a i):=by
 unfold fi;rw[List.foldl_append];exact v0 b i _
def mq(l)(i):∀m,i<m.size->gb (rP m l) i=(fi l i).or (gb m i):=by
 induction l with
 |nil=>intro m _;rfl
 |cons p l ih=>
  intro m a;show gb (rP (BE m p) l) i=_;rw[ih _ (by rw[Kn];exact a),wg m p i a,l1,Option.or_assoc]
def qr{l}{i}(h:∀p∈l,dg p i=none):fi l i=none:=by
 induction l with
 |nil=>rfl
 |cons p l ih=>rw[l1,ih (λq a=>h q (bY _ a)),h p b_];rfl
def H5{l}{i}{v}(h:∀p∈l,dg p i=none∨dg p i=v)(c:∃p∈l,dg p i=v):fi l i=v:=by
 induction l with
 |nil=>let⟨p,hp,_⟩:=c;exact absurd hp List.not_mem_nil
 | cons p l ih=>
  rw[l1];by_cases b:∃q∈l,dg q i=v
  ·rw[ih (λq a=>h q (bY _ a)) b];rcases h p b_ with e|e
   ·rw[e];cases v<;>rfl
   ·rw[e];cases v<;>rfl
  ·rw[qr (λq a=>(h q (bY _ a)).resolve_right λe=>b ⟨q,a,e⟩)];let⟨q,a,e⟩:=c;rcases dn.1 a with e2|e2
   ·subst e2;exact e
   ·exact absurd ⟨q,e2,e⟩ b
def cm(c:Ca)(w:Wy):Prop:=w∈c.Q.flatten
def ju{c}(h:cd c){w}:cm c w↔w∈pF c (w.R/16%c.Q.length):=by
 unfold cm;constructor
 ·intro a;let⟨s,e,d⟩:=List.mem_flatten.1 a;obtain⟨k,b,rfl⟩:=fY e;rwa[((h.set k _ (aA b)).ZM w d).set,vA (aA b)]
 ·intro a;unfold pF at a
  cases b:c.Q[w.R/16%c.Q.length]? with
  |none=>rw[b]at a;exact absurd a List.not_mem_nil
  |some s=>rw[b]at a;exact List.mem_flatten.2 ⟨s,aB b,a⟩
def oB{c}(h:cd c){w}(e:cm c w):sy c.Q.length (w.R/16%c.Q.length) w:=by
 let⟨s,d,b⟩:=List.mem_flatten.1 e;obtain⟨k,a,rfl⟩:=fY d;have g:=(h.set k _ (aA a)).ZM w b;rwa[g.set]
def G_{l:List Wy}(h:(l.map (·.R)).Nodup){w v}(b:w∈l)(a:v∈l)(e:w.R=v.R):w=v:=by
 induction l with
 |nil=>exact absurd b List.not_mem_nil
 | cons x l ih=>
  rw[jC,List.nodup_cons]at h;rcases dn.1 b with h1|h1
  ·rcases dn.1 a with h2|h2
   ·rw[h1,h2]
   ·exact absurd (pG.2 ⟨v,h2,by rw[<-e,h1]⟩) h.1
  ·rcases dn.1 a with h2|h2
   ·exact absurd (pG.2 ⟨w,h1,by rw[e,h2]⟩) h.1
   ·exact ih h.2 h1 h2
def q0{c}(h:cd c){w v}(f:cm c w)(d:cm c v)(e:w.R=v.R):w=v:=by
 have a:=(ju h).1 d;rw[<-e]at a;have b:0<c.Q.length:=oH h.Q;exact G_ (h.at (aQ _ b)).one ((ju h).1 f) a e
def o4{c}(h:cd c){k}(g:k<c.Q.length)(s){w}:cm (rK c k s) w↔w∈s∨(cm c w∧w.R/16%c.Q.length≠k):=by
 show w∈(c.Q.set k s).flatten↔_;rw[List.mem_flatten];constructor
 ·rintro⟨t,i,b⟩;let⟨j,a,e⟩:=fY i;rw[List.getElem_set]at e;split at e
  ·subst e;exact .inl b
  rename_i d;rw[cC]at a;subst e;refine .inr ⟨List.mem_flatten.2 ⟨_,jO a,b⟩,?_⟩;rw[((h.set j _ (aA a)).ZM w b).set];exact λz=>d z.symm
 rintro(b|⟨l,d⟩)
 ·exact⟨s,List.mem_set g s,b⟩
 have f:=(ju h).1 l;have a:w.R/16%c.Q.length<c.Q.length:=aQ _ ad;rw[vA (aA a)]at f;exact⟨_,List.mem_iff_getElem?.2 ⟨w.R/16%c.Q.length,by rw[kX (λz=>d z.symm)];exact aA a⟩,f⟩
def H6{p}{i}(b:p.V%16=0)(a:p.data.size=0∨p.data.size=16):dg p i=if p.V=ab i then gb p.data (i%16)else none:=by
 unfold dg ab;by_cases h:p.V=i-i%16
 ·rw[aa h,aa ad,(oT:i-p.V=i%16)]
 rw[dZ h];split
 ·exact j8 ad
 rfl
def fo(c:Ca)(i:Nat):Option UInt8:=fi (LV c) i
def mv{c}(h:cd c){w}(a:cm c w)(i):dg ⟨w.R,w.data⟩ i=if w.R=ab i then gb w.data (i%16)else none:=by
 have g:=oB h a;have:=g.R;exact H6 (by show w.R%16=0;unfold ab at this;omega) g.data
def j7{c}(h:cd c){w}(a:cm c w){i}(e:w.R=ab i):fo c i=gb w.data (i%16):=by
 refine H5 (λp hp=>?_) ⟨⟨w.R,w.data⟩,pG.2 ⟨w,a,rfl⟩,by rw[mv h a,aa e]⟩;obtain⟨v,b,rfl⟩:=pG.1 hp;rw[mv h b];split
 ·rename_i d;rw[q0 h b a (d.trans e.symm)];exact .inr rfl
 exact .inl rfl
def ow{c}(h:cd c){i}(b:∀w,cm c w->w.R≠ab i):fo c i=none:=by
 refine qr λp hp=>?_;obtain⟨v,a,rfl⟩:=pG.1 hp;rw[mv h a,dZ (b v a)]
def m9{c d}(h:cd c)(k:cd d){i}(e:∀w,w.R=ab i->(cm d w->∃v,cm c v∧v.R=w.R∧v.data=w.data)∧(cm c w->∃v,cm d v∧v.R=w.R∧v.data=w.data)):fo d i=fo c i:=by
 by_cases j:∃w,cm c w∧w.R=ab i
 ·let⟨w,b,a⟩:=j;let⟨v,g,f,l⟩:=(e w a).2 b;rw[j7 h b a,j7 k g (f.trans a),l]
 rw[ow h λw b a=>j ⟨w,b,a⟩,ow k λw b a=>?_];let⟨v,g,f,_⟩:=(e w a).1 b;exact j ⟨v,g,f.trans a⟩
def oz{c}(h:cd c)(agY){w}:cm (tO c agY) w↔cm c w:=by
 by_cases a:(bK c agY).2.isSome=true
 ·rw[Dw a];have ff:=pR a;rw[o4 h ff.2.2.1,(EV ff.2.2.2).mem_iff];constructor
  ·rintro(h1|h1)
   ·rwa[ju h,((h.at ff.2.2.1).ZM w h1).set]
   exact h1.1
  intro b;by_cases e:w.R/16%c.Q.length=(bK c agY).1
  ·exact .inl (by rw[<-e];exact(ju h).1 b)
  exact .inr ⟨b,e⟩
 rw[Dx (sU a)]
def qu{c}(h:cd c){agY}(b:(bK c agY).2.isSome=false){w}(f:cm c w):w.R≠ab agY:=by
 rw[rI (agY:=agY) (hQ.1 h).1]at b;have e:jY _ _=none:=sU b;intro d;have a:=(ju h).1 f;rw[d]at a;exact QC.1 e w a d
def mx{c}(h:cd c){agY}(d:(bK c agY).2.isSome=true):∃w,(pF c (bK c agY).1)[(bK c agY).2.getD 0]?=some w∧cm c w∧w.R=ab agY:=by
 have ff:=pR d;refine⟨_,aA ff.2.2.2,?_,?_⟩
 ·have g:=jO ff.2.2.2;rwa[ju h,((h.at ff.2.2.1).ZM _ g).set]
 ·have e:=rI (agY:=agY) (hQ.1 h).1;have hp:∀(l:List Wy) (x j:Nat) _,jY l x=some j->l[j].R=x:=by
   intro l
   induction l with
   |nil=>intro x j a;exact absurd a (dG _)
   | cons y l ih=>
    intro x j a q;unfold jY at q;by_cases b:y.R=x
    ·rw[aa b]at q;injection q with q;subst q;exact b
    ·rw[dZ b,Gi]at q;let⟨i,k,m⟩:=q;subst m;exact ih x i _ k
  let⟨j,a⟩:=FH.1 d;apply hp _ _ _ _;have f:=a;rw[e]at f;rwa[a,e]
def sn{c}(h:cd c){agY}(m:(bK c agY).2.isSome=false)(d)(b):
  ((qZ c agY d b).2.2=false∧∀w,cm (qZ c agY d b).1 w↔w=⟨ab agY,b,dC d⟩∨cm c w)∨
  ((qZ c agY d b).2.2=true∧cm c (qZ c agY d b).2.1∧∀w,cm (qZ c agY d b).1 w↔w=⟨ab agY,b,dC d⟩∨(cm c w∧w.R≠(qZ c agY d b).2.1.R)):=by
 have j:=(hQ.1 h).1;have i:(bK c agY).1<c.Q.length:=by rw[rI (agY:=agY) j];exact AP (kJ j).1 _
 have e:∀w,w∈pF c (bK c agY).1↔cm c w∧w.R/16%c.Q.length=(bK c agY).1:=λw=>by
  constructor
  ·intro f;have q:=((h.at i).ZM w f).set;exact⟨by rw[ju h,q];exact f,q⟩
  ·rintro⟨f,q⟩;rw[<-q];exact(ju h).1 f
 rw[AR j m];split
 all_goals
  first
   |rename_i f;right;have a:pF c (bK c agY).1≠[]:=λz=>by rw[z]at f;have:=h.ways;simp at f;omega
    have l:(pF c (bK c agY).1).getLast?.getD qE=(pF c (bK c agY).1).getLast a:=by rw[List.getLast?_eq_some_getLast a];rfl
    have k:=(e _).1 (List.getLast_mem a);refine⟨rfl,by show cm c ((pF c (bK c agY).1).getLast?.getD qE);rw[l];exact k.1,λw=>?_⟩;rw[l,o4 h i,dn];have g:=(h.at i).one;have n:w∈(pF c (bK c agY).1).dropLast↔w∈pF c (bK c agY).1∧w.R≠((pF c (bK c agY).1).getLast a).R:=by
     constructor
     ·intro q;refine⟨oC _ q,λz=>?_⟩;rw[<-List.dropLast_concat_getLast a,dH,List.nodup_append]at g;exact g.2.2 w.R (pG.2 ⟨w,q,rfl⟩) _ (pG.2 ⟨_,uJ.2 rfl,rfl⟩) z
     ·rintro⟨q,z⟩;rw[<-List.dropLast_concat_getLast a]at q;rcases cz.1 q with q|q
      ·exact q
      ·exact absurd (by rw[uJ.1 q]) z
    rw[n,e]
   |left;refine⟨rfl,λw=>?_⟩;rw[o4 h i,dn,e]
  constructor
  ·rintro((q|q)|q)
   ·exact .inl q
   ·first|exact .inr ⟨q.1.1,q.2⟩|exact .inr q.1
   ·first|(exact .inr ⟨q.1,λz=>q.2 (by rw[z];exact k.2)⟩)|exact .inr q.1
  ·rintro(q|q)
   ·exact .inl (.inl q)
   ·by_cases z:w.R/16%c.Q.length=(bK c agY).1
    ·first|exact .inl (.inr ⟨⟨q.1,z⟩,q.2⟩)|exact .inl (.inr ⟨q,z⟩)
    ·first|exact .inr ⟨q.1,z⟩|exact .inr ⟨q,z⟩
def E9{f}{l}{j}{x:Wy}(a:l[j]?=some x):k9 f (eY l j)=f x::(l.take j++l.drop (j+1)):=by
 unfold eY;rw[a];rfl
def v1{l:List Wy}(h:(l.map (·.R)).Nodup){j}{x}(b:l[j]?=some x){w}:w∈l.take j++l.drop (j+1)↔w∈l∧w.R≠x.R:=by
 let⟨c,e⟩:=Em.1 b;have hp:(x::(l.take j++l.drop (j+1))).Perm l:=by
  have:=EV c;unfold eY at this;rwa[b]at this
 have a:=((hp.map _).nodup_iff).2 h;rw[jC,List.nodup_cons]at a;constructor
 ·intro q;exact⟨hp.mem_iff.1 (bY _ q),λz=>a.1 (pG.2 ⟨w,q,z⟩)⟩
 rintro⟨q,z⟩;rcases dn.1 (hp.mem_iff.2 q)with r|r
 ·exact absurd (by rw[r]) z
 exact r
def v2{c}(h:cd c){agY}(b:(bK c agY).2.isSome=true){s}{x y}(e:(pF c (bK c agY).1)[(bK c agY).2.getD 0]?=some x)
  (d:∀w,w∈s↔w=y∨(w∈pF c (bK c agY).1∧w.R≠x.R)) (a:x.R=ab agY) (w):cm (rK c (bK c agY).1 s) w↔w=y∨(cm c w∧w.R≠ab agY):=by
 have ff:=pR b;rw[o4 h ff.2.2.1,d,a];constructor
 ·rintro((q|q)|q)
  ·exact .inl q
  ·refine .inr ⟨?_,q.2⟩;rw[ju h,((h.at ff.2.2.1).ZM w q.1).set];exact q.1
  refine .inr ⟨q.1,λz=>q.2 ?_⟩;rw[z, <-a];exact ((h.at ff.2.2.1).ZM x (aB e)).set
 rintro(q|q)
 ·exact .inl (.inl q)
 by_cases z:w.R/16%c.Q.length=(bK c agY).1
 ·exact .inl (.inr ⟨by rw[<-z];exact(ju h).1 q.1,q.2⟩)
 exact .inr ⟨q.1,z⟩
def v8{c}(h:cd c){a}{b}(e:(xL c a b).2=true):∃v,cm c v∧v.R=ab a∧v.data.size=16∧b.size+a%16<=16∧
  ∀w,cm (xL c a b).1 w↔w={v with data:=Fk v.data (a%16) b,Z_:=true}∨(cm c w∧w.R≠ab a):=by
 by_cases d:(bK c a).2.isSome=true
 ·let⟨x,f,i,g⟩:=mx h d;rw[At b d rfl f]at e⊢;by_cases j:x.data.size=0∨b.size+a%16>16
  ·rw[aa j]at e;cases e
  rw[dZ j];refine⟨x,i,g,oH (oB h i).data,oT,v2 h d f (λw=>?_) g⟩;rw[E9 f,dn,v1 (h.at (pR d).2.2.1).one f]
 rw[GV b (sU d)]at e;cases e
def v9{c}(h:cd c){agY}(w):cm (wB c agY) w↔(∃u,cm c u∧u.R=ab agY∧w={u with Z_:=false})∨(cm c w∧w.R≠ab agY):=by
 by_cases a:(bK c agY).2.isSome=true
 ·let⟨x,i,d,b⟩:=mx h a;rw[Dy a rfl,v2 h a i (λv=>?_) b]
  ·constructor
   ·rintro(q|q)
    ·exact .inl ⟨x,d,b,q⟩
    exact .inr q
   rintro(⟨u,f,g,j⟩|q)
   ·rw[q0 h f d (g.trans b.symm)]at j;exact .inl j
   exact .inr q
  let⟨l,e⟩:=Em.1 i;rw[<-v1 ((h.at (pR a).2.2.1).one) i,List.modify_eq_take_cons_drop l,e];simp[cz,dn];constructor
  all_goals
   rintro(q|q|q)
   ·exact .inr (.inl q)
   ·exact .inl q
   exact .inr (.inr q)
 rw[Dz (sU a)];have k:=λv=>qu h (sU a) (w:=v);constructor
 ·intro q;exact .inr ⟨q,k w q⟩
 rintro(⟨u,f,g,_⟩|q)
 ·exact absurd g (k u f)
 exact q.1
def ek(q:List a5)(m:ByteArray)(i:Nat):Option UInt8:=(fi (fP q) i).or (gb m i)
def hD(c:Ca)(q:List a5)(m:ByteArray)(i:Nat):Option UInt8:=(fo c i).or (ek q m i)
def H7(q:List a5)(m:ByteArray){i:Nat}(a:i<m.size):gb (jZ q m) i=ek q m i:=mq _ _ _ a
def q7(s)(c)(q)(m){i}(a:i<m.size):gb (js s c q m) i=(fi s i).or (hD c q m i):=by
 unfold js Ct jZ;rw[mq _ _ _ (by rw[iY,iY];exact a),mq _ _ _ (by rw[iY];exact a),mq _ _ _ a];rfl
def qp{s f}{c b}{q e}{m a}(g:a.size=m.size)(h:∀i,i<m.size->(fi f i).or (hD b e a i)=(fi s i).or (hD c q m i)):js f b e a=js s c q m:=by
 refine mw (by rw[MU,MU,g]) λi d=>?_;rw[MU]at d;rw[q7 _ _ _ _ d,q7 _ _ _ _ ad];exact h i ad
def u1(q)(k)(agY)(left)(d):fP (Bi q k agY left d)=fP q++if k=4 then [⟨agY,d⟩]else []:=by
 unfold fP Bi;rw[mL,dH];congr 1;by_cases h:k=4
 ·rw[aa h];subst h;rfl
 rw[dZ h,List.filter_cons,dZ (sU h)];rfl
def u2(q)(agY)(left)(d)(m)(i):ek (Bi q 4 agY left d) m i=(dg ⟨agY,d⟩ i).or (ek q m i):=by
 unfold ek;rw[u1,aa rfl,qo,Option.or_assoc];congr 1;rw[l1];rfl
def F4(q){k}(a:k≠4)(agY)(left)(d)(m)(i):ek (Bi q k agY left d) m i=ek q m i:=by
 unfold ek;rw[u1,dZ a,dY]
structure hM(d:Ca)(q:List a5)(m:ByteArray):Prop where
 g:cd d
 al:m.size%16=0
 cl:∀w,cm d w->w.Z_=false->0<w.data.size->∀i,i<m.size->w.R=ab i->gb w.data (i%16)=ek q m i
def o5{c}(h:cd c){w}(a:cm c w)(b:0<w.data.size){i}:∃x,gb w.data (i%16)=some x:=by
 have:=(oB h a).data;exact⟨_,aT (show i%16<w.data.data.size by show i%16<w.data.size;omega)⟩
def I9{m:ByteArray}(a:m.size%16=0){i}(b:i<m.size):ab i+16<=m.size:=by unfold ab;omega
def ww{m}(b:m.size%16=0){agY i}(c:i<m.size)(e:ab agY=ab i):(dC (Ga m agY)).size=16∧gb (dC (Ga m agY)) (i%16)=gb m i:=by
 have d:=I9 b c;unfold Ga;rw[e,aa ad,(oT:min _ 16=16)];have a:(m.extract (ab i) (ab i+16)).size=16:=by rw[dA];omega
 rw[show dC _=m.extract _ (ab i+16)from aa a];refine⟨a,?_⟩;rw[j9,aa ad];congr 1;unfold ab;omega
def H8{d}{q}{m}(h:hM d q m){agY}(Q:agY<=4294967295)(left):
  hM (iQ d q m agY left).1 (iQ d q m agY left).2.1 m∧∀i,i<m.size->hD (iQ d q m agY left).1 (iQ d q m agY left).2.1 m i=hD d q m i:=by
 unfold iQ;rw[dZ (by rw[(hQ.1 h.g).1];decide)];have u:ab (ab agY)=ab agY:=by unfold ab;omega
 by_cases K:(bK d (ab agY)).2.isSome=true
 ·rw[aa K];have N:=λw=>oz h.g (ab agY) (w:=w);refine⟨⟨h.g.Zj _,h.al,λw f=>h.cl w ((N w).1 f)⟩,λi _=>?_⟩;show hD (tO d (ab agY)) q m i=_;unfold hD;rw[m9 h.g (h.g.Zj _) λw _=>⟨λz=>⟨w,(N w).1 z,rfl,rfl⟩,λz=>⟨w,(N w).2 z,rfl,rfl⟩⟩]
 ·rw [dZ K];have E:(bK d (ab agY)).2.isSome=false:=sU K;have H:∀{w},cm d w->w.R≠ab agY:=λ{w} f=>u ▸ qu h.g E f;have j:=h.g.put (dV Q) (Ga (jZ q m) (ab agY)) false;have I:(jZ q m).size=m.size:=iY _ _;have k:∀i,i<m.size->ab agY=ab i->(dC (Ga (jZ q m) (ab agY))).size=16∧gb (dC (Ga (jZ q m) (ab agY))) (i%16)=ek q m i:=λi b e=>by
   obtain⟨O,J⟩:=ww (by rw[I];exact h.al) (by rw[I];exact b) (u.trans e);exact⟨O,J.trans (H7 q m b)⟩
  have v:∀i,i<m.size->ab agY=ab i->fo d i=none:=λi _ e=>ow h.g λw f z=>H f (z.trans e.symm);have B:∀i,i<m.size->ab agY=ab i->∃x,ek q m i=some x:=λi b e=>by
   let⟨O,J⟩:=k i b e;rw[<-J];exact⟨_,aT (oT:i%16<(dC (Ga (jZ q m) (ab agY))).size)⟩
  rcases sn h.g E (Ga (jZ q m) (ab agY)) false with ⟨o,f⟩|⟨o,l,f⟩
  ·rcases L:qZ d (ab agY) (Ga (jZ q m) (ab agY)) false with ⟨c,a,g⟩;rw[L]at o f j;simp only at o f j;rw[u]at f;show hM (if g=true∧a.Z_=true∧a.data.size≠0 then(c,Bi q 4 a.R left a.data,true)else(c,q,false):Ca×List a5×Bool).1 (if g=true∧a.Z_=true∧a.data.size≠0 then(c,Bi q 4 a.R left a.data,true)else(c,q,false):Ca×List a5×Bool).2.1 m∧∀i,i<m.size->hD (if g=true∧a.Z_=true∧a.data.size≠0 then(c,Bi q 4 a.R left a.data,true)else(c,q,false):Ca×List a5×Bool).1 (if g=true∧a.Z_=true∧a.data.size≠0 then(c,Bi q 4 a.R left a.data,true)else(c,q,false):Ca×List a5×Bool).2.1 m i=hD d q m i;rw[dZ (by rw[o];simp)];have D:cm c ⟨ab agY,false,dC (Ga (jZ q m) (ab agY))⟩:=(f _).2 (.inl rfl);refine⟨⟨j,h.al,λw r s t i b e=>?_⟩,λi b=>?_⟩
   ·rcases(f w).1 r with z|z
    ·subst z;exact(k i b e).2
    ·exact h.cl w z s t i b e
   ·show(fo c i).or _=(fo d i).or _;by_cases e:ab agY=ab i
    ·rw[j7 j D e,v i b e,(k i b e).2];let⟨x,p⟩:=B i b e;rw[p];rfl
    ·rw[m9 h.g j λw C=>⟨λz=>⟨w,((f w).1 z).resolve_left λy=>e (by rw[<-C,y]),rfl,rfl⟩,λz=>⟨w,(f w).2 (.inr z),rfl,rfl⟩⟩]
  ·rcases L:qZ d (ab agY) (Ga (jZ q m) (ab agY)) false with ⟨c,a,g⟩;rw[L]at o f j l;simp only at o f j l;rw[u]at f;have D:cm c ⟨ab agY,false,dC (Ga (jZ q m) (ab agY))⟩:=(f _).2 (.inl rfl);have F:a.R≠ab agY:=H l;have G:∀i,a.R=ab i->fo c i=none:=λi e=>ow j λw z y=>by
    rcases(f w).1 z with x|x
    ·rw[x]at y;exact F (e.trans y.symm)
    ·exact x.2 (y.trans e.symm)
   have A:∀i,ab agY≠ab i->a.R≠ab i->fo c i=fo d i:=λi e n=>
    m9 h.g j λw C=>⟨λz=>⟨w,(((f w).1 z).resolve_left λy=>e (by rw[<-C,y])).1,rfl,rfl⟩,λz=>⟨w,(f w).2 (.inr ⟨z,λy=>n (by rw[<-y,C])⟩),rfl,rfl⟩⟩
   show hM (if g=true∧a.Z_=true∧a.data.size≠0 then(c,Bi q 4 a.R left a.data,true)else(c,q,false):Ca×List a5×Bool).1 (if g=true∧a.Z_=true∧a.data.size≠0 then(c,Bi q 4 a.R left a.data,true)else(c,q,false):Ca×List a5×Bool).2.1 m∧∀i,i<m.size->hD (if g=true∧a.Z_=true∧a.data.size≠0 then(c,Bi q 4 a.R left a.data,true)else(c,q,false):Ca×List a5×Bool).1 (if g=true∧a.Z_=true∧a.data.size≠0 then(c,Bi q 4 a.R left a.data,true)else(c,q,false):Ca×List a5×Bool).2.1 m i=hD d q m i;by_cases M:g=true∧a.Z_=true∧a.data.size≠0
   ·rw [aa M];have P:∀i,ek (Bi q 4 a.R left a.data) m i=if a.R=ab i then gb a.data (i%16)else ek q m i:=λi=>by
     rw[u2,mv h.g l];split
     ·obtain⟨x,p⟩:=o5 h.g l ad;rw[p];rfl
     ·rfl
    refine⟨⟨j,h.al,λw r s t i b e=>?_⟩,λi b=>?_⟩
    ·show _=ek (Bi q 4 a.R left a.data) m i;rw[P];rcases(f w).1 r with z|z
     ·subst z;rw[dZ (λy=>F (y.trans e.symm))];exact(k i b e).2
     ·rw[dZ (λy=>z.2 (e.trans y.symm))];exact h.cl w z.1 s t i b e
    ·show(fo c i).or (ek (Bi q 4 a.R left a.data) m i)=(fo d i).or _;rw[P];by_cases n:a.R=ab i
     ·rw[aa n,G i n,j7 h.g l n];obtain⟨x,p⟩:=o5 h.g l ad;rw[p];rfl
     ·rw[dZ n];by_cases e:ab agY=ab i
      ·rw[j7 j D e,v i b e,(k i b e).2];let⟨x,p⟩:=B i b e;rw[p];rfl
      ·rw[A i e n]
   ·rw [dZ M];refine⟨⟨j,h.al,λw r s t i b e=>?_⟩,λi b=>?_⟩
    ·rcases(f w).1 r with z|z
     ·subst z;exact(k i b e).2
     ·exact h.cl w z.1 s t i b e
    ·show(fo c i).or _=(fo d i).or _;by_cases n:a.R=ab i
     ·rw[G i n,j7 h.g l n];by_cases t:a.data.size=0
      ·rw[j8 ad]
      ·have s:a.Z_=false:=by
        cases R:a.Z_ with
        |false=>rfl
        |true=>exact absurd ⟨o,R,t⟩ M
       rw[h.cl a l s ad i b n];cases ek q m i<;>rfl
     ·by_cases e:ab agY=ab i
      ·rw[j7 j D e,v i b e,(k i b e).2];let⟨x,p⟩:=B i b e;rw[p];rfl
      ·rw[A i e n]
def o6(x)(q):fP (x::q)=(if x.kind=4 then [⟨x.R,x.data⟩]else [])++fP q:=by
 unfold fP;by_cases h:x.kind=4
 ·rw[aa h,List.filter_cons,aa (sU h)];rfl
 rw[dZ h,List.filter_cons,dZ (sU h)];rfl
def F5(q)(m)(i)(b:i<m.size):
  ek (eH q).1 (if(eH q).2.2=true∧(eH q).2.1.kind=4 then rP m [⟨(eH q).2.1.R,(eH q).2.1.data⟩]else m) i=ek q m i:=by
 cases q with
 |nil=>rfl
 | cons x r=>
  by_cases h:wrap64 (x.left-1)>0
  ·rw[show eH (x::r)=({x with left:=wrap64 _}::r,OU,false)from aa h,dZ (by simp)];unfold ek;rw[o6,o6]
  ·rw[show eH (x::r)=(r,{x with left:=wrap64 _},true)from dZ h];by_cases a:x.kind=4
   ·rw[aa ⟨rfl,a⟩];unfold ek;rw[o6,aa a,mq _ _ _ b,qo,Option.or_assoc]
   ·rw[dZ (λz=>a z.2)];unfold ek;rw[o6,dZ a,iA]
theorem hM.Zc{d}{q b}{m a}(h:hM d q m)(g:a.size=m.size)(c:∀i,i<m.size->ek b a i=ek q m i):hM d b a:=
 ⟨h.g,by rw[g];exact h.al,λw k f j i l e=>by rw[c i ad];exact h.cl w k f j i ad e⟩
abbrev Co.mc(c:Co):Prop:=hM c.data c.X c.mem
abbrev Co.YF(c:Co)(i:Nat):Option UInt8:=hD c.data c.X c.mem i
structure hY(c d:Co):Prop where
 mc:d.mc
 sz:d.mem.size=c.mem.size
 un:∀i,i<c.mem.size->d.YF i=c.YF i
theorem hY.refl{c}(h:c.mc):hY c c:=⟨h,rfl,λ_ _=>rfl⟩
theorem hY.trans{a b c}(h:hY a b)(k:hY b c):hY a c:=⟨k.mc,k.sz.trans h.sz,λi d=>(k.un i (oH h.sz)).trans (h.un i d)⟩
theorem hY.same{a b c}(h:hY a b)(e:c.data=b.data)(f:c.X=b.X)(d:c.mem=b.mem):hY a c:=by
 refine⟨?_,by rw[d];exact h.sz,λi g=>?_⟩
 ·show hM c.data c.X c.mem;rw[e,f,d];exact h.mc
 show hD c.data c.X c.mem i=_;rw[e,f,d];exact h.un i g
def rk{c}(h:c.mc){agY}(e:agY<=4294967295):hY c (oK c agY):=by
 have b:=H8 h e (lX c.U c.asked);have a:=(j6 c agY).1;refine⟨?_,by rw[a],λi d=>?_⟩
 ·show hM (oK c agY).data (oK c agY).X (oK c agY).mem;rw[a];exact b.1
 show hD (oK c agY).data (oK c agY).X (oK c agY).mem i=_;rw[a];exact b.2 i d
def nh{c}(h:c.mc){k}(b:k≠4)(agY)(d):hY c (jE c k agY d):=by
 have a:∀i,ek (jE c k agY d).X c.mem i=ek c.X c.mem i:=λi=>F4 _ b _ _ _ _ _;refine⟨hM.Zc h rfl λi _=>a i,rfl,λi _=>?_⟩;show(fo c.data i).or (ek (jE c k agY d).X c.mem i)=_;rw[a];rfl
def G'{q}(h:∀x∈q,x.ok):(eH q).2.2=true->(eH q).2.1.R<=4294967295:=by
 cases q with
 |nil=>intro z;cases z
 |cons x r=>
  by_cases a:wrap64 (x.left-1)>0
  ·rw[show eH (x::r)=({x with left:=wrap64 _}::r,OU,false)from aa a];intro z;cases z
  ·rw[show eH (x::r)=(r,{x with left:=wrap64 _},true)from dZ a];exact λ_=>(h x b_).1
def m_{c}(h:c.mc)(r:∀x∈c.X,x.ok):hY c (lM c):=by
 have a:=F5 c.X c.mem;have k:=G' r;unfold lM;rcases p:eH c.X with ⟨q,x,ok⟩;rw[p]at a k;simp only at a k;show hY c (if ok=true then ID {c with X:=q} x else {c with X:=q});have j:∀{e:ByteArray},e.size=c.mem.size->(∀i,i<c.mem.size->ek q e i=ek c.X c.mem i)->hY c {c with X:=q,mem:=e }:=λ{e} o a=>by
  refine⟨hM.Zc h o a,o,λi b=>?_⟩;show(fo c.data i).or (ek q e i)=_;rw[a i b];rfl
 by_cases d:ok=true
 ·rw [aa d];unfold ID;by_cases f:x.kind=4
  ·rw[dZ ad,dZ ad,dZ ad,aa f];exact j (iY _ _) λi b=>by have:=a i b;rwa[aa ⟨d,f⟩]at this
  have g:hY c {c with X:=q}:=j rfl λi b=>by have:=a i b;rwa[dZ (λz=>f z.2)]at this
  by_cases l:x.kind=1
  ·rw[aa l];exact g.same rfl rfl rfl
  rw[dZ l];by_cases m:x.kind=2
  ·rw[aa m];exact g.same rfl rfl rfl
  rw[dZ m];by_cases n:x.kind=3
  ·rw[aa n];exact g.trans (rk g.mc (k d))
  rwa[dZ n,dZ f]
 rw[dZ d];exact j rfl λi b=>by have:=a i b;rwa[dZ (λz=>d z.1)]at this
def Hc{d b}{a j}(h:d.size=16)(g:b.size+a<=16)(i:j<16):gb (Fk d a b) j=(if a<=j then gb b (j-a)else none).or (gb d j):=by
 unfold Fk;rw[oy,oy,j9,j9];simp only[kH,dA];by_cases c:a<=j
 ·rw[aa c];by_cases e:j-a<b.size
  ·rw[aa ad,dZ ad,(oT:j-(min a d.size-0)=j-a)];have:∃x,gb b _=some x:=⟨_,aT e⟩;let⟨x,f⟩:=this;rw[f];rfl
  rw[j8 (i:=j-a) ad,dZ ad,aa ad,(oT:a+b.size+(j-(min a d.size-0+b.size))=j)];rfl
 rw[dZ c,aa ad,aa ad,aa ad,(oT:0+j=j)];rfl
def H9{d}{q}{m}(h:hM d q m){p}(u:(xL d p.V p.data).2=true):
  hM (xL d p.V p.data).1 q m∧∀i,i<m.size->hD (xL d p.V p.data).1 q m i=(dg p i).or (hD d q m i):=by
 let⟨v,t,a,n,j,b⟩:=v8 h.g u;have c:=h.g.write p.V p.data;refine⟨⟨c,h.al,λw o k s i l e=>?_⟩,λi l=>?_⟩
 ·rcases(b w).1 o with z|z
  ·subst z;cases k
  exact h.cl w z.1 k s i l e
 show(fo _ i).or _=(dg p i).or ((fo d i).or _);by_cases e:ab p.V=ab i
 ·rw[j7 c ((b _).2 (.inl rfl)) (a.trans e),j7 h.g t (a.trans e),Hc n j ad,Option.or_assoc];congr 1;unfold dg ab at *;by_cases g:p.V<=i
  ·rw[aa g,aa ad];congr 1;omega
  rw[dZ g,dZ ad]
 have r:dg p i=none:=by
  unfold dg;split
  ·exact j8 (by unfold ab at e;omega)
  rfl
 rw[r,m9 h.g c λw f=>⟨λz=>⟨w,(((b w).1 z).resolve_left λy=>e (by rw[<-f,y];exact a.symm)).1,rfl,rfl⟩,λz=>⟨w,(b w).2 (.inr ⟨z,λy=>e (by rw[<-y,f])⟩),rfl,rfl⟩⟩];rfl
def I_{d}{q}{m}(h:hM d q m){w}(a:cm d w)(A:w.data.size≠0)(left):
  hM (wB d w.R) (Bi q 4 w.R left w.data) m∧∀i,i<m.size->hD (wB d w.R) (Bi q 4 w.R left w.data) m i=hD d q m i:=by
 have n:=h.g.Y5 w.R;have c:=(oB h.g a).R;have b:=λv=>v9 h.g (agY:=w.R) v;have l:∀i,ek (Bi q 4 w.R left w.data) m i=if w.R=ab i then gb w.data (i%16)else ek q m i:=λi=>by
  rw[u2,mv h.g a];split
  ·obtain⟨x,j⟩:=o5 h.g a ad;rw[j];rfl
  rfl
 refine⟨⟨n,h.al,λv t r p i o e=>?_⟩,λi o=>?_⟩
 ·rw[l];rcases(b v).1 t with ⟨u,f,k,g⟩|z
  ·have:=q0 h.g f a (k.trans c);subst this g;rw[aa e]
  rw[dZ (λy=>z.2 (by rw[e, <-y,c]))];exact h.cl v z.1 r p i o e
 show(fo _ i).or _=(fo d i).or _;have s:fo (wB d w.R) i=fo d i:=m9 h.g n λv _=>⟨λz=>by
  rcases(b v).1 z with ⟨u,f,k,g⟩|y
  ·subst g;exact⟨u,f,rfl,rfl⟩
  ·exact⟨v,y.1,rfl,rfl⟩,λz=>by
  by_cases e:v.R=ab w.R
  ·exact⟨{v with Z_:=false},(b _).2 (.inl ⟨v,z,e,rfl⟩),rfl,rfl⟩
  exact⟨v,(b v).2 (.inr ⟨z,e⟩),rfl,rfl⟩⟩
 rw[s,l];split
 ·rename_i e;rw[j7 h.g a e];obtain⟨x,j⟩:=o5 h.g a ad;rw[j];rfl
 rfl
def nc{c d:Co}(h:hY c d)(b:d.W=c.W):Xr d=Xr c:=qp h.sz λi a=>by rw[b];exact ax _ (h.un i a)
def wx{c}(h:c.mc):(tY c).mc∧Xr (tY c)=Xr c∧(tY c).mem.size=c.mem.size:=by
 have g:(aW c).mc∧Xr (aW c)=Xr c∧(aW c).mem=c.mem:=by
  cases f:c.W with
  |nil=>
   have m:aW c={c with W:=[],data:=c.data}:=by unfold aW;rw[f];rfl
   rw[m]
   exact⟨h,by unfold Xr;rw[f],rfl⟩
  | cons p l=>
   have m:aW c={c with W:=(sL (p::l) c.data).1,data:=(sL (p::l) c.data).2.1}:=by unfold aW;rw[f]
   rw[m];by_cases j:(xL c.data p.V p.data).2=true
   ·rw[show sL (p::l) c.data=(l,(xL c.data p.V p.data).1,true)from aa j];have k:=H9 h j;refine⟨k.1,?_,rfl⟩;unfold Xr;refine qp rfl λi n=>?_;rw[f,l1,Option.or_assoc,k.2 i n]
   ·rw[show sL (p::l) c.data=(p::l,c.data,false)from dZ j];exact⟨h,by unfold Xr;rw[f],rfl⟩
 have q:∀{d:Co},d.mc->(tW d).mc∧Xr (tW d)=Xr d∧(tW d).mem.size=d.mem.size:=λ{d} k=>by
  unfold tW;split
  ·exact⟨k,rfl,rfl⟩
  ·split
   ·have z:=λl=>nh k (k:=3) dT l oZ;exact⟨(z _).mc,nc (z _) rfl,(z _).sz⟩
   ·exact⟨k,rfl,rfl⟩
 have o:∀{d:Co},d.mc->(nP d).mc∧Xr (nP d)=Xr d∧(nP d).mem.size=d.mem.size:=λ{d} k=>by
  unfold nP;split
  ·exact⟨k,rfl,rfl⟩
  ·unfold pE;split
   ·rename_i w e;split
    ·rename_i f;have j:cm d.data w:=by
      unfold cR at e;split at e
      ·exact List.mem_of_find?_eq_some e
      ·cases e
     have z:=I_ k j f (lX d.U d.asked);refine⟨z.1,?_,rfl⟩;unfold Xr;exact qp rfl λi n=>ax _ (z.2 i n)
    ·exact⟨k,rfl,rfl⟩
   ·exact⟨k,rfl,rfl⟩
 rw[mO];split
 ·have a:=q g.1;have b:=o a.1;exact⟨b.1,b.2.1.trans (a.2.1.trans g.2.1),b.2.2.trans (a.2.2.trans (by rw[g.2.2]))⟩
 ·have b:=o g.1;exact⟨b.1,b.2.1.trans g.2.1,b.2.2.trans (by rw[g.2.2])⟩
def es{c d:Co}(h:c.mc)(a:d.data=c.data)(b:d.X=c.X)(e:d.mem=c.mem):d.mc:=by
 show hM d.data d.X d.mem;rwa[a,b,e]
theorem o7:∀(n:Nat) (c:Co),(∀e∈c.Z,e.ok)->c.mc->(eC n c).mc
 |0,_,_,h=>h
 | n + 1,c,d,h=>by
  unfold eC;split
  ·exact h
  ·split
   ·exact h
   ·rename_i e l a;split
    ·exact h
    ·split
     ·exact es h rfl rfl rfl
     ·split
      ·exact h
      ·have b:=d e (by rw[a];exact b_);refine o7 n _ (λx f=>d x (by rw[a];exact bY _ f)) ?_;have hp:(fZ c (cA e)).mc:=es h rfl rfl rfl;unfold vZ vG;split
       ·exact es (rk hp (fE b).V).mc rfl rfl rfl
       ·exact es h rfl rfl rfl
def I'{c}(h:c.mc)(i):(oE c i).mc:=by
 have a:=λl=>(nh h (k:=1) dT l oZ).mc;unfold oE
 repeat' split
 all_goals first|exact h|exact (λe=>es h rfl rfl rfl) _|exact es (a _) rfl rfl rfl
def H_{c}(h:c.mc)(i):(iS c i).mc:=by
 have a:∀e,(b1 c i e).mc:=λe=>es h rfl rfl rfl;unfold iS
 repeat' split
 all_goals first|exact h|exact a _|exact I' (a _) _
theorem qs:∀(p:List Nat) (c:Co),c.mc->(p.foldl iS c).mc
 |[],_,h=>h
 |i::p,c,h=>qs p _ (H_ h i)
theorem re:∀(n:Nat) (c:Co),c.mc->(kV n c).mc
 |0,_,h=>h
 |n+1,c,h=>by
  unfold kV
  repeat' split
  ·exact h
  ·exact h
  ·exact re n _ (es h rfl rfl rfl)
theorem rl:∀(n:Nat) (c:Co),c.mc->(eL n c).mc
 |0,_,h=>h
 | n +1,c,h=>by
  unfold eL;split
  ·exact h
  ·split
   ·exact es h rfl rfl rfl
   ·split
    ·split
     ·exact(nh h (k:=2) dT _ _).mc
     ·exact h
    ·refine rl n _ ?_;have a:∀w,(dM {c with y:=tO c.y (ab c.K)} w).1.mc:=λw=>by
      unfold dM
      repeat' split
      all_goals exact es h rfl rfl rfl
     exact es (a (bi c.prog c.K)) rfl rfl rfl
def Jh{c}{n}(l:c.F n)(k:n+20<=890000)(h:c.mc):(ef c).mc:=by
 have e:=Ql l k;have f:(s0 c).mc:=es h rfl rfl rfl;have g:(s1 c).mc:=(m_ f e.k0.ok.a).mc;have i:(ar c).mc:=by
  show(kK _).mc;unfold kK
  repeat' split
  all_goals exact es g rfl rfl rfl
 have a:(s3 c).mc:=o7 _ _ e.k2.ok.Z8 i;have b:(dj c).mc:=by
  show(gY _).mc;unfold gY;split
  ·exact a
  exact qs _ _ a
 have d:(ea c).mc:=by
  show(lP _).mc;unfold lP;split
  ·exact b
  exact re _ _ b
 have j:(ct c).mc:=by
  show(eN _).mc;unfold eN;split
  ·exact d
  exact rl _ _ d
 exact(wx j).1
def IS(a)(prog)(m)(e:(fX a prog m).F 0):(fX a prog m).mc:=by
 have b:∀w, ¬cm (fX a prog m).data w:=λw c=>by
  let⟨s,f,d⟩:=List.mem_flatten.1 c;rw[(List.mem_replicate.1 f).2]at d;exact absurd d List.not_mem_nil
 refine⟨e.gd,?_,λw c=>absurd c (b w)⟩;show(jB m).size%16=0;let⟨n,b⟩:∃n,(jB m).size=hL n:=⟨_,wE m⟩;rw[b];unfold hL
 (repeat' split)<;>rfl
theorem q8{X:Co}(a:∀k,k<=3000->jq X k)(h:X.mc):∀k,k<=3000->(uN X k).mc
 |0,_=>h
 |k+1,b=>by
  have g:=a k ad;show(uG (uN X k)).mc;rw[show uG (uN X k)=ef (uN X k)from aa g.rt];exact Jh (EL g.ok ad g.rt) ad (q8 a h k ad)
structure Sb(c:Co):Prop where
 st:c.halt≠0->c.Z=[]∧c.O=[]
structure i9(c d:Co):Prop where
 ret:d.N=c.N
 r:d.r=c.r
 halt:d.halt=c.halt
 Z:c.Z=[]->d.Z=[]
 Z6:d.O=c.O
 K:d.K=c.K
theorem i9.trans{a b c}(h:i9 a b)(k:i9 b c):i9 a c:=⟨k.ret.trans h.ret,k.r.trans h.r,k.halt.trans h.halt,λz=>k.Z (h.Z z),k.Z6.trans h.Z6,k.K.trans h.K⟩
def No(c:Co)(agY:Nat):i9 c (oK c agY):=by
 rw[<-uY];exact⟨rfl,rfl,rfl,λh=>h,rfl,rfl⟩
def w8(c:Co):i9 c (lM c):=by
 have a:i9 c (jJ c):=⟨rfl,rfl,rfl,λh=>h,rfl,rfl⟩;rw[kC];split
 ·unfold ID
  repeat' split
  ·exact⟨rfl,rfl,rfl,λh=>by show List.map _ c.Z=[];rw[h];rfl,rfl,rfl⟩
  ·exact⟨rfl,rfl,rfl,λh=>h,rfl,rfl⟩
  ·exact a.trans (No _ _)
  ·exact⟨rfl,rfl,rfl,λh=>h,rfl,rfl⟩
  exact a
 exact a
def L5(c:Co):i9 c (tY c):=by
 have a:i9 c (aW c):=⟨rfl,rfl,rfl,λh=>h,rfl,rfl⟩;have e:∀d:Co,i9 d (tW d):=λd=>by
  unfold tW
  repeat' split
  all_goals exact⟨rfl,rfl,rfl,λh=>h,rfl,rfl⟩
 have b:∀d:Co,i9 d (nP d):=λd=>by
  unfold nP pE
  repeat' split
  all_goals exact⟨rfl,rfl,rfl,λh=>h,rfl,rfl⟩
 rw[mO];split
 ·exact(a.trans (e _)).trans (b _)
 exact a.trans (b _)
def N4{c:Co}(h:c.halt≠0):ef c=tY (lM (s0 c)):=by
 have a:(lM (s0 c)).halt≠0:=by rw[(w8 (s0 c)).halt];exact h
 have b:kK (lM (s0 c))=lM (s0 c):=aa a;have d:ej (lM (s0 c))=lM (s0 c):=mG (.inl a);have e:gY (lM (s0 c))=lM (s0 c):=aa a;have f:lP (lM (s0 c))=lM (s0 c):=aa a;have g:eN (lM (s0 c))=lM (s0 c):=aa a;show tY (eN (lP (gY (ej (kK (lM (s0 c)))))))=_;rw[b,d,e,f,g]
def N5{c:Co}(h:c.halt≠0):i9 c (ef c):=by
 rw[N4 h];have a:i9 c (s0 c):=⟨rfl,rfl,rfl,λh=>h,rfl,rfl⟩;exact(a.trans (w8 _)).trans (L5 _)
end Go.Proofs.YtdhclfgoomldfaaGreatDoor
