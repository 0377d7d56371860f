/- Lemmas. -/
import Derived.Test.YtdhclfgoomldfaaGreatDoorS1
import Derived.Test.YtdhclfgoomldfaaGreatDoorS30
import Derived.Test.YtdhclfgoomldfaaGreatDoorS36
import Derived.Test.YtdhclfgoomldfaaGreatDoorS37
import Derived.Test.YtdhclfgoomldfaaGreatDoorS39
set_option linter.all false
namespace Go.Proofs.YtdhclfgoomldfaaGreatDoor
set_option maxRecDepth 100000
set_option maxHeartbeats 1000000
open Go Go.RowKit
def dN(s:List Wy):Nat:=(s.filter (·.Z')).length
def O7(c:Ca):Nat:=dN c.L.flatten
def hA(L:Nat)(c:Co):Nat:=wD L c.Y+cj c_ c.Y+(L+1)*O7 c.data
structure Q0(c:Co):Prop where
 st:c.W=[]
 Y:c.Y=[]
 di:∀w,ck c.data w->w.Z'=false
theorem pf{prog:List Nat}:∀{s t:St} {l:List Sp},iz prog s l t->t=js prog s l.length
 |s,t,[],h=>h
 |s,t,x::l,⟨_,_,h⟩=>by rw[pf h,oo];rfl
theorem r8{prog:List Nat}:∀{n:Nat} {s:St} {k:Nat},k<i7 prog n s->(js prog s k).halt=0
 |0,s,k,h=>absurd h (dG k)
 | n+1,s,k,h=>by
  unfold i7 at h;split at h
  ·rename_i a
   cases k with
   |zero=>exact a
   |succ k=>rw[<-oo];exact r8 (n:=n) ad
  ·omega
def NT{prog:List Nat}{s t:St}{l:List Sp}(h:iz prog s l t){N:Nat}(e:i7 prog N s=N)(c:(js prog s N).halt≠0):l.length<=N∧(t.halt≠0->l.length=N)∧(l.length=N->t.halt≠0):=by
 have b:=pf h;have d:=(v2 h).2;have a:l.length<=N:=by
  rcases fk N l.length with q|q
  ·exact absurd (r8 (by rw[d];exact q)) c
  exact q
 refine⟨a,λz=>?_,λz=>by rw[b,z];exact c⟩;rcases fk l.length N with q|q
 ·rw[b]at z;exact absurd (r8 (by rw[e];exact q)) z
 omega
structure Cl(m:ByteArray)(c:Co):Prop where
 st:c.W=[]
 di:∀w,ck c.data w->w.Z'=false
 bu:∀x∈c.Y,x.kind=1∨x.kind=2
 me:c.mem=m
theorem Cl.same{m:ByteArray}{c d:Co}(h:Cl m c)(a:d.W=c.W)(b:d.data=c.data)(e:d.Y=c.Y)(f:d.mem=c.mem):Cl m d:=
 ⟨a.trans h.st,by rw[b];exact h.di,by rw[e];exact h.bu,f.trans h.me⟩
theorem Cl.YJ{m:ByteArray}{c d:Co}{L:Nat}(h:Cl m c)(k:MR L c d):Cl m d:=by
 obtain⟨p,b,_,e⟩:=k.Y;exact⟨k.W.trans h.st,by rw[k.data];exact h.di,λx a=>by rw[b]at a;exact(cx.1 a).elim (h.bu x) (e x),k.mem.trans h.me⟩
theorem Cl.ZL{m:ByteArray}{c:Co}(h:Cl m c):Cl m (lM c):=by
 have b:(∀x∈(eH c.Y).1,x.kind=1∨x.kind=2)∧((eH c.Y).2.2=true->(eH c.Y).2.1.kind=1∨(eH c.Y).2.1.kind=2):=by
  unfold eH
  cases e:c.Y with
  |nil=>exact⟨(λx a=>by cases a),(λz=>by cases z)⟩
  |cons x r=>
   have a:=h.bu x (by rw[e];exact b9);have f:∀y∈r,y.kind=1∨y.kind=2:=λy d=>h.bu y (by rw[e];exact bY _ d);simp only;split
   ·exact⟨λy d=>(dk.1 d).elim (λz=>by rw[z];exact a) (f y),(λz=>by cases z)⟩
   ·exact⟨f,λ_=>a⟩
 unfold lM;generalize eH c.Y=t at b;obtain⟨q,x,ok⟩:=t;have h':Cl m {c with Y:=q}:=⟨h.st,h.di,b.1,h.me⟩;simp only;split
 ·rename_i z;have g:x.kind=1∨x.kind=2:=b.2 z;unfold ID;split
  ·exact⟨h'.st,h'.di,h'.bu,h'.me⟩
  split
  ·exact⟨h'.st,h'.di,h'.bu,h'.me⟩
  ·omega
 ·exact h'
theorem Cl.ZN{m:ByteArray}{c:Co}(h:Cl m c):Cl m (kK c):=by
 obtain⟨a,_,b,d,_,_,_,e,_⟩:=nd c;exact h.same e b a d
theorem Cl.J{m:ByteArray}{c:Co}(h:Cl m c)(d:∀e l,c.halt=0->c.Z=e::l->e.is=3->(cA e).halt≠0):∀n,Cl m (eC n c)
 |0=>h
 | n +1=>by
  unfold eC;split
  ·exact h
  ·rename_i b;split
   ·exact h
   ·rename_i e l f;split
    ·exact h
    ·rename_i a;have:=d e l (b'.1 b) f (b'.1 a);rw[aa this];exact⟨h.st,h.di,h.bu,h.me⟩
theorem Cl.ZA{m:ByteArray}{c:Co}(h:Cl m c)(d:gG c.data=true):Cl m (tY c):=by
 have b:aW c=c:=by
  unfold aW;rw[h.st];show({c with W:=[],data:=c.data}:Co)=c;rw[<-h.st]
 unfold tY;rw[h.st];show Cl m (nP (aW c));rw[b];unfold nP;split
 ·exact h
 unfold pE;split
 ·rename_i w a;exfalso;unfold cR at a;rw[aa d]at a;have:=h.di w (List.mem_of_find?_eq_some a);rw[List.find?_some a]at this;cases this
 exact h
theorem wy{L:Nat}{X:Co}{m:ByteArray}(p:∀k,k<=2900->MR L (s3 (uN X k)) (cq (uN X k)))(f:∀k,k<=3000->jb X k)(b:X.mc)(hI:Iv X.prog X (PL m))(n:X.O=[])(d:(gE X.prog (PL m)).1.halt≠0)(o:Cl X.mem X):∀k,k<=2900->Cl X.mem (uN X k)
 |0,_=>o
 | k +1,V=>by
  have ih:=wy p f b hI n d o k ad;have g:=f k ad;have I:=EL g.ok ad g.rt;have e:uN X (k+1)=ed (uN X k):=(show uG (uN X k)=_ from aa g.rt);obtain⟨t,h,i,_⟩:=mv f b hI n k ad;rw[e];generalize q:uN X k=c at *;have v:=p k ad;rw[q]at v;have j:=ov f b k ad;rw[q]at j;have a:=Ql I ad;have M:Iv X.prog (s0 c) t:=i.same rfl rfl rfl rfl rfl rfl rfl rfl i.ri;have u:(s0 c).mc:=ef j rfl rfl rfl;have N:=M.ZL u a.k0.ok.a;have P:=(lW u a.k0.ok.a).mc;obtain⟨O,R⟩:Iv X.prog (aq c) t∧NW (aq c).Z:=N.ZN;obtain⟨B,_,C,D,_,_,_,_,_⟩:=nd (s1 c);have Q:(aq c).mc:=ef P C B D;have c2:Cl X.mem (aq c):=(Cl.ZL (c:=s0 c) (ih.same rfl rfl rfl rfl)).ZN;have E:Cl X.mem (s3 c):=c2.J (λx l H s G=>by
   obtain⟨A,T,_,_⟩:=O.Zp R Q s (a.k2.ok.Z8 x (by rw[s];exact b9)) G H;have K:t=PL m:=by
    cases r:c.O with
    |nil=>rw[r]at h;exact h
    |cons y S=>
     rw[r]at h;obtain⟨_,_,w⟩:=h;have:=pf w
     cases S with
     |nil=>rw[this]at A;exact absurd A d
     |cons W U=>exact absurd w.1 d
   rw[T,K];intro z;have J:=lz (prog:=X.prog) (s:=PL m) rfl;exact d (J.run z).1) _
  have F:Cl X.mem (cq c):=E.YJ v;exact F.ZA a.k6.data
def N_(b:Cf)(prog:List Nat)(m:ByteArray)(D:b.ok)(hp:∀x∈Bj prog,x<=4294967295){X:Co}(a:X=fX b (Bj prog) m)(k:Nat)(W:300<=k)(F:k<=2900):
  (uN X k).ok (10*k)∧1<=(uN X k).O.length∧((gE (Bj prog) (PL m)).1.halt≠0->(uN X k).halt=(gE (Bj prog) (PL m)).1.halt∧(uN X k).O.length=1∧(uN X k).r=(λ_=>0)∧(uN X k).mem=jB m):=by
 have o:X.ok 0:=a ▸ Id b _ _ D hp;have f:0<=X.U.Z∧0<=X.U.queue:=by rw[a];exact G3 b
 have q:jF X=true:=a ▸ F8 _ _ _ (a ▸ o);have e:=v6 (HU b (Bj prog) m D hp X a q) f;have c:X.mc:=by subst a;exact HT _ _ _ (EL o ad q)
 have C:X.prog=Bj prog:=by rw[a];exact ED prog
 have hI:Iv X.prog X (PL m):=by subst a;exact Iv.new _ _ _
 have i:X.O=[]:=by rw[a];rfl
 have g:=e k ad;obtain⟨J,K⟩:=O8 a f e c hI k ad;have v:1<=(uN X k).O.length:=by
  by_cases E:(uN X k).halt=0
  ·exact(K E).2 ad
  have:=J E 1;unfold i7 at this;rw[aa (show(PL m).halt=0 from rfl)]at this;omega
 refine⟨g.ok,v,λd=>?_⟩;rw[<-C]at d⊢;obtain⟨t,H,I,_⟩:=mv e c hI i k ad;have B:i7 X.prog 1 (PL m)=1:=by unfold i7;rw[aa (show(PL m).halt=0 from rfl)];rfl
 obtain⟨O,P,Q⟩:=NT H B d;have G:(uN X k).O.length=1:=oT;have l:=pf H;rw[G]at l;have l:t=(gE X.prog (PL m)).1:=l;have u:=lz X.prog (s:=PL m) rfl;have y:(gE X.prog (PL m)).2.halt≠0:=λz=>d (u.run z).1;refine⟨by rw[I.halt,l],G,?_,?_⟩
 ·rw[I.r,l,(u.halt y).1];rfl
 have T:=NS b.o 2 6 dT;have U:=NS b.W 1 4 dT;have Y:=o8 b;obtain⟨s,r⟩:∃s:Nat,(bZ b).o=s:=⟨(bV b.o 2 6).toNat,by show bV b.o 2 6=_;omega⟩;obtain⟨S,n⟩:∃S:Nat,(bZ b).W=S:=⟨(bV b.W 1 4).toNat,by show bV b.W 1 4=_;omega⟩;obtain⟨L,c2,R⟩:=wx b r n rfl;have p:X.U=bZ b:=by rw[a];rfl
 have A:=r3 ad ad (p ▸ r) (p ▸ n) f L e c hI i (a ▸ LI.new b (Bj prog) m);have M:Cl X.mem X:=by
  subst a;refine⟨rfl,λw N=>?_,(λx y=>by cases y),rfl⟩;obtain⟨s,d,h⟩:=List.mem_flatten.1 N;have:s=[]:=(List.mem_replicate.1 (show s∈List.replicate _ []from d)).2;subst this;cases h
 have:=(wy (λj V=>(A (j+1) ad).mr.resolve_left ad) e c hI i d M k F).me;rw[this,a];rfl
open Go.Proofs.Tryz
set_option maxHeartbeats 4000000
open Go.RowKit
def L2(a:Cf)(w:Nat)(m:ByteArray)(e:a.ok)(j:w<=4294967295)(v:m.size<=9223372036854775807):bI C0 4 [.agg (ie a false false),vU w,.v (.string m)] (vB true):=by
 refine e_ func4 rfl ?_;have c:∀x∈[w],x<=4294967295:=λx k=>by rw[uJ.1 k];exact j
 obtain⟨X,d⟩:∃X,X=fX a [w] (Bk m):=⟨_,rfl⟩;have t:X.ok 0:=d ▸ Id a _ _ e c;have s:(gE [w] (PL (Bk m))).1.ok:=Si (Jk _) 1;obtain⟨hZ,q,i⟩:=N_ a [w] (Bk m) e c d 300 dT dT;have r:10*300<=890000:=dT;have hA:decide (((uN X 300).O.length:Int)>=1)=true:=jP ad;refine rV (vN m.size) rfl<|rW _ rfl (Bo m.size 300) ?_;refine zM (.v (.string (m.extract 0 (min m.size 300)))) rfl (by refine⟨?_,?_,?_⟩<;>(first|exact aG _|decide|(apply FG.2;exact ad))) ?_;refine zV (.X 1 ([[vU w]]) true)<|a1 rfl (tm (Bk m))<|rV (.agg (ix 0 (λ_=>0) (jB (Bk m)) 0)) rfl<|zC (x:=.E [.agg (ix ((gE [w] (PL (Bk m))).1).K ((gE [w] (PL (Bk m))).1).r ((gE [w] (PL (Bk m))).1).mem ((gE [w] (PL (Bk m))).1).halt),.agg (bg ((gE [w] (PL (Bk m))).2))]) ((show bI C0 10 [.X 1 [[vU w]] true,pu (PL (Bk m))] (ja (gE [w] (PL (Bk m))))from(zj [w] (PL (Bk m)) false c (Nat.le_of_ble_eq_true rfl) (Jk _)).Zj ⟨Sub.clip _ _ _,Sub.refl _,trivial⟩)) ?_;refine zV (.X 1 ([[vU w]]) true)<|kS (x:=.agg (gr (uN X 300))) rfl (.inl rfl) ((show bI C0 6 [.agg (ie a false false),.X 1 [[vU w]] true,.v (.string (Bk m)),vI 300] (.agg (gr (uN X 300)))from(IS a [w] (Bk m) 300 e c (Nat.le_of_ble_eq_true rfl) dT X d).Zj ⟨Sub.refl _,Sub.clip _ _ _,Sub.refl _,Sub.refl _,trivial⟩))<|dx 0 rfl<|dq 26 (gr (uN X 300)) rfl rfl rfl<|qR 0 rfl<|cN ((((gE [w] (PL (Bk m))).1).halt)==0) (λb=>?_) (λb=>?_)
 ·have f:=mT b;refine zC (wg)<|gS rfl id<|ay (x:=vN (((uN X 300).O).length)) rfl id (cD bg ((uN X 300).O))<|ay (x:=vB true) rfl id (am hA)<|zN rfl (λh=>h) ?_;exact fT rfl rfl
 have f:=nA b;obtain⟨g1,g2,g3,g4⟩:=i f;refine zR<|zC (wg)<|zG rfl id<|zG rfl id<|e8 (x:=vB true) rfl cn (am (beq_iff_eq.2 g1))<|zN rfl (λh=>h)<|zG rfl id<|e8 (x:=vN (((uN X 300).O).length)) rfl id (cD bg ((uN X 300).O))<|e8 (x:=vB true) rfl id (am (by rw[g2];rfl)) ?_;refine zN rfl (λh=>h)<|zG rfl id<|zA (x:=.agg [zU,zU,zU,zU,zU,zU,zU,zU,zU,zU,zU,zU,zU,zU,zU,zU,zU,zU,zU,zU,zU,zU,zU,zU,zU,zU,zU,zU,zU,zU,zU,zU]) rfl rfl<|e8 (x:=vB true) rfl cn (am (by rw[g3];rfl))<|zN rfl (λh=>h)<|zG rfl id<|zQ (args:=[.v (.string (m.extract 0 (min m.size 300)))]) (x:=.v (.string (jB (Bk m)))) (g:=cE (cE (cE true true false) true false) true false) rfl (λh=>h) rfl (.inl rfl) (λu=>tm (Bk m))<|e8 (x:=vB true) rfl cn (am (by rw[g4];simp))<|zN rfl (λh=>h) ?_;exact fT rfl rfl
end Go.Proofs.YtdhclfgoomldfaaGreatDoor
