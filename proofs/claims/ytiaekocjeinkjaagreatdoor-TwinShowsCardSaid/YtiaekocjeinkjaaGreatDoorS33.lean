import Derived.RangeFuncNested
import Derived.RangeFuncLeaves
import Derived.TacticsIn
import Derived.OrdersIn
import Derived.Scope
import Derived.Test.YtiaekocjeinkjaaGreatDoorS32
set_option linter.all false
namespace Go.Proofs.YtiaekocjeinkjaaGreatDoor
open Go.Proofs.Tryz
set_option maxRecDepth 100000
set_option maxHeartbeats 4000000
open Go.RowKit
def MZ(i:SI):Xq i=true↔md ⟨i.op,i.rd,i.y,i.A,i.C⟩:=by
 unfold Xq md;simp only[aP,aY];obtain⟨z,A,u,v,x⟩:=i;constructor
 .rintro⟨⟨⟨⟨⟨⟨g,j⟩,f⟩,k⟩,o⟩,p⟩,q⟩;refine⟨g,j,?_⟩;generalize xW z (Jw ⟨z,A,u,v,x⟩)=r at f k o p q⊢;obtain⟨a,b,c,d,e⟩:=r;simp only at f k o p q;subst f k o p q;rfl
 rintro⟨g,j,f⟩;simp only at f;refine⟨⟨⟨⟨⟨⟨g,j⟩,?_⟩,?_⟩,?_⟩,?_⟩,?_⟩<;>rw[f]
def Xg(i:SI)(b:i.C<4294967296):bI C0 197 [g9 i] (.F [.v (.int .u32 ((if Xq i=true then Jw ⟨i.op,i.rd,i.y,i.A,i.C⟩else 0:Nat):Int)),.v (.int .i64 (if Xq i=true then 0 else 1))]):=by
 by_cases h:Xq i=true
 .rw[aa h,aa h];exact .Zy func197 R R R R λS w a=>RD Df i.op i.rd i.y i.A i.C w (Db a) b ((MZ i).1 h)
 rw[dZ h,dZ h];exact .Zy func197 R R R R λS w a=>RE Df i.op i.rd i.y i.A i.C w (Db a) b (λq=>h ((MZ i).2 q))
def Xh(e:ai)(k:e.ok):bI C0 163 [.agg (ab e)] (vB (xJ e)):=by
 refine bc func163 R<|zV (vB (decide (e.is<0)))<|gS R id<|aw R id R<|zN R (by simp)<|zB R (λa=>?_) (λa=>?_)
 .replace a:=sP a;exact fT R (dR (by unfold xJ;grind [qA,ae]))
 refine zV (vB (e.is==1))<|gS R id<|aw R id R<|zN R (λh=>h)<|gS R id<|zG R id<|gS R id<|aw R id R<|pB (x:=vB (cE (!(e.is==1)) (e.left != 0) false)) (g:= !(cE (e.is==1) (decide (e.left<=0)) false)) R R R R (λh=>h) R R (λg f=>by first|(rw[g,f];rfl)|simp_all)<|zN rfl (by simp)<|zB rfl (λb=>?_) (λb=>?_)
 .replace a:=sP a;replace b:=sP b;exact fT R (dR (by unfold xJ;grind [qA,ae]))
 refine zC (pS e.i)<|zV (vB (e.is==2))<|aw R id (ak (db _ _))<|zG R id<|gS R id<|gS R id<|pB (x:=vB (cE ((aj e.i.op) != 3) true (!e.known))) (g:=e.is==2) R R R R (λh=>h) R R (λg f=>by first|(rw[g,f];rfl)|simp_all)<|zN rfl (λh=>h)<|zB R (λc=>?_) (λc=>?_)
 .replace a:=sP a;replace b:=sP b;replace c:=sP c;exact fT R (dR (by unfold xJ;grind [qA,ae]))
 refine zV (vB (e.halt != 0))<|gS R id<|aw R id R<|zN R (λh=>h)<|zG R id<|aw R id (ak (ba _ _))<|pB (x:=vB (cE (e.is==1) ((aj e.i.op)==5) false)) (g:=cE (e.halt != 0) (e.is != 3) false) R R R R (λh=>h) R R (λg f=>by first|(rw[g,f];rfl)|simp_all)<|zG rfl id<|gS rfl id<|aw rfl id rfl<|pB (x:=vB (cE (cE (e.is==1) ((aj e.i.op)==5) false) (e.halt==3) false)) (g:=cE (e.halt != 0) (e.is != 3) false) R R R R (λh=>h) R R (λg f=>by first|(rw[g,f];rfl)|simp_all)<|gS rfl id<|zN rfl (λh=>h)<|zB R (λi=>?_) (λi=>?_)
 .replace a:=sP a;replace b:=sP b;replace c:=sP c;replace i:=sP i;exact fT R (dR (by unfold xJ;grind [qA,ae]))
 refine zC (Xg e.i (CI k.C))<|zW (vB ((if Xq e.i=true then 0 else 1) != 0)) R<|zB R (λj=>?_) (λj=>?_)
 all_goals
  first|(refine zV (vB (e.halt==1)) ?_;refine gS rfl id ?_;refine aw rfl id rfl ?_;refine zN rfl (by simp) ?_)|skip
  replace a:=sP a;replace b:=sP b;replace c:=sP c;replace i:=sP i;replace j:=sP j;exact fT R (dR (by unfold xJ;grind [qA,ae]))
def QO{α:Type}{p:α->Bool}{l:List α}{k:Nat}{x:α}(b:l[k]?=some x)(a:p x=false)(h:∀y∈l.take k,p y=false):∀y∈l.take (k+1),p y=false:=by
 intro y hy;rw[bW,b]at hy;rcases dz.1 hy with hy|hy
 .exact h y hy
 simp at hy;subst hy;exact a
def QP{α:Type}{p:α->Bool}{l:List α}{k:Nat}{x:α}(c:l[k]?=some x)(hp:p x=true)(h:∀y∈l.take k,p y=false):l.findIdx? p=some k:=by
 rw[List.findIdx?_eq_some_iff_getElem];obtain⟨b,rfl⟩:=Em.1 c;refine⟨b,hp,λj a=>?_⟩;have:=h (l[j]'ad) (aB (i:=j) (by rw[cU,aa a,aA ad]));simp[this]
def Xi{α:Type}{p:α->Bool}{l:List α}{k:Nat}(a:l.length<=k)(h:∀y∈l.take k,p y=false):l.findIdx? p=none:=by
 rw[aN a]at h;rw[List.findIdx?_eq_none_iff];exact h
def QQ{α:Type}{p:α->Bool}{l:List α}:∀y∈l.take 0,p y=false:=λy a=>by simp at a
def QR(a:List ai)(g:Bool)(v:a.length<=1000000)(p:∀x∈a,x.ok):bI C0 132 [.Y 17 (a.map ab) g] (vI (DM (yD a))):=by
 refine eb func132 R<|zW _ (cD ab a)<|dk (κ:=Nat) (λk=>⟨a6 [(5,.Y 17 (a.map ab) g),(6,vN a.length),(7,vN k)],aq [],4⟩) (λk=>k<=a.length/\∀y∈a.take k,Nj y=false) (λk=>a.length-k) 0 (λs=>s) (au (λs=>s) wT tr R) (⟨aE _,QQ⟩) ?_;intro k b;have r:k<=a.length:=b.1;have j:k<=1000000:=oT;refine b0 (ak (bl _ _)) (λe=>?_) (λe=>?_)
 .have i:=ax e;obtain⟨x,c⟩:∃q,a[k]?=some q:=⟨_,aA ad⟩;have u:=p x (aB c);refine zX (ab x) (.k 17 0 (ab x)) R (iH c)<|aW R (pS x.i)<|zW _ (ak (ba _ _))<|gS R id<|zN R (λh=>h)<|zG R id<|gS R id<|aw R b9 (ak (db _ _))<|zN R (λh=>h)<|zB R (λf=>?_) (λf=>?_)
  .exact fT R (Ni (by unfold yD;rw[QP c (by simpa [Nj,qA,uK]using f) b.2];rfl))
  skip
  have o:k+1<=1000001:=aD j (aC 1);refine zW _ (ap (bH o R)) ?_;refine⟨k+1,λs=>s,au _ wT tr R,⟨oT,QO c (by have z:=f;unfold Nj;simp only[qA]at z;grind) b.2⟩,by show a.length-(k+1)<a.length-k;omega⟩
 have i:=aF e;exact fT R (Ni (by unfold yD;rw[Xi ad b.2];rfl))
def Xj{f:Nat->Bool}{k:Nat}(hp:f k=true)(h:(List.range k).all f=true):(List.range (k+1)).all f=true:=by
 rw[gZ,List.all_append,h];simpa using hp
def x9{f:Nat->Bool}{k n:Nat}(a:k<n)(hp:f k=false):(List.range n).all f=false:=by
 rw[List.all_eq_false];exact⟨k,lI.2 a,by simp[hp]⟩
def Uf{a:List ai}{k:Nat}(b:decide (k>0)=true)(e:k<a.length)(f:a.length<=1000):0<=IntKind.wrap .i64 ((k:Int)-1)/\(a.map ab)[(IntKind.wrap .i64 ((k:Int)-1)).toNat]?=some (ab ((a[k-1]?).getD Cs)):=by
 have c:=ax b;rw[show IntKind.wrap .i64 ((k:Int)-1)=((k-1:Nat):Int)from by rw[dd ad ad];omega];refine⟨aG _,?_⟩;show(a.map ab)[k-1]?=_;rw[aX,aA (oT:k-1<a.length)];rfl
def Na{a:List ai}{k:Nat}{x:ai}(b:a[k]?=some x):IB a k=((k==0||decide (((a[k-1]?).getD Cs).no<x.no))&&xJ x):=by
 unfold IB pn;rw[b];have c:=(Em.1 b).1;rw[aA (oT:k-1<a.length)];rfl
def Xk(a:List ai)(e:Bool)(H:a.length<=9223372036854775807)(v:∀x∈a,x.ok):bI C0 111 [.Y 17 (a.map ab) e] (vB (Ff a)):=by
 refine eb func111 R<|rW (vN a.length) R (cD ab a)<|zW (vB (decide (a.length>8))) (ak (fq _ _))<|zB R (λf=>?_) (λf=>?_)
 .have o:=ax f;exact fT R (dR (by unfold Ff;rw[sW ad];rfl))
 have o:=aF f;refine zW (vN a.length) (cD ab a)<|dk (κ:=Nat) (λk=>⟨a6 [(0,.Y 17 (a.map ab) e),(7,vB (decide (a.length>8))),(8,.Y 17 (a.map ab) e),(9,vN a.length),(10,vN k)],aq [],7⟩) (λk=>k<=a.length/\(List.range k).all (IB a)=true) (λk=>a.length-k) 0 (λs=>s) (au (λs=>s) wT tr R) (⟨aE _,R⟩) ?_;intro k j;have E:k<=a.length:=j.1;have D:k<=1000000:=oT;refine zW (vB (decide (k<a.length))) (ak (bl _ _))<|zB R (λg=>?_) (λg=>?_)
 .have p:=ax g;obtain⟨x,c⟩:∃A,a[k]?=some A:=⟨_,aA ad⟩;have u:=v x (aB c);refine zX (ab x) (.k 17 0 (ab x)) R (iH c)<|a7<|oR 1 R<|rW (vB (decide (k>0))) R (ak (fq _ _))<|oR 1 R<|gN R<|gN R<|aw R id R<|DK (ab ((a[k-1]?).getD Cs)) (x:=.k 17 0 (ab ((a[k-1]?).getD Cs))) (g:=decide (k>0)) R R R R b9 R R (λq=>Uf q ad ad) R<|gS R id<|gS R id<|gN R<|gS R id<|aw R b9 R<|bO R R R (λh=>h)<|oR 1 R<|gN R<|jQ (x:=vB (xJ x)) (g:= !(cE (decide (k>0)) (decide ((((a[k-1]?).getD Cs).no)>=x.no)) false)) R R R R (λh=>h) R R R (.inl R) R (λq=>Xh x u)<|gS R id<|bO R R R (by simp)<|rE 32<|jk 0 R<|zB R (λi=>?_) (λi=>?_)
  .exact fT R (dR (by unfold Ff;rw[x9 (k:=k) ad (by rw[Na c];have z:=i;simp only[qA,ae]at z;grind)];simp))
  skip
  have G:k+1<=9223372036854775807:=oT;refine zW (vN (k+1)) (ap (bH (oT:k+1<=9223372036854775807) R)) ?_;refine⟨k+1,λs=>s,au _ wT tr R,⟨oT,Xj (by rw[Na c];have z:=i;simp only[qA,ae]at z;grind) j.2⟩,by show a.length-(k+1)<a.length-k;omega⟩
 have p:=aF g;have r:k=a.length:=oT;have b:=j.2;rw[r]at b;exact fT R (dR (by unfold Ff;rw[b,jP ad];rfl))
def C8(R:List ai)(lo n i:Nat)(b:Bool)(k:lo+n<=R.length)(j:R.length<=900000)(f:i<n)(o:∀x∈R,x.ok):pM C0.P C0.G 133 [.X 0 lo n b,vN i] (aq [(0,.arr (R.map ab) 17)]) 1 (λx h'=>x=.X 1 0 (i+1) false∧h'=aq [(0,.arr (R.map ab) 17),(1,.arr ((DY ((R.drop lo).take n) i).map ab) 17)]):=by
 refine hZ 1 func133 rfl<|zW _ (ak (bl _ _))<|aw rfl id rfl<|aw rfl b9 rfl<|zN rfl (by simp)<|zB rfl (λc=>by simp[ae]at c;omega) (λ_=>?_);refine nW (.x 0 (lo+i) 0) rfl rfl fd ?_;obtain⟨x,a⟩:∃g,R[lo+i]?=some g:=⟨_,aA ad⟩;refine zX (ab x) (.agg (ab x)) rfl (iH a)<|zR<|zM _ (LR (by first|rfl|omega) (by simp only[Option.getD];omega)) (by refine⟨?_,?_,?_,?_⟩;all_goals (first|exact aG _|decide|(apply FG.2;exact ad)|rfl))<|zV (.Y 17 ([[vI x.no,vU x.M,vI x.i.op,vI x.i.rd,vI x.i.y,vI x.i.A,vU x.i.C,vU x.next,vI x.is,vI x.left,vU x.value,vU x.next,vU x.W,vI x.halt,vI x.d,vB x.known,vB x.Z8]]) true)<|zF (x:=.X 26 0 (i+1) false) (h':=an _ 26 (some (.arr ((((R.drop lo).take i)++([(⟨x.no,x.M,⟨x.i.op,x.i.rd,x.i.y,x.i.A,x.i.C⟩,x.next,x.is,x.left,x.value,x.next,x.W,x.halt,x.d,x.known,x.Z8⟩:ai)])).map ab) 17))) (Uo ab R ([(⟨x.no,x.M,⟨x.i.op,x.i.rd,x.i.y,x.i.A,x.i.C⟩,x.next,x.is,x.left,x.value,x.next,x.W,x.halt,x.d,x.known,x.Z8⟩:ai)]) (by simp only[aM,bD,bN,cX];omega)) (⟨by simp only[aM,bD,aH,bN,cX,jH];omega,by exact ad,(by show lo+i<=(R.map ab).length;exact ad),trivial⟩) ?_;have e:((R.drop lo).take i)++([(⟨x.no,x.M,⟨x.i.op,x.i.rd,x.i.y,x.i.A,x.i.C⟩,x.next,x.is,x.left,x.value,x.next,x.W,x.halt,x.d,x.known,x.Z8⟩:ai)])=DY ((R.drop lo).take n) i:=by unfold DY;rw[show((R.drop lo).take n)[i]?=some x from by rw[cU,aa f,cL];exact a];simp only[List.take_take];rw[kD ad]
 refine BH (rs:=[.X 26 0 (i+1) false]) rfl (r:=.X 1 0 (i+1) false) (σ:=λz=>match z with|1=>26|z=>z) ⟨rfl,rfl⟩ rfl (ah (λz=>match z with|1=>26|z=>z) rfl rfl ⟨⟨rfl,rfl,rfl⟩,⟨rfl,?_,rfl⟩,trivial⟩ rfl);show some (a'.arr ((((R.drop lo).take i)++([(⟨x.no,x.M,⟨x.i.op,x.i.rd,x.i.y,x.i.A,x.i.C⟩,x.next,x.is,x.left,x.value,x.next,x.W,x.halt,x.d,x.known,x.Z8⟩:ai)])).map ab) 17)=some (a'.arr ((DY ((R.drop lo).take n) i).map ab) 17);rw[e]
def LN{prog:List Nat}(hp:∀x∈prog,x<=4294967295)(pc:Nat):a8 prog pc<=4294967295:=by
 unfold a8 es;split
 .cases h:prog[pc/4]? with
  |none=>exact aE _
  |some x=>exact hp x (aB h)
 .exact aE _
def FV{b:Bool}(h:(!b)=true):b=false:=sU h
def sI{b:Bool}(h:(!b)=false): ¬b=false:=by cases b<;>simp_all
def Cl(x:Nat):g7 x=0↔ ¬dq x=0:=by unfold g7;split<;>simp_all
abbrev az(c:Co)(R F S T:AV):List AV:=[vI c.Q.mode,vI c.Q.o,vI c.Q.Z,vI c.Q.queue,vI c.Q.V,vI c.Q.m,vI c.Q.O,vI c.Q.ways,.Y 1 (c.Q.q.map bm) false,vB c.Q.tables,.Y 1 (c.Q.tape.map dU) false,.Y 1 (c.prog.map dU) false,vI c.Z3,vU (c.r 0),vU (c.r 1),vU (c.r 2),vU (c.r 3),vU (c.r 4),vU (c.r 5),vU (c.r 6),vU (c.r 7),vU (c.r 8),vU (c.r 9),vU (c.r 10),vU (c.r 11),vU (c.r 12),vU (c.r 13),vU (c.r 14),vU (c.r 15),vU (c.r 16),vU (c.r 17),vU (c.r 18),vU (c.r 19),vU (c.r 20),vU (c.r 21),vU (c.r 22),vU (c.r 23),vU (c.r 24),vU (c.r 25),vU (c.r 26),vU (c.r 27),vU (c.r 28),vU (c.r 29),vU (c.r 30),vU (c.r 31),vU c.J,vB c.stop,F,R,vI c.next,S,vI c.data.ways,.Y 1 (c.data.O.map bX) false,vI c.u.ways,.Y 1 (c.u.O.map bX) false,.Y 4 (c.U.map bv) false,vI c.asked,vI c.Z1,.v (.string c.mem),.Y 2 (c.K.m.map dn) false,vU c.K.Z7,.Y 1 (c.K.I.map dU) false,vI c.halt,T]
structure Co.ok(c:Co)(n:Nat):Prop where
 Q:c.Q.okW
 prog:c.prog.length<=9223372036854775807
 Z4:∀x∈c.prog,x<=4294967295
 r:∀k,c.r k<=4294967295
 J:c.J<=4294967295
 Z5:c.L.length<=9223372036854775807
 ZV:∀x∈c.L,x.ok
 Z:c.Z.length<=9223372036854775807
 Z6:∀x∈c.Z,x.ok
 Z':c.V.length<=9223372036854775807
 Z0:∀x∈c.V,x.ok
 data:c.data.ok
 u:c.u.ok
 U:c.U.length<=n
 Z_:∀x∈c.U,x.ok
 asked:c.asked<=9223372036854775807
 Z1:c.Z1<=9223372036854775807
 mem:c.mem.size<=1000000
 K:c.K.ok
 ret:c.N.length<=n
 ZW:∀x∈c.N,x.ok
def Ip(c:Co)(n:Nat)(a:c.ok n)(aj:n<=890000):bI C0 73 [.agg (fm c)] (vB (jF c)):=by
 refine eb func73 R<|zR<|zC (Ug c.Q a.Q)<|zG R id<|gn (x:=vN c.prog.length) R id (cD dU c.prog)<|gn (x:=vB (decide (c.prog.length>64))) R id (ak (fq _ _))<|zN R (by simp)<|zG R id<|zG R id<|zQ (x:=.v (.string (jB c.mem))) (g:= !(cE (!(wA c.Q)) true (decide (c.prog.length>64)))) R (λh=>h) R (.inl R) (λT=>KF c.mem)<|gn (x:=vB (!(c.mem.toList==(jB c.mem).toList))) R b9 R<|zN R (by simp)<|zB R (λg=>?_) (λg=>?_)
 .exact fT R (dR (by unfold jF;have b:=g;simp only[qA,ae]at b;rw[bB];simp only[aP,aY,cS,pI];grind))
 refine zC (Xk c.Z false a.Z a.Z6)<|gS R id<|gn (x:=vN c.Z.length) R id (cD ab c.Z)<|gS R id<|gS R id<|aw R b9 R<|zN R (by simp)<|zB R (λo=>?_) (λo=>?_)
 .exact fT R (dR (by unfold jF;have b:=g;have f:=o;simp only[qA,ae]at b f;rw[bB];simp only[aP,aY,cS,pI];grind))
 refine zW _ (cD ab c.Z)<|dk (κ:=Nat) (λk=>⟨a6 [(1,.ptr 0 0),(24,vB (cE (cE (!(wA c.Q)) true (decide (c.prog.length>64))) true (!(c.mem.toList==(jB c.mem).toList)))),(37,vB (cE (!(Ff c.Z)) true (decide (((c.Z.length:Nat):Int)>c.Q.Z)))),(39,.Y 17 (c.Z.map ab) false),(40,vN c.Z.length),(41,vN k)],aq [(0,.box (fm c))],37⟩) (λk=>k<=c.Z.length/\(c.Z.take k).all (λe=>decide (e.no<c.next))=true) (λk=>c.Z.length-k) 0 (λs=>s) (au (λs=>s) wT wH R) (⟨aE _,R⟩) ?_;intro k I;have ag:k<=c.Z.length:=I.1;have aa:k<=9223372036854775807:=oH a.Z;have al:=a.Z;refine b0 (ak (bl _ _)) (λE=>?_) (λE=>?_)
 .have L:=ax E;obtain⟨x,D⟩:∃K,c.Z[k]?=some K:=⟨_,aA ad⟩;have an:=a.Z6 x (aB D);refine zX (ab x) (.k 17 0 (ab x)) R (iH D)<|de (decide (x.no>=c.next)) (λq=>?_) (λq=>?_)
  .have M:=ax q;exact fT R (dR (by unfold jF;have b:=g;have f:=o;have i:=q;simp only[qA,ae]at b f;have X:=Ir (p:=λe:ai=>decide (e.no<c.next)) D (by have z:=q;simpa using z);rw[bB];simp only[aP,aY,cS,pI];grind))
  have M:=aF q;have b1:k+1<=9223372036854775807:=oT;refine zW _ (ap (bH (oT:k+1<=9223372036854775807) R)) ?_;refine⟨k+1,λs=>s,au _ wT wH R,⟨oT,DV D (by have z:=q;simpa using z) I.2⟩,by show c.Z.length-(k+1)<c.Z.length-k;omega⟩
 have L:=aF E;refine zC (sb c.data c.Q a.data)<|zG R id<|gS R id<|jQ (x:=vB (Ax c.u c.Q)) (g:= !(!(Ax c.data c.Q))) R R R R b9 R R R (.inl R) R (λT=>sb c.u c.Q a.u)<|gS R id<|zN R (by simp)<|gS R id<|jQ (x:=vB (sM c.K)) (g:= !(cE (!(Ax c.data c.Q)) true (!(Ax c.u c.Q)))) R R R R (λh=>h) R R R (.inl R) R (λT=>IZ c.K a.K)<|gS R id<|zN R (by simp)<|zB R (λr=>?_) (λr=>?_)
 .exact fT R (dR (by unfold jF;have b:=g;have f:=o;have i:=r;simp only[qA,ae]at b f i;rw[bB];simp only[aP,aY,cS,pI];grind))
 refine zW _ (cD a_ c.L)<|zV (vB (decide (((c.L.length:Nat):Int)>c.Q.queue)))<|gS R id<|gn (x:=vN c.V.length) R id (cD ay c.V)<|gS R id<|gS R id<|aw R b9 R<|zN R (by simp)<|zB R (λv=>?_) (λv=>?_)
 .exact fT R (dR (by unfold jF;have b:=g;have f:=o;have i:=r;have u:=v;simp only[qA,ae]at b f i u;rw[bB];simp only[aP,aY,cS,pI];grind))
 refine zW _ (cD ay c.V)<|dk (κ:=Nat) (λj=>⟨a6 [(1,.ptr 0 0),(24,vB (cE (cE (!(wA c.Q)) true (decide (c.prog.length>64))) true (!(c.mem.toList==(jB c.mem).toList)))),(37,vB (cE (!(Ff c.Z)) true (decide (((c.Z.length:Nat):Int)>c.Q.Z)))),(42,vB (decide (k<c.Z.length))),(70,vB (cE (cE (!(Ax c.data c.Q)) true (!(Ax c.u c.Q))) true (!(sM c.K)))),(86,vB (cE (decide (((c.L.length:Nat):Int)>c.Q.queue)) true (decide (((c.V.length:Nat):Int)>c.Q.V)))),(88,.Y 2 (c.V.map ay) false),(89,vN c.V.length),(90,vN j)],aq [(0,.box (fm c))],78⟩) (λj=>j<=c.V.length/\(c.V.take j).all (λp=>kZ (c.mem.size:Int) p.W (p.data.size:Int))=true) (λj=>c.V.length-j) 0 (λs=>s) (au (λs=>s) wT wH R) (⟨aE _,R⟩) ?_;intro j H;have Z:j<=c.V.length:=H.1;have Y:j<=9223372036854775807:=oH a.Z';have am:=a.Z';refine b0 (ak (bl _ _)) (λG=>?_) (λG=>?_)
 .have O:=ax G;obtain⟨p,hp⟩:∃K,c.V[j]?=some K:=⟨_,aA ad⟩;have U:=a.Z0 p (aB hp);refine zX (ay p) (.k 2 0 (ay p)) R (iH hp)<|zV (vN c.mem.size)<|rV (vN p.data.size) R<|zC (GY (c.mem.size:Int) p.W (p.data.size:Int) (oH a.mem) (CI U.W))<|zB R (λA=>?_) (λA=>?_)
  .exact fT R (dR (by unfold jF;have b:=g;have f:=o;have i:=r;have u:=v;have q6:=A;simp only[qA,ae]at b f i u;have X:=Ir (p:=λp:Pt=>kZ (c.mem.size:Int) p.W (p.data.size:Int)) hp (by have z:=A;simpa using z);rw[bB];simp only[aP,aY,cS,pI];grind))
  skip
  have b2:j+1<=9223372036854775807:=oT;refine zW _ (ap (bH (oT:j+1<=9223372036854775807) R)) ?_;refine⟨j+1,λs=>s,au _ wT wH R,⟨oT,DV hp (by have z:=A;simpa using z) H.2⟩,by show c.V.length-(j+1)<c.V.length-j;omega⟩
 have O:=aF G;have ao:=DW (p:=λe:ai=>decide (e.no<c.next)) ad I.2;have ar:=DW (p:=λp:Pt=>kZ (c.mem.size:Int) p.W (p.data.size:Int)) ad H.2;exact fT R (dR (by unfold jF;have b:=g;have f:=o;have i:=r;have u:=v;simp only[qA,ae]at b f i u;rw[bB];simp only[aP,aY,true_iff];grind))
def RK(h:AH):AV->AV
 | .ptr s c=>match h s with|some (.box cells)=>.k cells.length c (rO h cells)|_=>.any
 |x=>vR h x
def KI(h:AH):List AV->List AV
 |[]=>[]
 |x::xs=>RK h x::KI h xs
def RL(h:AH):AV->Prop
 | .ptr s _=>match h s with|some (.box cells)=>eW (rO h cells)=true/\jV h cells|_=>True
 |x=>jU h x
def XN(h:AH):List AV->Prop
 |[]=>True
 |x::xs=>RL h x/\XN h xs
theorem KJ(h:AH):∀(l:List AV),(KI h l).length=l.length
 |[]=>rfl
 |_::l=>am (· +1) (KJ h l)
theorem KL(h:AH):∀(l:List AV) (i:Nat) (x:AV),(KI h l)[i]?=some x->∃y,l[i]?=some y/\x=RK h y
 |[],i,x,a=>by simp[KI]at a
 |y::l,0,x,a=>by simp[KI]at a;exact⟨y,R,a.symm⟩
 |y::l,i+1,x,a=>by simp[KI]at a;exact KL h l i x a
theorem KM(h:AH):∀(l:List AV),XN h l->∀(i:Nat) y,l[i]?=some y->RL h y
 |[],_,i,y,a=>by simp at a
 |x::l,b,0,y,a=>by simp at a;subst a;exact b.1
 |x::l,b,i+1,y,a=>KM h l b.2 i y (sU a)
theorem Az(h:AH):∀(l:List AV),(rO h l).length=l.length
 |[]=>by simp[rO]
 |_::l=>by simp[rO,Az h l]
theorem KN(h:AH):∀(l:List AV) (i:Nat) (x:AV),(rO h l)[i]?=some x->∃y,l[i]?=some y/\x=vR h y
 |[],i,x,a=>by simp[rO]at a
 |y::l,0,x,a=>by simp[rO]at a;exact⟨y,R,a.symm⟩
 |y::l,i+1,x,a=>by simp[rO]at a;exact KN h l i x a
theorem Fw(h:AH):∀(l:List AV),jV h l->∀(i:Nat) y,l[i]?=some y->jU h y
 |[],_,i,y,a=>by simp at a
 |x::l,b,0,y,a=>by simp only[jV]at b;simp at a;subst a;exact b.1
 |x::l,b,i+1,y,a=>by simp only[jV]at b;exact Fw h l b.2 i y (sU a)
section
variable {S:Nat->Prop}{w:World}{β:Bt}{h:AH}{B:Nat}
def RM(H:c3 B S w β h){a:AV}{v:Value}(x:av S w β a v)(k:RL h a):av (λb=>b<w.heap.size) w β (RK h a) v:=by
 have q:∀b,(S b\/(B<=b/\b<w.heap.size))->b<w.heap.size:=λb p=>p.elim (H.lt b) (·.2);by_cases hp:∃s c,a=.ptr s c
 .obtain⟨s,c,rfl⟩:=hp
  cases x with
  |ptr _ _ l r=>
  simp only[RK];simp only[RL]at k
  cases z:h s with
  |none=>exact .any _
  | some blk=>
   cases blk with
   |arr rows rs=>exact .any _
   |row cells=>exact .any _
   | box cells=>
    simp only[z]at k⊢;obtain⟨f,i,U,T,A,D,X,Y,Z,L⟩:=H.own s _ z;obtain rfl:f=l:=by rw[r]at A;exact(fj A).symm
    have o:∀(j:Nat) a,(rO h cells)[j]?=some a->i[f.base+j]?=some (i.getD (f.base+j) undef)/\(i.getD (f.base+j) undef).oneCell'=true/\av (λb=>b<w.heap.size) w cy a (i.getD (f.base+j) undef):=by
     intro j a g;obtain⟨b,p,rfl⟩:=KN h cells j a g;obtain⟨u,E,M,O⟩:=L j b p;have K:i.getD (f.base+j) undef=u:=by rw[aK,E];rfl
     rw[K];exact⟨E,M,mB ((BO H O (Fw h cells k.2 j b p)).mono q (cp.refl _ _) (ME.refl _)) (fW _ k.1 j _ g) _⟩
    refine .k cells.length c (rO h cells) f.l f.base (λj=>if j<cells.length then i.getD (f.base+j) undef else .bool false) (Az h cells) (fJ D) (λj a g=>?_) (λj=>?_) λj a g=>?_
    .have e:j<cells.length:=by rw[<-Az h cells];exact(Em.1 g).1
     rw[aa e,gP D];exact(o j a g).1
    .show(if j<cells.length then i.getD (f.base+j) undef else .bool false).oneCell'=true;by_cases e:j<cells.length
     .rw[aa e];exact(o j _ (aA (by rw[Az];exact e))).2.1
     .rw[dZ e];rfl
    .have e:j<cells.length:=by rw[<-Az h cells];exact(Em.1 g).1
     rw[aa e];exact(o j a g).2.2
 .have G:RK h a=vR h a:=by cases a<;>first|rfl|exact absurd ⟨_,_,rfl⟩ hp
  have I:RL h a=jU h a:=by cases a<;>first|rfl|exact absurd ⟨_,_,rfl⟩ hp
  rw[G];rw[I]at k;exact(BO H x k).mono q (cp.refl _ _) (ME.refl _)
end
theorem pM.Zv{C:a5}{f:FuncId}{args:List AV}{h:AH}{s:Nat}{r:AV}(T:bI C f (KI h args) r)(A:eW (KI h args)=true)(E:XN h args)(D:CQ r=true):pM C.P C.G f args h s (λx h'=>x=r/\h'=h):=by
 obtain⟨hm,k⟩:=T;refine⟨hm,λB S w β vs H X U c=>?_⟩;refine(k (λb=>b<w.heap.size) w vs (λ_ h=>h) (λg cells Z=>(U g cells Z).mono H.lt (cp.refl _ _) (ME.refl _)) ⟨by rw[KJ];exact c.1,λi y u p q=>?_⟩).mono ?_
 .obtain⟨z,I,rfl⟩:=KL h args i y p;exact mB (RM H (c.2 i z u I q) (KM h args E i z I)) (fW _ A i _ p) _
 rintro e w' ⟨v,Y,j,hr⟩;have o:cp S w w':=cp.ZQ (λb a=>j.block b a) H.lt;refine⟨v,S,β,r,h,⟨R,R⟩,Y,MD hr D,⟨λs' blk G=>?_,H.inj,λb a=>e5 (H.lt b a) j.size,aL H.ZT j.size⟩,⟨λ_ h=>h,o,j.mono H.ZT,ME.refl _,λ_ _ hx=>.inl hx,λb a=>.inl a,λb a _=>j.block b a⟩⟩;obtain⟨l,L,M,O,k1,K,k3,k4,k5,k6⟩:=H.own s' blk G;exact⟨l,L,M,O,k1,(j.block _ (fJ K)).trans K,k3,k4,k5,k6.mono (λ_ h=>h) o (ME.refl _)⟩
def jm(ρ:Nat->Nat)(K:AH)(s s2:Nat):List (Nat×a')->Prop
 |[]=>True
 |(i,b)::l=>(Nat.blt (ρ i) s2=true/\Nat.blt i s=true/\qM s b=true/\K (ρ i)=some (DI ρ b))/\jm ρ K s s2 l
theorem jm.get{ρ:Nat->Nat}{K:AH}{s s2:Nat}:∀{l:List (Nat×a')},jm ρ K s s2 l->∀x blk,aq l x=some blk->ρ x<s2/\x<s/\qM s blk=true/\K (ρ x)=some (DI ρ blk)
 |[],_,x,blk,h=>by cases h
 | (i,b)::l,z,x,blk,h=>by
  simp only[aq]at h
  cases a:Nat.beq i x with
  |true=>
   rw[a]at h;injection h with h;subst h;rw[<-aO a]
   exact⟨aJ z.1.1,aJ z.1.2.1,z.1.2.2.1,z.1.2.2.2⟩
  |false=>rw[a]at h;exact jm.get z.2 x blk h
def UQ(ρ:Nat->Nat):Nat->Bool
 |0=>true
 |k+1=>(List.range k).all (λj=> !Nat.beq (ρ j) (ρ k))&&UQ ρ k
theorem NG{ρ:Nat->Nat}:∀{s:Nat},UQ ρ s=true->∀x y,x<s->y<s->ρ x=ρ y->x=y
 |0,_,x,_,a,_,_=>absurd a (dG _)
 | k+1,h,x,y,a,b,e=>by
  simp only[UQ,aP,rC,lI,qI]at h;rcases fb x k with h1|h1<;>rcases fb y k with h2|h2
  .exact NG h.2 x y h1 h2 e
  .have:y=k:=oT;subst this;have:=h.1 x h1;rw[e]at this;simp at this
  .have:x=k:=oT;subst this;have:=h.1 y h2;rw[e]at this;simp at this
  .omega
theorem pM.ZH{P:Program}{G:Nat->Option (List AV)}{f:FuncId}{args:List AV}{L:List (Nat×a')}{s:Nat}{bs:AV->AH->Prop}(H:pM P G f args (aq L) s bs)(ρ:Nat->Nat)(K:AH)(s2:Nat)(i:hD (aq L) s=true)(o:jm ρ K s s2 L)(u:UQ ρ s=true)(q:mS s args=true)
  (b:AV->AH->Prop) (g:∀r h',bs r h'->∃k,b (uW (Gg ρ s s2) r) k/\∀y blk,k y=some blk->(∃x e,h' x=some e/\y=Gg ρ s s2 x/\blk=DI (Gg ρ s s2) e)\/(K y=some blk/\∀x,x<s->ρ x≠y)):pM P G f (Bg ρ args) K s2 b:=
 H.frame ρ K s2 i (λx j=>by
  cases p:aq L x with
  |none=>exact absurd p j
  |some blk=>exact(o.get x blk p).2.1) (λx blk j=>let ⟨a,_,c,d⟩:=o.get x blk j;⟨a,c,d⟩) (NG u) q b g
mutual
theorem KO{s:Nat}{σ j:Nat->Nat}(h:∀x,x<s->σ x=j x):∀(a:AV),mR s a=true->uW σ a=uW j a
 | .ptr x c,e=>by simp only[uW];rw[h x (by simpa [mR]using e)]
 | .x x r c,e=>by simp only[uW];rw[h x (by simpa [mR]using e)]
 | .X x lo n c,e=>by simp only[uW];rw[h x (by simpa [mR]using e)]
 | .agg i,e=>by simp only[uW];rw[wF h i (by simpa [mR]using e)]
 | .F i,e=>by simp only[uW];rw[wF h i (by simpa [mR]using e)]
 | .a f a b,e=>by
  simp only[mR]at e;split at e
  .rename_i k;simp only[uW];rw[wF h a k,wF h b e]
  .cases e
 | .ZY g x,e=>by simp only[uW];rw[KO h x (by simpa [mR]using e)]
 | .v _,_| .Y _ _ _,_| .k _ _ _,_| .any,_=>by simp[uW]
theorem wF{s:Nat}{σ e:Nat->Nat}(h:∀x,x<s->σ x=e x):∀(a:List AV),mS s a=true->Bg σ a=Bg e a
 |[],_=>by simp[Bg]
 |c::a,b=>by
  simp only[mS]at b;split at b
  .rename_i f;simp only[Bg];rw[KO h c f,wF h a b]
  .cases b
end
def yL(ρ:Nat->Nat)(s s2:Nat)(blk:a')(b:qM s blk=true):DI (Gg ρ s s2) blk=DI ρ blk:=by
 have a:∀x,x<s->Gg ρ s s2 x=ρ x:=λx a=>rL ρ ad
 cases blk with
 |box cells=>simp only[DI];rw[wF a cells b]
 |arr rows rs=>rfl
 |row cells=>simp only[DI];rw[wF a cells b]
theorem pM.Y_{P:Program}{G:Nat->Option (List AV)}{f:FuncId}{args:List AV}{L:List (Nat×a')}{s:Nat}{r:AV}(H:pM P G f args (aq L) s (λx h'=>x=r/\h'=aq L))(ρ:Nat->Nat)(K:AH)(s2:Nat)(b:hD (aq L) s=true)(j:jm ρ K s s2 L)(u:UQ ρ s=true)(q:mS s args=true)(v:eP r=true):pM P G f (Bg ρ args) K s2 (λx h'=>x=r/\h'=K):=by
 refine H.ZH ρ K s2 b j u q _ λz h' p=>?_;obtain⟨rfl,rfl⟩:=p;refine⟨K,⟨od _ _ v,R⟩,λy blk g=>?_⟩;by_cases o:∃x,x<s/\ρ x=y
 .obtain⟨x,c,rfl⟩:=o;obtain⟨a,i⟩:=DQ.1 (uH b x c);have k:=j.get x a i;rw[k.2.2.2]at g;injection g with g;refine .inl ⟨x,a,i,(rL ρ ad).symm,?_⟩;rw[<-g];exact(yL ρ s s2 a k.2.2.1).symm
 exact .inr ⟨g,λx c e=>o ⟨x,c,e⟩⟩
structure kl(F:Fence)(P:Program):Prop where
 fn:∀f,F.fn f
 YL:F.depth=none
 calls:∀{f args w R} (m:Nat),Calls P f args w R->CallsIn F m P f args w R
 rows:∀{r args w R} (m:Nat),Rows P r args w R->RowsIn F m P r args w R
def Fy{n:Nat}{P:Program}{row:String}{args:Array Value}{w:World}{R:Value->World->Prop}(h:Rows P row args w R):RowsIn Fence.wide n P row args w R:=
 λc a _=>let ⟨v,w',r,s⟩:=h c a;⟨v,w',r,stepsIn_wide.2 s⟩
def Eg(P:Program):kl Fence.wide P:=⟨λ_=>trivial,R,λ_ h=>callsIn_wide.2 h,λ_ h=>Fy h⟩
def KR(P:Program)(l:Nat):kl (Fence.wide.inRound l) P:=⟨λ_=>trivial,R,λ_ h=>CallsIn.inRound l (callsIn_wide.2 h),λm h=>(Fy (n:=m) h:_)⟩
def g'(kp:Nat->Bool)(a b:Act):Prop:=∀i,kp i=true->b.tmps.getD i undef=a.tmps.getD i undef
theorem g'.refl(kp:Nat->Bool)(a:Act):g' kp a a:=λ_ _=>rfl
theorem g'.trans{kp:Nat->Bool}{a b c:Act}(h:g' kp a b)(k:g' kp b c):g' kp a c:=λi e=>(k i e).trans (h i e)
def RO(o:Oper):Bool:=match o.op with| .defer _=>false|_=>true
def KS(kp:Nat->Bool)(o:Oper):Bool:=match o.dst with|some d=> !kp d|none=>true
def KT(kp:Nat->Bool)(l:List Oper):Bool:=l.all λo=>RO o&&KS kp o
def NL{kp:Nat->Bool}{o:Oper}(b:KS kp o=true)(a:Act)(f:List Deferred)(v:Value):g' kp a ({a with defers:=f}.put o.dst v):=by
 intro i j;unfold KS at b
 cases g:o.dst with
 |none=>rfl
 |some k=>
  rw[g]at b;have c:i≠k:=λe=>by subst e;simp[j]at b
  simp[Act.put,aK,cY (Ne.symm c)]
section
variable {F:Fence}{m:Nat}{P:Program}{ops:Array Oper}{Q Q':Exit->Act->World->Prop}{kp:Nat->Bool}
def XQ(i:kl F P){o:Oper}(b:RO o=true)(q: ¬LetsOut Q)(p:∀c a w,Q (.panic c) a w->Q' (.panic c) a w){a:Act}{w:World}{K:Act->World->Prop}(h:o.wp P a w K Q):
  o.wpIn F m P a w (λk w'=>K k w'/\∃v z,k={a with defers:=z}.put o.dst v) Q':=by
 unfold Oper.wpIn;refine⟨λf _=>i.fn f,?_⟩;rw[Oper.semAt_eq _ _ _ (λc A=>by unfold RO at b;rw[A]at b;cases b)];unfold Oper.wp at h;generalize (execOp a.eval o).run P w=r at h;have j:F.depth.isSome=true->1<=m:=λb=>by rw[i.YL]at b;cases b
 cases r with
 | ok n w'=>
  cases n with
  |value v=>exact⟨h,v,a.defers,R⟩
  |skip=>exact⟨h,undef,a.defers,R⟩
  |defer d=>exact⟨h,undef,d::a.defers,R⟩
  |enter f args=>
   refine⟨j,i.calls _ (Calls.mono h λe u g=>?_)⟩
   cases e with
   |returned v=>exact⟨g,v,a.defers,R⟩
   |panicked c=>exact p _ _ _ g
   |outgrown=>exact absurd g q
  |row r args=>exact⟨j,i.rows _ (Rows.mono h λv u g=>⟨g,v,a.defers,R⟩)⟩
  |_=>exact h.elim
 |halt x w'=>cases x<;>first|exact p _ _ _ h|exact h.elim
def Mh(k:kl F P){o:Oper}(z:RO o=true)(q:KS kp o=true)(g: ¬LetsOut Q)(x:∀c a w,Q (.panic c) a w->Q' (.panic c) a w){a:Act}{w:World}{K i:Act->World->Prop}
  (h:if Region.wanted o (yielded ops a.tmps)then o.wp P a w K Q\/(o.asks P a w/\LetsOut Q)else K (a.put o.dst undef) w) (p:∀b w',K b w'->g' kp a b->i b w'):
  if Region.wanted o (yielded ops a.tmps)then o.wpIn F m P a w i Q' else(∀f,o.about P w a.eval=some f->F.fn f)/\i (a.put o.dst undef) w:=by
 split
 .rename_i j;simp only[j,fD]at h;rcases h with h|⟨_,h⟩
  .exact Oper.wpIn_mono (λb w' ⟨u,v,r,e⟩=>p b w' u (by rw[e];exact NL q a r v)) (XQ k z g x h)
  exact absurd h g
 rename_i j;simp only[j]at h;exact⟨λf _=>k.fn f,p _ _ h (NL q a a.defers undef)⟩
def nz(kp:Nat->Bool)(a0:Act)(Q:Exit->Act->World->Prop):Exit->Act->World->Prop:=λe a w=>Q e a w/\(e=.normal->g' kp a0 a)
def Jc(a:KT kp ops.toList=true){i:Nat}{o:Oper}(b:ops[i]?=some o):RO o=true/\KS kp o=true:=by
 have:=rC.1 a o (aB (i:=i) (by rw[bQ];exact b));simpa using this
theorem Jd(g:kl F P)(j:KT kp ops.toList=true)(b: ¬LetsOut Q){a0:Act}:∀(l:List Nat) (a:Act) (w:World),wpOps P ops Q l a w->g' kp a0 a->wpOpsIn F m P ops (nz kp a0 Q) l a w
 |[],a,w,h,f=>⟨h,λ_=>f⟩
 | i::l,a,w,h,f=>by
  simp only[wpOps]at h;simp only[wpOpsIn]
  cases k:ops[i]? with
  |none=>rw[k]at h;exact Jd g j b l a w h f
  |some o=>
   rw[k]at h;obtain⟨r,u⟩:=Jc j k;exact Mh (ops:=ops) g r u b (λc a w q=>⟨q,λe=>by cases e⟩) h λp w' v x=>Jd g j b l p w' v (f.trans x)
theorem CA(k:kl F P)(p:KT kp ops.toList=true)(g: ¬LetsOut Q){a0:Act}:∀(fuel:Nat) (b:Array Bool) (a:Act) (w:World),wpAny P .any ops Q fuel b a w->g' kp a0 a->wpAnyIn F m P .any ops (nz kp a0 Q) fuel b a w
 |0,b,a,w,h,j=>⟨h.1,h.2,λ_=>j⟩
 | fuel+1,b,a,w,h,j=>by
  refine⟨λE=>⟨h.1 E,λ_=>j⟩,λi z=>?_⟩;have f:=h.2 i z;unfold wpOp at f;unfold wpOpIn
  cases r:ops[i]? with
  |none=>rw[r]at f;exact CA k p g fuel _ a w f j
  |some o=>
   rw[r]at f;obtain⟨v,x⟩:=Jc p r;exact Mh (ops:=ops) k v x g (λc a w q=>⟨q,λe=>by cases e⟩) f λu w' A D=>CA k p g fuel _ u w' A (j.trans D)
end
def oO(N:Nat)(kp:Nat->Bool):Code->Bool
 | .region _ ops _=>vK N ops.toList&&KT kp ops.toList
 | .seq a b=>oO N kp a&&oO N kp b
 | .cond _ a b=>oO N kp a&&oO N kp b
 | .block _ b=>oO N kp b
 | .loop _=>false
 |_=>true
section
variable {F:Fence}{m:Nat}{C:a5}{V:Inv C.fr}{w0:World}{S0:Nat->Prop}{N:Nat}{kp:Nat->Bool}{a0:Act}
def tX(C:a5)(V:Inv C.fr)(w0:World)(S0:Nat->Prop)(N:Nat)(kp:Nat->Bool)(a0:Act)(Q:c8->a4->Prop)(e:Exit)(a:Act)(w:World):Prop:=∃b st S β,e=Gq b/\Q b st/\bt C V w0 S0 N (· <st.n) st.t st.h a w S β/\g' kp a0 a
def BI(O:kl F C.P)(K:cb C):∀(c:Code),oO N kp c=true->∀(st:a4) (Q:c8->a4->Prop),eA C (bI C) c st Q->∀(a:Act) (w:World) (S:Nat->Prop) (β:Bt),bt C V w0 S0 N (· <st.n) st.t st.h a w S β->g' kp a0 a->
  c.wpIn F m C.P (tX C V w0 S0 N kp a0 Q) a w:=by
 intro c
 induction c with
 |skip=>intro _ st Q hq a w S β M q;exact wpIn_skip ⟨.normal,st,S,β,R,hq,M,q⟩
 |label l=>intro _ st Q hq a w S β M q;exact wpIn_label ⟨.normal,st,S,β,R,hq,M,q⟩
 |exit id=>intro _ st Q hq a w S β M q;exact wpIn_exit ⟨.exit id,st,S,β,R,hq,M,q⟩
 |ret=>intro _ st Q hq a w S β M q;exact wpIn_ret ⟨.ret,st,S,β,R,hq,M,q⟩
 | region id ops dr=>
  intro k st Q hq a w S β M q;simp only[oO,aP]at k;obtain⟨t,h,n⟩:=st;simp only[eA]at hq;obtain⟨E,L⟩:∃E:Exit->Act->World->Prop,E=λe a w=>e=.normal/\∃st S β,Q .normal st/\bt C V w0 S0 N (· <st.n) st.t st.h a w S β:=⟨_,R⟩;have H: ¬LetsOut E:=by rintro⟨a,w,h⟩;rw[L]at h;cases h.1
  have X:∀e a w,nz kp a0 E e a w->tX C V w0 S0 N kp a0 Q e a w:=by
   rintro e a w ⟨j,p⟩;rw[L]at j;obtain⟨rfl,st,S,β,r,I⟩:=j;exact⟨.normal,st,S,β,R,r,I,p R⟩
  have U:∀f u w' o g,Q .normal f->bt C V w0 S0 N (· <f.n) f.t f.h u w' o g->E .normal u w':=λf u w' o g j p=>by rw[L];exact⟨R,f,o,g,j,p⟩
  cases dr with
  |false=>
   simp only[pW]at hq;have:=Ev (Q:=E) (K:=Q .normal) K (ops:=ops) R k.1 ops.toList 0 t h a w S β R hq M U;rw[show List.range' 0 ops.toList.length=List.range ops.size by rw[nZ,cV]]at this
   exact wpIn_mono (wpIn_region (Jd O k.2 H _ a w this q)) X
  | true=>
   simp only[kL]at hq;refine wpIn_mono (wpIn_region_any K.mixed (Q:=nz kp a0 E) ?_) X
   cases T:FN ops.toList with
   |true=>
    rw[T]at hq;rcases hq with hq|⟨_,hq⟩
    rotate_left
    .exact CA O k.2 H _ _ _ _ (Es (C:=C.ZZ) (V:=V) K.ZZ (λ_ _ _ _ _ h=>h) k.1 hq (bt.ZZ M) (λf u w' o g z v=>U f u w' o g z (bt.ZI v))) q
    have v:=M.drawn (w.drawn+1)
    exact CA O k.2 H _ _ _ _ (CL (C:=C.ZZ) (V:=V) K.ZZ (λ_ _ _ _ _ h=>h) k.1 (λf u w' o g z v=>U f u w' o g z (bt.ZI v)) ops.size _ t h a _ S β (by simp) hq ⟨v.T,v.H,v.B,λy l hy=>.inl (v.Z2 y l hy),v.df,v.j,v.G,v.nw,v.iv⟩) q
   |false=>
   rw[T]at hq;have hd:JO ops.toList=true:=by simp only[FN,dP,mJ]at T;exact T.2
   exact CA O k.2 H _ _ _ _ (Gw (C:=C.ZZ) (V:=V) K.ZZ (λ_ _ _ _ _ h=>h) k.1 hd hq (bt.ZZ M) (λf u w' o g z v=>U f u w' o g z (bt.ZI v))) q
 | seq x y A D=>
  intro k st Q hq a w S β M q;simp only[oO,aP]at k;simp only[eA]at hq;rcases hq with hq|hq|hq
  .refine wpIn_seq (wpIn_mono (A k.1 st _ hq a w S β M q) ?_);rintro e u w' ⟨G,f,o,g,rfl,j,p,r⟩
   cases G with
   |normal=>exact D k.2 f Q j u w' o g p r
   |exit i=>exact⟨.exit i,f,o,g,R,j,p,r⟩
   |ret=>exact⟨.ret,f,o,g,R,j,p,r⟩
  .refine wpIn_seq (wpIn_mono (A k.1 st _ hq a w S β M q) ?_);rintro e u w' ⟨G,f,o,g,rfl,j,p,r⟩
   cases G with
   |normal=>
    obtain⟨Y,g1,g2⟩:=j;obtain⟨Z,I⟩:=nK g1 p
    exact D k.2 Y Q g2 u w' Z g I r
   |exit i=>exact⟨.exit i,f,o,g,R,j,p,r⟩
   |ret=>exact⟨.ret,f,o,g,R,j,p,r⟩
  .refine wpIn_seq (wpIn_mono (A k.1 st _ hq a w S β M q) ?_);rintro e u w' ⟨G,f,o,g,rfl,j,p,r⟩
   cases G with
   |normal=>
    obtain⟨Y,g1,ag,σ,hW,hf,g2⟩:=j;obtain⟨Z,I⟩:=nK g1 p
    exact D k.2 ag Q g2 u w' Z _ (pK hW hf I) r
   |exit i=>exact⟨.exit i,f,o,g,R,j,p,r⟩
   |ret=>exact⟨.ret,f,o,g,R,j,p,r⟩
 | cond c x y A D=>
  intro k st Q hq a w S β M q;simp only[oO,aP]at k;simp only[eA]at hq;split at hq
  .rename_i b hb;obtain⟨j,p⟩:=hq;have hv:=sY M c;rw[hb]at hv;refine wpIn_cond_split (lV hv) (λab=>A k.1 st Q (j ab) a w S β M q) (λhf=>D k.2 st Q (p hf) a w S β M q)
  .exact hq.elim
 | block id b ih=>
  intro k st Q hq a w S β M q;simp only[oO]at k;simp only[eA]at hq;refine wpIn_block (wpIn_mono (ih k st _ hq a w S β M q) ?_);rintro e u w' ⟨G,f,o,g,rfl,j,p,r⟩
  cases G with
  |normal=>exact⟨.normal,f,o,g,R,j,p,r⟩
  |ret=>exact⟨.ret,f,o,g,R,j,p,r⟩
  | exit i=>
   show Exit.inBlock id _ (.exit i) u w';simp only at j;simp only[Exit.inBlock];by_cases hi:i=id
   .subst hi;rw[aa R];rw[show Nat.beq i i=true from nG i]at j;exact⟨.normal,f,o,g,R,j,p,r⟩
   .rw[dZ hi];have:Nat.beq i id=false:=by rw[<-eJ];exact λe=>hi (aO e)
    rw[this]at j
    exact⟨.exit i,f,o,g,R,j,p,r⟩
 |loop b ih=>intro k;simp[oO]at k
 |_=>intro _ st Q hq;exact hq.elim
theorem BJ(O:kl F C.P)(L:cb C)(X:li C){ops:Array Oper}{b:List Oper}(k:ops.toList=b)(E:vK N b=true)(U:KT kp b=true){K:a4->Prop}{Q:Exit->Act->World->Prop}{n:Nat}(post:List Nat):∀(rest:List Oper) (j:Nat) (t:Nat->AV) (h:AH) (a:Act) (w:World) (S:Nat->Prop) (β:Bt),(∃q,b.drop j=rest++q)->jS C (bI C) b rest j ⟨t,h,n⟩ K->bt C V w0 S0 N (· <n+j) t h a w S β->g' kp a0 a->
  (∀st p w' r g,K st->bt C V w0 S0 N (· <st.n) st.t st.h p w' r g->g' kp a0 p->wpOpsIn F m C.P ops Q post p w')->wpOpsIn F m C.P ops Q (List.range' j rest.length++post) a w
 |[],j,t,h,a,w,S,β,_,H,M,I,D=>D ⟨t,h,n+j⟩ a w S β H M I
 | o::rest,j,t,h,a,w,S,β,⟨q,u⟩,H,M,I,D=>by
  obtain⟨x,h',Y,Z⟩:=(pd H).resolve_right (λ⟨_,f,args,bs,_,hh,_⟩=>X _ _ _ _ _ hh);have T:b[j]?=some o:=by
   have:(b.drop j)[0]?=some o:=by rw[u];rfl
   simpa using this
  have z:ops[j]?=some o:=by rw[<-T, <-k,bQ]
  have G:o∈b:=aB T;have hs:β (n+j)=none:=by
   cases hq:β (n+j)with
   |none=>rfl
   |some l=>have:=M.Z2 _ _ hq;omega
  obtain⟨l1,l2⟩:=Jc (ops:=ops) (kp:=kp) (by rw[k];exact U) z;rw[bN,nX,nV];simp only[wpOpsIn,z];obtain⟨A,v⟩:∃A:Exit->Act->World->Prop,A=λ_ _ _=>False:=⟨_,R⟩;refine Mh (ops:=ops) (Q:=A) O l1 l2 (by rintro⟨a,w,h⟩;rw[v]at h;exact h) (λc a w h=>by rw[v]at h;exact h.elim)
   (xQ (K:=λp w'=>∃r g,bt C V w0 S0 N (λy=>y<n+j\/y=n+j) (Aa t o.dst x) h' p w' r g) L M hs k Y (wU E G) (λi aa d _ hd=>BP E i d hd) λp w' r g e=>⟨r,g,e⟩) ?_
  rintro p w' ⟨r,g,e⟩ hm;refine BJ O L X k E U post rest (j+1) _ h' p w' r g ⟨q,?_⟩ Z ?_ (I.trans hm) D
  .rw[<-lH,u];rfl
  .exact⟨e.T,e.H,e.B,λy l hy=>(e.Z2 y l hy).elim (λ(h:y<n+j)=>(oT:y<n+(j+1))) (λ(h:y=n+j)=>(oT:y<n+(j+1))),e.df,e.j,e.G,e.nw,e.iv⟩
end
structure dy(K:Nat->Prop)(w w':World):Prop where
 os:w'.os=w.os
 tape:w'.tape=w.tape
 output:w'.output=w.output
 size:w.heap.size<=w'.heap.size
 block:∀b,b<w.heap.size->K b->w'.heap[b]?=w.heap[b]?
theorem dy.refl(K:Nat->Prop)(w:World):dy K w w:=⟨R,R,R,aC _,λ_ _ _=>rfl⟩
theorem dy.trans{K:Nat->Prop}{a b c:World}(h:dy K a b)(k:dy K b c):dy K a c:=
 ⟨k.os.trans h.os,k.tape.trans h.tape,k.output.trans h.output,aL h.size k.size,λx f e=>(k.block x (e5 f h.size) e).trans (h.block x f e)⟩
theorem dy.mono{K c:Nat->Prop}{a b:World}(h:dy K a b)(g:∀x,x<a.heap.size->c x->K x):dy c a b:=⟨h.os,h.tape,h.output,h.size,λx e f=>h.block x e (g x e f)⟩
theorem dy.Zk{K:Nat->Prop}{n:Nat}{a b:World}(h:Below n a b)(c:∀x,K x->x<n):dy K a b:=⟨h.os,h.tape,h.output,h.size,λx _ e=>h.block x (c x e)⟩
def Jb{F:Fence}{m:Nat}{P:Program}{ops:Array Oper}{Q:Exit->Act->World->Prop}{i:Nat}{rest:List Nat}{o:Oper}{a:Act}{w:World}(c:ops[i]?=some o)(b:o.guard=none)(h:o.wpIn F m P a w (wpOpsIn F m P ops Q rest) Q):wpOpsIn F m P ops Q (i::rest) a w:=by
 have:Region.wanted o (yielded ops a.tmps)=true:=by simp[Region.wanted,b]
 simp only[wpOpsIn,c,this,fD];exact h
def Mg{F:Fence}{m l:Nat}{P:Program}(p:kl F P){o:Oper}{f:Operand}{args:Array Operand}{k:Array TypeId}{v:Array Value}{a:Act}{w:World}{K:Act->World->Prop}{Q:Exit->Act->World->Prop}{R:Bool->World->Prop}
  (u:o.op=.call {callee:=.value f,args:=args,argTypes:=k}) (G:a.eval f=.func (.yield l) #[] #[]) (D:args.map a.eval=v) (i:YieldAt F m P l v w λe w'=>∃b,e=.returned (.bool b)∧R b w')
  (z:∀b w',R b w'->K (a.put o.dst (.bool b)) w'):o.wpIn F (m+1) P a w K Q:=by
 obtain⟨x,j,assign,g,i,A⟩:=i;unfold Oper.wpIn;refine⟨λf _=>p.fn f,?_⟩;rw[Oper.semAt_eq _ _ _ (λc q=>by rw[u]at q;cases q)];have E:(execOp a.eval o).run P w=.ok (.round l x j assign g) w:=by
  rw[<-i];simp only[execOp,u,resolve,Deferred.ofValue,G,D];simp[invoke]
 rw[E,Oper.uponIn_round];refine⟨λr=>(by rw[p.YL]at r;cases r),A.mono ?_⟩;rintro e w' ⟨b,rfl,H⟩;exact z b w' H
def sw{α:Type}(P:Program)(g:Nat)(lb:Array Value)(encs:α->Array Value)(xs:List α)(R:Nat->Prop)(w:World):Prop:=
 ∀ (l:Nat) (J:Bool->(Nat->Prop)->List α->World->Prop) (C0:Nat->Prop) (W:World),
  dy R w W->(∀b,R b-> ¬C0 b)->
  (∀s C pre A B,J s C pre A->dy (λb=>b<W.heap.size∨C b) A B->J s C pre B)->
  (∀s C pre A,J s C pre A->∀b,C b->b<A.heap.size)->
  (∀C pre x A,J false C pre A->pre++[x] <+: xs->YieldAt Fence.wide 1 P l (encs x) A λe B=>∃b,e=.returned (.bool b)∧
   ∃a,J (!b) a (pre++[x]) B∧dy (λb=> ¬C b) A B∧(∀b,a b->C b∨A.heap.size<=b))->
  J false C0 [] W->
  Calls P g (#[.func (.yield l) #[] #[]]++lb) W λe c=>(∃v,e=.returned v)∧((∃C,J false C xs c)∨∃C pre,pre <+: xs∧J true C pre c)
def Fx{α:Type}{P:Program}{g:Operand}{ps:Array Tmp}{assign body:Code}{Q:Exit->Act->World->Prop}{a:Act}{w:World}
  {gf:Nat} {lb:Array Value} (hg:a.eval g=.func (.func gf) #[] lb) (eg:∀args w,(callFunc gf args).run P w=.ok (.enter gf args) w)
  {encs:α->Array Value} {xs:List α} {R:Nat->Prop} {w0:World} (hseq:sw P gf lb encs xs R w0) (hR:dy R w0 w) (hRlt:∀b,R b->b<w0.heap.size) (hps:∀x,(encs x).size=ps.size)
  (I Ix:(Nat->Prop)->List α->World->Prop) (IA:(Nat->Prop)->List α->α->Act->World->Prop) (C0:Nat->Prop) (hC0:∀b,C0 b->b<w.heap.size) (hCR:∀b,R b-> ¬C0 b)
  (hI:∀C pre A B,I C pre A->dy (λb=>b<w.heap.size∨C b) A B->I C pre B)
  (hIx:∀C pre A B,Ix C pre A->dy (λb=>b<w.heap.size∨C b) A B->Ix C pre B)
  (hIA:∀C pre x a A B,IA C pre x a A->dy (λb=>b<w.heap.size∨C b) A B->IA C pre x a B)
  (hlt:∀C pre A,I C pre A->∀b,C b->b<A.heap.size) (hltx:∀C pre A,Ix C pre A->∀b,C b->b<A.heap.size)
  (h0:I C0 [] w)
  (hassign:∀(l:Nat) (C:Nat->Prop) (pre:List α) (x:α) (A:World),I C pre A->pre++[x] <+: xs->w.heap.size<=A.heap.size->
   assign.wpIn (Fence.wide.inRound l) 1 P (Exit.then (λa1 B=>∃C',IA C' pre x a1 B∧dy (λb=> ¬C b) A B∧(∀b,C' b->C b∨A.heap.size<=b)) (λ_ _ _=>False))
    {tmps:=(ps.zip (encs x)).foldl (λt (p,v)=>t.setIfInBounds p v) a.tmps,defers:=[]} A)
  (hbody:∀(l:Nat) (C:Nat->Prop) (pre:List α) (x:α) (a1:Act) (A:World),IA C pre x a1 A->pre++[x] <+: xs->w.heap.size<=A.heap.size->
   body.wpIn (Fence.wide.inRound l) 1 P (λe _ B=>∃C',dy (λb=> ¬C b) A B∧(∀b,C' b->C b∨A.heap.size<=b)∧((e=.normal∧I C' (pre++[x]) B)∨(e=.ret∧Ix C' (pre++[x]) B))) a1 A)
  (hdone:∀(D:Nat) (C:Nat->Prop) (W:World),w.heap.size<=D->I C xs W-> ¬C D->W.heap[D]?=some (.deferred (some []))->Q .normal {a with defers:={target:=.collected D,args:= #[]}::a.defers} W)
  (hstop:∀(D:Nat) (C:Nat->Prop) (pre:List α) (W:World),w.heap.size<=D->pre <+: xs->Ix C pre W-> ¬C D->W.heap[D]?=some (.deferred (some []))->Q .ret {a with defers:={target:=.collected D,args:= #[]}::a.defers} W):
  (Code.rangeFunc g ps assign body).wp P Q a w:=by
 refine(wpIn_wide (n:=3)).1 (wpIn_rangeFunc ?_);intro fn hfn;obtain⟨rec,hrec⟩:∃rec:LoopState->Option Code->Loop,rec=λst pe=>{state:=st,pending:=pe,fn,tmps:=a.tmps,params:=ps,assign,body,defers:=w.heap.size}:=⟨_,rfl⟩;obtain⟨W1,hW1⟩:∃W1,(w.alloc (.deferred (some []))).alloc (.loop (rec .ready none))=W1:=⟨_,rfl⟩;have hs1:W1.heap.size=w.heap.size+2:=by rw[<-hW1];simp
 have hL1:W1.heap[w.heap.size+1]?=some (.loop (rec .ready none)):=by
  rw[<-hW1];have:=World.alloc_heap_new (w.alloc (.deferred (some []))) (.loop (rec .ready none));rwa [World.size_alloc]at this
 have hK1:W1.heap[w.heap.size]?=some (.deferred (some [])):=by
  rw[<-hW1];exact(Below.heap_alloc _ _ _ (by simp)).trans (World.alloc_heap_new w _)
 have hb1:Below w.heap.size w W1:=by
  rw[<-hW1];exact((Below.refl _ w).alloc (aC _) _).alloc (by simp) _
 have hput:∀(K:Nat->Prop) (A:World) (o:Obj), ¬K (w.heap.size+1)->dy K A (A.putObj (w.heap.size+1) o):=λK A o hk=>
  ⟨rfl,rfl,rfl,by simp,λb _ hb=>World.putObj_heap_other (λe=>hk (e ▸ hb))⟩
 refine⟨w.heap.size+1,[{target:=.collected w.heap.size,args:= #[]}],W1,{target:=.fn (.func gf) lb,args:= #[.func (.yield (w.heap.size+1)) #[] #[]]},W1,gf,
  #[.func (.yield (w.heap.size+1)) #[] #[]]++lb,W1,?_,?_,?_,?_,λ_=>by omega,?_⟩
 .rw[<-hW1,hrec];exact run_enterLoop_outer _ _ _ _ _
 .simp only[resolve,hg];simp[go_sem]
 .intro f' _;trivial
 .simp[invoke,go_sem,eg]
 refine callsIn_wide.2 ((hseq (w.heap.size+1)
  (λs CC pre A=>∃C,(bif s then Ix else I) C pre A∧(∀b,CC b↔C b∨b=w.heap.size+1)∧(∀b,C b->b<w.heap.size∨w.heap.size+1<b)∧A.heap[w.heap.size+1]?=some (.loop (bif s then rec .done (some .ret)else rec .ready none))∧A.heap[w.heap.size]?=some (.deferred (some [])))
  (λb=>C0 b∨b=w.heap.size+1) W1 ?_ ?_ ?_ ?_ ?_ ?_).mono ?_)
 .exact hR.trans (dy.Zk hb1 λx hx=>e5 (hRlt x hx) hR.size)
 .rintro b hb (h|h)
  .exact hCR b hb h
  have:=hRlt b hb;have:=hR.size;omega
 .rintro s CC pre A B ⟨C,hi,hc,hcl,hl,hk⟩ hs;have l1:=(DP.1 hl).1;have l2:=(DP.1 hk).1;refine⟨C,?_,hc,hcl,(hs.block _ l1 (.inl oT)).trans hl,(hs.block _ l2 (.inl oT)).trans hk⟩;have hs':dy (λb=>b<w.heap.size∨C b) A B:=hs.mono λx _ hx=>hx.elim (λh=>.inl oT) (λh=>.inr ((hc x).2 (.inl h)));cases s
  .exact hI C pre A B hi hs'
  exact hIx C pre A B hi hs'
 .rintro s CC pre A ⟨C,hi,hc,hcl,hl,hk⟩ b hb;rcases(hc b).1 hb with h|h
  .cases s
   .exact hlt C pre A hi b h
   exact hltx C pre A hi b h
  rw[h];exact(DP.1 hl).1
 .rintro CC pre x A ⟨C,hi,hc,hcl,hl,hk⟩ hpre;have l1:=(DP.1 hl).1;have hnr: ¬C (w.heap.size+1):=λh=>by have:=hcl _ h;omega
  have hnd: ¬C (w.heap.size):=λh=>by have:=hcl _ h;omega
  have hy:=run_yield (P:=P) (args:=encs x) hl (by rw[hrec];exact hps x);rw[hrec]at hy;refine⟨fn,_,assign,body,hy,roundIn_of_wpIn trivial (wpIn_mono (hassign _ C pre x A hi hpre oT) ?_)⟩;intro e a1 B hB;cases e<;>try exact hB.elim
  obtain⟨C',hia,hsB,hgrow⟩:=hB;have hlB:B.heap[w.heap.size+1]?=some (.loop (rec .ready none)):=(hsB.block _ l1 hnr).trans hl;have hkB:B.heap[w.heap.size]?=some (.deferred (some [])):=(hsB.block _ oT hnd).trans hk;have hnr': ¬C' (w.heap.size+1):=λh=>(hgrow _ h).elim hnr (λh=>by omega);have hnd': ¬C' (w.heap.size):=λh=>(hgrow _ h).elim hnd (λh=>by omega);have lB:=(DP.1 hlB).1;refine⟨_,run_beginRound hlB (by rw[hrec]),?_⟩;have hl2:(B.putObj (w.heap.size+1) (.loop {rec .ready none with state:=.busy})).heap[w.heap.size+1]?=some (.loop {rec .ready none with state:=.busy}):=World.putObj_heap_same lB;have hk2:(B.putObj (w.heap.size+1) (.loop {rec .ready none with state:=.busy})).heap[w.heap.size]?=some (.deferred (some [])):=(World.putObj_heap_other oT).trans hkB;have hia2:=hIA C' pre x a1 B _ hia (hput (λb=>b<w.heap.size∨C' b) B (.loop {rec .ready none with state:=.busy}) (by rintro(h|h);omega;exact hnr' h));refine wpIn_mono (hbody _ C' pre x a1 _ hia2 hpre (by simp;omega)) ?_;rintro e a3 W3 ⟨C3,hs3,hg3,hi3⟩;have hl3:W3.heap[w.heap.size+1]?=some (.loop {rec .ready none with state:=.busy}):=(hs3.block _ (by simp;omega) hnr').trans hl2;have hk3:W3.heap[w.heap.size]?=some (.deferred (some [])):=(hs3.block _ (by simp;omega) hnd').trans hk2;have l3:=(DP.1 hl3).1;have hnr3: ¬C3 (w.heap.size+1):=λh=>(hg3 _ h).elim hnr' (λh=>by simp at h;omega);have hcl3:∀b,C3 b->b<w.heap.size∨w.heap.size+1<b:=by
   intro b hb;rcases hg3 b hb with h|h
   .rcases hgrow b h with h|h
    .exact hcl b h
    right;omega
   simp at h;right;omega
  have hcat:∀o,dy (λb=> ¬CC b) A (W3.putObj (w.heap.size+1) o):=λo=>by
   have q1:dy (λb=> ¬CC b) A B:=hsB.mono λb _ hb h=>hb ((hc b).2 (.inl h));have q2:dy (λb=> ¬CC b) B (B.putObj (w.heap.size+1) (.loop {rec .ready none with state:=.busy})):=hput _ _ _ (λh=>h ((hc _).2 (.inr rfl)));have q4:dy (λb=> ¬CC b) W3 _:=hput (λb=> ¬CC b) W3 o (λh=>h ((hc _).2 (.inr rfl)));refine dy.trans ?_ q4;have q3:∀b,b<A.heap.size-> ¬CC b->W3.heap[b]?=A.heap[b]? :=λb hb hcc=>by
    have nC: ¬C b:=λh=>hcc ((hc b).2 (.inl h));have nC': ¬C' b:=λh=>(hgrow b h).elim nC (λh=>by omega);rw[hs3.block b (by simp;exact e5 hb hsB.size) nC',q2.block b (e5 hb hsB.size) hcc,q1.block b hb hcc]
   exact⟨hs3.os.trans hsB.os,hs3.tape.trans hsB.tape,hs3.output.trans hsB.output,aL hsB.size (by have:=hs3.size;simpa using this),q3⟩
  have grow:∀b,(C3 b∨b=w.heap.size+1)->CC b∨A.heap.size<=b:=by
   rintro b (h|h)
   .rcases hg3 b h with h|h
    .exact(hgrow b h).imp (λh=>(hc b).2 (.inl h)) id
    exact .inr (aL hsB.size (sU h))
   exact .inl ((hc b).2 (.inr h))
  rcases hi3 with ⟨rfl,hi3⟩|⟨rfl,hi3⟩
  all_goals
   first|(have hr:=run_endRound (P:=P) (none:Option Code) hl3;refine⟨_,_,hr,true,rfl,λb=>C3 b∨b=w.heap.size+1,⟨C3,?_,λb=>Iff.rfl,hcl3,?_,?_⟩,hcat _,grow⟩)|(have hr:=run_endRound (P:=P) (some Code.ret) hl3;refine⟨_,_,hr,false,rfl,λb=>C3 b∨b=w.heap.size+1,⟨C3,?_,λb=>Iff.rfl,hcl3,?_,?_⟩,hcat _,grow⟩)
   .first|(exact hI C3 _ W3 _ hi3 (hput _ W3 _ (by rintro(h|h);omega;exact hnr3 h)))|(exact hIx C3 _ W3 _ hi3 (hput _ W3 _ (by rintro(h|h);omega;exact hnr3 h)))
   .rw[World.putObj_heap_same l3,hrec];rfl
   exact(World.putObj_heap_other oT).trans hk3
 .refine⟨C0,hI C0 [] w W1 h0 (dy.Zk hb1 λx hx=>hx.elim id (hC0 x)),λb=>Iff.rfl,λb hb=>.inl (hC0 b hb),hL1,hK1⟩
 rintro e W2 ⟨⟨v,rfl⟩,⟨CC,C,hi,hc,hcl,hl,hk⟩|⟨CC,pre,hpre,C,hi,hc,hcl,hl,hk⟩⟩
 all_goals
  have hnr: ¬C (w.heap.size+1):=λh=>by have:=hcl _ h;omega
  have hnd: ¬C (w.heap.size):=λh=>by have:=hcl _ h;omega
  first|(refine⟨none,_,by have:=run_endLoop (P:=P) hl (by rw[hrec];simp);rw[hrec]at this;exact this,?_⟩;exact hdone w.heap.size C _ (aC _) (hI C xs W2 _ hi (hput _ W2 _ (by rintro(h|h);omega;exact hnr h))) hnd ((World.putObj_heap_other oT).trans hk))|(refine⟨some .ret,_,by have:=run_endLoop (P:=P) hl (by rw[hrec];simp);rw[hrec]at this;exact this,wpIn_ret ?_⟩;exact hstop w.heap.size C pre _ (aC _) hpre (hIx C pre W2 _ hi (hput _ W2 _ (by rintro(h|h);omega;exact hnr h))) hnd ((World.putObj_heap_other oT).trans hk))
def lk{S S':Nat->Prop}{w w':World}{β:Bt}{x:AV}{v:Value}(Z:av S w β x v)(O:∀b,S b->S' b)(hS:∀b,S b->w'.heap[b]?=w.heap[b]?):
  (∀s l E e M,β s=some l->w.heap[l.l]?=some (Obj.cells E e M)->∃G:Array Value,w'.heap[l.l]?=some (.cells G e M)/\G.size=E.size)->av S' w' β x v:=by
 induction Z with
 |v x=>intro _;exact .v x
 |agg E L r k h ih=>intro p;exact .agg E L r k λi a u k q=>ih i a u k q p
 |F E L r h ih=>intro p;exact .F E L r λi a u k q=>ih i a u k q p
 |Y rs rows D A c b o u U Y I K H hw k Z ih=>
  intro _;refine .Y rs rows D A c b o u U Y I K (λh=>⟨(H h).1,O _ (H h).2⟩) (λi row j a k q=>?_) k λi row j a k q=>ih i row j a k q (λs l _ _ _ e=>by cases e);have h0:0<rows.length:=bL (aE i) (Em.1 k).1;rw[uC (hS b (H h0).2)]
  exact hw i row j a k q
 |k rs z row b o u K p hw k Z ih=>
  intro _
  exact .k rs z row b o u K (O _ p) (λj a k=>by rw[uC (hS b p)];exact hw j a k) k λj a k=>ih j a k (λs l _ _ _ e=>by cases e)
 |ptr s z l r=>intro p;exact .ptr s z l r
 |x s row z l r=>intro p;exact .x s row z l r
 |X s lo len D l A c r U Y I H E e M p ag=>
  intro aa;obtain⟨G,k,q⟩:=aa _ _ _ _ _ r p
  exact .X s lo len D l A c r U Y I H G e M k (by rw[q];exact ag)
 |a f first T L us r h bb h' ih bd=>intro p;exact .a f first T L us r (λi a u k q=>ih i a u k q p) bb λi a u k q=>bd i a u k q p
 |Zr g a x X h ih=>intro p;exact .Zr g a x X (ih p)
 |Zm g a X=>intro _;exact .Zm g a X
 |any x=>intro _;exact .any x
def NJ{β:Bt}{w w':World}(h:∀s l o,β s=some l->w.heap[l.l]?=some o->w'.heap[l.l]?=some o):
  ∀s l a e c,β s=some l->w.heap[l.l]?=some (Obj.cells a e c)->∃b:Array Value,w'.heap[l.l]?=some (.cells b e c)/\b.size=a.size:=λs l a e c f g=>⟨a,h s l _ f g,R⟩
section
variable {C:a5}{V V':Inv C.fr}{w0:World}{S0:Nat->Prop}{N:Nat}
theorem bt.move{D:Nat->Prop}{t:Nat->AV}{h:AH}{a:Act}{w w':World}{S:Nat->Prop}{β:Bt}(M:bt C V w0 S0 N D t h a w S β)(q:∀b,S b->w'.heap[b]?=w.heap[b]?)
  (c:∀s l o,β s=some l->w.heap[l.l]?=some o->w'.heap[l.l]?=some o) (f:w'.os=w.os) (z:w'.tape=w.tape) (h3:w'.output=w.output) (p:w.heap.size<=w'.heap.size) (E:∀b,b<w0.heap.size->w'.heap[b]?=w.heap[b]?) (G:V'.p S w' β):
  bt C V' w0 S0 N D t h a w' S β:=by
 refine⟨λi=>lk (M.T i) (λ_ h=>h) q (NJ c),⟨λs blk K=>?_,M.H.inj,λb c=>e5 (M.H.lt b c) p,aL M.H.ZT p⟩,⟨f.trans M.B.os,z.trans M.B.tape,h3.trans M.B.output,aL M.B.size p,λb c=>(E b c).trans (M.B.block b c)⟩,M.Z2,M.df,M.j,λg cells H=>lk (M.G g cells H) (λ_ h=>h) q (λs l _ _ _ e=>by cases e),M.nw,G⟩;obtain⟨l,x,e,A,r,L,O,T,U,k⟩:=M.H.own s blk K;refine⟨l,x,e,A,r,c _ _ _ r L,O,T,U,?_⟩;have go:∀a v,av S w β a v->av S w' β a v:=λa v I=>lk I (λ_ h=>h) q (NJ c)
 cases blk with
 |box cells=>exact λj a f=>let ⟨bb,z,h4,h3⟩:=k j a f;⟨bb,z,h4,go _ _ h3⟩
 |arr rows rs=>exact⟨k.1,k.2.1,λi row j a f z=>let ⟨bb,h3,b4,h4⟩:=k.2.2 i row j a f z;⟨bb,h3,b4,lk h4 (λ_ h=>h) q (λs l _ _ _ e=>by cases e)⟩⟩
 |row cells=>exact⟨k.1,λj a f=>let ⟨bb,z,h4,h3⟩:=k.2 j a f;⟨bb,z,h4,go _ _ h3⟩⟩
theorem bt.inv{D:Nat->Prop}{t:Nat->AV}{h:AH}{a:Act}{w:World}{S:Nat->Prop}{β:Bt}(M:bt C V w0 S0 N D t h a w S β)(b:V'.p S w β):bt C V' w0 S0 N D t h a w S β:=⟨M.T,M.H,M.B,M.Z2,M.df,M.j,M.G,M.nw,b⟩
end
def Ba(S:Nat->Prop)(w:World)(β:Bt)(s:Nat):lg S w β s S w β:=
 ⟨λ_ h=>h,cp.refl _ _,aC _,λ_ _ _ h=>h,λx l h=>.inl ⟨x,l,h,R⟩,λ_ h=>.inl h,λ_ _ _=>rfl⟩
def RN{α:Type}(C:a5)(g:FuncId)(a:List AV)(encs:α->Array Value)(xs:List α):Prop:=
 ∀(R:Nat->Prop) (w:World) (c:List Value),(∀b,R b->b<w.heap.size)->j8 C R w->b6 R w cy a c->sw C.P g c.toArray encs xs R w
def mr(t:Nat->AV):List Nat->List AV->Nat->AV
 |p::a,x::xs=>mr (an t p x) a xs
 |_,_=>t
def VU(m n:Nat)(t:Nat->AV)(h:AH)(c:Prop)(K:c8->a4->Prop):c8->a4->Prop
 | .normal,st=>c/\he st λa=>∃σ,ef m σ n=true/\di a ⟨λ_=>.any,h,n⟩ σ
 | .ret,st=>he st λa=>∃h' b σ,ef m σ b=true/\hD h' b=true/\di a ⟨λ_=>.any,h',b⟩ σ/\K .ret ⟨t,h',b⟩
 | .exit _,_=>False
inductive nC(C:a5)(st:a4)(g:Operand)(ps:List Nat)(asg body:Code)(K:c8->a4->Prop):Prop
 | mk (α:Type) (gf:FuncId) (caps:List AV) (il:α->List AV) (encs:α->Array Value) (xs:List α) (NX:α->Prop) (m:Nat) (H:List α->AH) (nn:List α->Nat)
   (hg:bi C st.t g=.a gf [] caps) (hcl:eW caps=true) (hfn:∃ fn,C.P.funcs[gf]?=some fn/\fn.body.isSome=true/\(fn.name== "runtime.NumGoroutine")=false)
   (hit:RN C gf caps encs xs) (henc:∀x S w β,b6 S w β (il x) (encs x).toList) (hps:∀x,(il x).length=ps.length)
   (h0:H []=st.h) (n0:nn []=st.n) (hfull:∀pre,hD (H pre) (nn pre)=true) (ht:di st ⟨st.t,λ_=>none,m⟩ (λs=>s))
   (round:∀pre x,pre++[x] <+: xs->(∀y,y∈pre->NX y)->eA (C.at m) (bI (C.at m)) asg ⟨mr st.t ps (il x),H pre,nn pre⟩ (λe st1=>e=.normal/\eA (C.at m) (bI (C.at m)) body st1 (VU m (nn (pre++[x])) st.t (H (pre++[x])) (NX x) K)))
   (done:(∀y,y∈xs->NX y)->K .normal ⟨st.t,H xs,nn xs⟩):nC C st g ps asg body K
theorem NK{S:Nat->Prop}{w:World}{β:Bt}:∀(b:List Nat) (xs:List AV) (e:List Value) (t:Nat->AV) (c:Array Value),xs.length=e.length->b.length=xs.length->(∀p∈b,p<c.size)->
  (∀i,av S w β (t i) (c.getD i undef))->(∀(i:Nat) a u,xs[i]?=some a->e[i]?=some u->av S w β a u)->
  ∀i,av S w β (mr t b xs i) (((b.zip e).foldl (λt (p,v)=>t.setIfInBounds p v) c).getD i undef)
 |[],xs,e,t,c,_,_,_,f,_=>f
 |p::b,[],e,t,c,g,j,_,f,_=>by simp at j
 |p::b,x::xs,[],t,c,g,j,_,f,_=>by simp at g
 | p::b,x::xs,v::e,t,c,g,j,hp,f,r=>by
  show ∀i,av S w β (mr (an t p x) b xs i) (((b.zip e).foldl (λt (p,v)=>t.setIfInBounds p v) (c.setIfInBounds p v)).getD i undef);refine NK b xs e _ _ (sU g) (sU j) (λq z=>by rw[iV];exact hp q (bY _ z)) (λi=>?_) (λi a u A D=>r (i+1) a u (sU A) (sU D));by_cases k:i=p
  .subst k;have o:=hp i ce;rw[dB,aK,cZ o];exact r 0 x v R R
  .rw[cI _ _ k,aK,cY (Ne.symm k), <-aK];exact f i
theorem Bq:∀(a:List Nat) (c:List Value) (b:Array Value),((a.zip c).foldl (λt (p,v)=>t.setIfInBounds p v) b).size=b.size
 |[],_,_=>rfl
 |_::_,[],_=>rfl
 |p::a,v::c,b=>by
  show((a.zip c).foldl (λt (p,v)=>t.setIfInBounds p v) (b.setIfInBounds p v)).size=_;rw[Bq a c,iV]
def KP(a:Array Nat)(c:Array Value)(b:Array Value):(a.zip c).foldl (λt (p,v)=>t.setIfInBounds p v) b=(a.toList.zip c.toList).foldl (λt (p,v)=>t.setIfInBounds p v) b:=by
 rw[<-Array.foldl_toList,Array.toList_zip]
def S5:Option Nat->List Deferred
 |none=>[]
 |some D=>[{target:=.collected D,args:= #[]}]
@[reducible] def a5.wd(C:a5)(d:Option Nat):a5:={C with df:=S5 d}
def XP(d:Option Nat)(w0:World)(S:Nat->Prop)(β:Bt)(w:World):Prop:=
 ∀D,d=some D->w.heap[D]?=some (.deferred (some []))/\ ¬ie β D/\ ¬S D/\w0.heap.size<=D
def p0(C:a5)(w0:World)(S0:Nat->Prop)(N:Nat)(Q:Option Nat->c8->a4->Prop)(e:Exit)(a:Act)(w:World):Prop:=
 ∃d b st S β,e=Gq b/\Q d b st/\bt (C.wd d) (Inv.any C.fr) w0 S0 N (· <st.n) st.t st.h a w S β/\XP d w0 S β w
theorem KQ{P:Program}{f:FuncId}{a:Func}(g1:P.funcs[f]?=some a)(g2:a.body.isSome=true)(b:(a.name== "runtime.NumGoroutine")=false) (args:Array Value) (w:World):(callFunc f args).run P w=.ok (.enter f args) w:=by
 simp only[callFunc,Sem.run_bind,program,Sem.run,Result.andThen_ok,g1];have:a.body.isNone=false:=by cases c:a.body<;>simp_all
 simp[b,this]
section
variable {C:a5}{w0:World}{S0:Nat->Prop}{N:Nat}{Q:Option Nat->c8->a4->Prop}
def Me(hC:cb C)(aw:∀n,cb (C.at n))(aj:C.df=[]){st:a4}{g:Operand}{ps:Array Nat}{ai U:Code}(hp:ps.toList.all (λp=>Nat.blt p N)=true)(aV:oO N (λ_=>false) ai=true)(aW:oO N (λ_=>false) U=true)
  (R:nC C st g ps.toList ai U (λe ar=>∀D,Q (some D) e ar)) {a:Act} {w:World} {S:Nat->Prop} {β:Bt} (M:bt C (Inv.any C.fr) w0 S0 N (· <st.n) st.t st.h a w S β):
  (Code.rangeFunc g ps ai U).wp C.P (p0 C w0 S0 N Q) a w:=by
 obtain⟨α,gf,aA,il,encs,xs,NX,m,HH,nn,hg,aQ,⟨fn,f1,f2,f3⟩,aT,an,ay,aI,aK,ak,ht,round,done⟩:=R;have ao:=sY M g;rw[hg]at ao;have ax:∀{A:World} {j:Nat->Prop} {f:Bt} {t:Nat->AV} {h:AH} {n:Nat} {a:Act},hD h n=true->bt (C.at m) (Inv.any m) w0 S0 N (· <n) t h a A j f->∀x l,f x=some l->x<n∧w0.heap.size<=l.l∧l.l<A.heap.size∧ ¬j l.l:=λhf X x l hx=>by
  have hn:=X.Z2 x l hx;obtain⟨blk,aD⟩:=DQ.1 (uH hf x hn);obtain⟨l',cs,e,fr,z,E,G,O,k5,k6⟩:=X.H.own x blk aD;rw[hx]at z;cases z;exact⟨hn,O,fJ E,k5⟩
 have M0:bt (C.at m) (Inv.any m) w0 S0 N (· <nn []) st.t (HH []) a w S β:=by
  rw[aI,aK];exact⟨M.T,M.H,M.B,M.Z2,M.df,M.j,M.G,M.nw,trivial⟩
 have aq:=ax (ak []) M0;generalize aS:a.eval g=gv at ao
 cases ao with
 |a _ _ _ vs us K I h3 h4=>
 have aX:vs= #[]:=Array.eq_empty_of_size_eq_zero K.symm;subst aX;have au:b6 S w cy aA us.toList:=by
  refine⟨by rw[h3];simp,λi x a5 p q=>?_⟩;have:=h4 i x a5 p (by rw[<-bQ];exact q);exact mB this (fW _ aQ i x p) cy
 have aE:=aT S w us.toList M.H.lt M.G au
 let C1:(Nat->Prop)->List α->World->Prop:=λCC pre A=>(∀y,y∈pre->NX y)∧∃j f,bt (C.at m) (Inv.any m) w0 S0 N (· <nn pre) st.t (HH pre) a A j f∧(∀b,j b->b<w.heap.size∨CC b)∧(∀b,ie f b->CC b)∧(∀b,CC b->b<A.heap.size)
 let C2:(Nat->Prop)->List α->World->Prop:=λCC pre A=>∃j h' H f,(∀D,Q (some D) .ret ⟨st.t,h',H⟩)∧bt (C.at m) (Inv.any m) w0 S0 N (· <H) st.t h' a A j f∧(∀b,j b->b<w.heap.size∨CC b)∧(∀b,ie f b->CC b)∧(∀b,CC b->b<A.heap.size)
 let C3:(Nat->Prop)->List α->α->Act->World->Prop:=λCC pre x a1 B=>∃L T k A j f,(∀y,y∈pre->NX y)∧eA (C.at m) (bI (C.at m)) U L (VU m (nn (pre++[x])) st.t (HH (pre++[x])) (NX x) (λe ar=>∀D,Q (some D) e ar))∧
  bt (C.at m) (Inv.any m) w0 S0 N (· <L.n) L.t L.h a1 B T k∧(∀b,T b->b<w.heap.size∨CC b)∧(∀b,ie f b->CC b)∧(∀b,ie k b->CC b)∧
  (∀x l,x<m->f x=some l->k x=some l)∧
  bt (C.at m) (Inv.any m) w0 S0 N (· <nn pre) st.t (HH pre) a A j f∧(∀b,j b->T b)∧(∀b,j b->B.heap[b]?=A.heap[b]?)∧
  (∀s l cs e fr,f s=some l->A.heap[l.l]?=some (Obj.cells cs e fr)->∃aa:Array Value,B.heap[l.l]?=some (.cells aa e fr)∧aa.size=cs.size)∧w.heap.size<=B.heap.size
 have az:w0.heap.size<=w.heap.size:=M.B.size;have mv:∀{CC:Nat->Prop} {A B:World} {D:Nat->Prop} {t:Nat->AV} {h:AH} {a:Act} {j:Nat->Prop} {k:Bt},bt (C.at m) (Inv.any m) w0 S0 N D t h a A j k->(∀b,j b->b<w.heap.size∨CC b)->(∀b,ie k b->b<w.heap.size∨CC b)->w.heap.size<=A.heap.size->dy (λb=>b<w.heap.size∨CC b) A B->
   bt (C.at m) (Inv.any m) w0 S0 N D t h a B j k:=λX z E G r=>
  X.move (λb c=>r.block b (X.H.lt b c) (z b c)) (λs l o bb bd=>(r.block _ (fJ bd) (E _ ⟨s,l,bb,rfl⟩)).trans bd) r.os r.tape r.output r.size (λb c=>r.block b oT (.inl oT)) trivial
 refine Fx (gf:=gf) (lb:=us) aS (KQ f1 f2 f3) (sU aE) (dy.refl _ _) M.H.lt (λx=>by rw[<-cV, <-cV, <-ay x];exact((an x S w β).1).symm)
  (λCC pre A=>C1 CC pre A∧w.heap.size<=A.heap.size) (λCC pre A=>C2 CC pre A∧w.heap.size<=A.heap.size) C3 (ie β) (λb ⟨x,l,bb,bd⟩=>by have:=(aq x l bb).2.2.1;omega) (λb c ⟨x,l,bb,bd⟩=>by have:=(aq x l bb).2.2.2;rw[bd]at this;exact this c)
  ?_ ?_ ?_ ?_ ?_ ?_ ?_ ?_ ?_ ?_
 .rintro CC pre A B ⟨⟨Z,j,f,X,z,E,G⟩,O⟩ r;exact⟨⟨Z,j,f,mv X z (λb c=>.inr (E b c)) O r,z,E,λb c=>e5 (G b c) r.size⟩,aL O r.size⟩
 .rintro CC pre A B ⟨⟨j,h',H,f,q,X,z,E,G⟩,O⟩ r;exact⟨⟨j,h',H,f,q,mv X z (λb c=>.inr (E b c)) O r,z,E,λb c=>e5 (G b c) r.size⟩,aL O r.size⟩
 .rintro CC pre x a1 B B' ⟨L,T,k,A,j,f,Z,q,X,z,E,G,k5,XA,k6,k7,k8,k9⟩ r;refine⟨L,T,k,A,j,f,Z,q,mv X z (λb c=>.inr (G b c)) k9 r,z,E,G,k5,XA,k6,λb c=>(r.block b (X.H.lt b (k6 b c)) (z b (k6 b c))).trans (k7 b c),λs l cs e fr K I=>?_,aL k9 r.size⟩;obtain⟨aa,h5,h6⟩:=k8 s l cs e fr K I;exact⟨aa,(r.block _ (fJ h5) (.inr (E _ ⟨s,l,K,rfl⟩))).trans h5,h6⟩
 .rintro CC pre A ⟨⟨Z,j,f,X,z,E,G⟩,O⟩ b c;exact G b c
 .rintro CC pre A ⟨⟨j,h',H,f,q,X,z,E,G⟩,O⟩ b c;exact G b c
 .refine⟨⟨(λy hy=>by cases hy),S,β,M0,λb c=>.inl (M.H.lt b c),λb c=>c,λb ⟨x,l,bb,bd⟩=>by have:=(aq x l bb).2.2.1;omega⟩,aC _⟩
 ·
  rintro l CC pre x A ⟨⟨Z,j,f,X,z,E,G⟩,O⟩ ag _;have X0:bt (C.at m) (Gf j A f m) w0 S0 N (· <nn pre) (mr st.t ps.toList (il x)) (HH pre) {tmps:=(ps.zip (encs x)).foldl (λt (p,v)=>t.setIfInBounds p v) a.tmps,defers:=[]} A j f:=by
   refine⟨λi=>?_,X.H,X.B,X.Z2,aj.symm,?_,X.G,X.nw,Ba _ _ _ _⟩
   .rw[KP];have aR:=an x j A f;exact NK _ _ _ _ _ aR.1 (ay x).symm (λp hq=>by rw[X.j];exact aJ (rC.1 hp p hq)) X.T aR.2 i
   .show((ps.zip (encs x)).foldl (λt (p,v)=>t.setIfInBounds p v) a.tmps).size=N;rw[KP,Bq];exact X.j
  refine wpIn_mono (BI (C:=C.at m) (a0:={tmps:=(ps.zip (encs x)).foldl (λt (p,v)=>t.setIfInBounds p v) a.tmps,defers:=[]}) (KR C.P l) (aw m) ai aV ⟨_,HH pre,nn pre⟩ _ (round pre x ag Z) _ A j f X0 (g'.refl _ _)) ?_;rintro e a1 B ⟨e',L,T,k,rfl,⟨rfl,c⟩,X1, -⟩;have P:lg j A f m T B k:=X1.iv;refine⟨λb=>CC b∨ie k b∨(A.heap.size<=b∧b<B.heap.size),⟨L,T,k,A,j,f,Z,c,X1.inv trivial,λb c=>?_,λb c=>.inl (E b c),λb c=>.inr (.inl c),λy l K I=>P.Zs y l K I,X,P.hS,λb c=>P.hE.ZK b c,λs l cs e fr K I=>P.hE.shape _ _ _ _ I,aL O P.j⟩,
   ⟨X1.B.os.trans X.B.os.symm,X1.B.tape.trans X.B.tape.symm,X1.B.output.trans X.B.output.symm,P.j,λb c hn=>P.still b c λh=>hn (E b h)⟩,λb c=>?_⟩
  .rcases P.nw b c with h|h|h
   .exact(z b h).imp id .inl
   .exact .inr (.inr (.inr ⟨h,X1.H.lt b c⟩))
   .exact .inr (.inl (E b h))
  .rcases c with h|⟨y,l,K,I⟩|h
   .exact .inl h
   .rcases P.own y l K with h|h
    .exact .inl (E b (I ▸ h))
    .exact .inr (I ▸ h)
   .exact .inr h.1
 ·
  rintro l CC pre x a1 A1 ⟨L,T,k,A,j,f,Z,q,X,z,E,G,k5,XA,k6,k7,k8,k9⟩ ag _;refine wpIn_mono (BI (C:=C.at m) (V:=Gf T A1 k m) (a0:=a1) (KR C.P l) (aw m) U aW L _ q a1 A1 T k (X.inv (Ba _ _ _ _)) (g'.refl _ _)) ?_;rintro e a2 B ⟨e',aZ,S2,a3,rfl,hq,X2, -⟩;have av:∀(h':AH) (H:Nat),hD h' H=true->(he aZ λal=>∃σ,ef m σ H=true∧di al ⟨λ_=>.any,h',H⟩ σ)->∃S3 u,bt (C.at m) (Inv.any m) w0 S0 N (· <H) st.t h' a B S3 u∧(∀b,S3 b->b<w.heap.size∨(b<B.heap.size∧(CC b∨A1.heap.size<=b)))∧(∀b,ie u b->b<B.heap.size∧(CC b∨A1.heap.size<=b))∧dy (λb=> ¬CC b) A1 B:=by
   rintro h' H hf ⟨al,ap,σ,hk,hW⟩;obtain⟨S3,X3⟩:=nK ap X2;have X4:=pK hW hk X3;have P:lg T A1 k m S3 B _:=X4.iv;have Y:bt (C.at m) (Inv.any m) w0 S0 N (· <H) st.t h' a B S3 (λs=>if s<H then a3 (σ s)else none):=by
    refine⟨λi=>?_,X4.H,X4.B,X4.Z2,aj.symm ▸ XA.df,XA.j,X4.G,X4.nw,trivial⟩;rcases ht.t i with h|⟨h,c⟩
    .rw[show st.t i=.any from h];exact .any _
    .have I:=XA.T i;rw[h]at I;have h4:=lk (Bv (n:=m) _ _ _ (aC _) c I) (λb c=>P.hS b (k6 b c)) (λb c=>(P.hE.ZK b (k6 b c)).trans (k7 b c)) λs l cs e fr K I=>by
      split at K
      .obtain⟨aa,h3,h4⟩:=k8 s l cs e fr K I;obtain⟨aF,h5,h6⟩:=P.hE.shape _ _ _ _ h3;exact⟨aF,h5,h6.trans h4⟩
      .cases K
     refine h4.mono (λ_ h=>h) (cp.refl _ _) λs l r=>?_;dsimp only at r;split at r
     .rename_i hm;exact P.Zs s l hm (k5 s l hm r)
     .cases r
   refine⟨S3,_,Y,λb c=>?_,λb ⟨y,l,K,I⟩=>⟨oH ((ax hf Y y l K).2.2.1),?_⟩,⟨X4.B.os.trans X.B.os.symm,X4.B.tape.trans X.B.tape.symm,X4.B.output.trans X.B.output.symm,P.j,λb c hn=>P.still b c λh=>hn (G b h)⟩⟩
   .rcases P.nw b c with h|h|h
    .exact(z b h).imp id λh=>⟨Y.H.lt b c,.inl h⟩
    .exact .inr ⟨Y.H.lt b c,.inr h⟩
    .exact .inr ⟨Y.H.lt b c,.inl (G b h)⟩
   .rcases P.own y l K with h|h
    .exact .inl (G b (I ▸ h))
    .exact .inr (I ▸ h)
  cases e' with
  |exit i=>exact hq.elim
  |normal=>
   obtain⟨aO,hq⟩:=hq;obtain⟨S3,u,Y,j1,j3,j2⟩:=av _ _ (ak _) hq;have aN:∀y,y∈pre++[x]->NX y:=λy hy=>(dz.1 hy).elim (Z y) λh=>uJ.1 h ▸ aO
   exact⟨λb=>b<B.heap.size∧(CC b∨A1.heap.size<=b),j2,λb c=>c.2,.inl ⟨rfl,⟨aN,S3,u,Y,j1,j3,λb c=>c.1⟩,aL k9 j2.size⟩⟩
  |ret=>
   obtain⟨al,ap,h',H,σ,hk,hf,hW,hK⟩:=hq;obtain⟨S3,u,Y,j1,j3,j2⟩:=av h' H hf ⟨al,ap,σ,hk,hW⟩;exact⟨λb=>b<B.heap.size∧(CC b∨A1.heap.size<=b),j2,λb c=>c.2,.inr ⟨rfl,⟨S3,h',H,u,hK,Y,j1,j3,λb c=>c.1⟩,aL k9 j2.size⟩⟩
 .rintro D CC W aB ⟨⟨Z,j,f,X,z,E,G⟩,O⟩ ab hW;refine⟨some D,.normal,_,j,f,rfl,done Z D,⟨X.T,X.H,X.B,X.Z2,?_,X.j,X.G,X.nw,trivial⟩,λD' am=>?_⟩
  .show _::a.defers=_;rw[show a.defers=[]from X.df.trans aj];rfl
  .cases am;exact⟨hW,λh=>ab (E _ h),λh=>(z _ h).elim (λh=>by omega) ab,aL az aB⟩
 .rintro D CC pre W aB ag ⟨⟨j,h',H,f,hK,X,z,E,G⟩,O⟩ ab hW;refine⟨some D,.ret,⟨st.t,h',H⟩,j,f,rfl,hK D,⟨X.T,X.H,X.B,X.Z2,?_,X.j,X.G,X.nw,trivial⟩,λD' am=>?_⟩
  .show _::a.defers=_;rw[show a.defers=[]from X.df.trans aj];rfl
  .cases am;exact⟨hW,λh=>ab (E _ h),λh=>(z _ h).elim (λh=>by omega) ab,aL az aB⟩
def wI(N:Nat):Code->Bool
 | .seq a b=>wI N a&&wI N b
 | .cond _ a b=>wI N a&&wI N b
 | .block _ b=>wI N b
 | .scope b=>wI N b
 | .rangeFunc _ e a b=>e.toList.all (λp=>Nat.blt p N)&&(oO N (λ_=>false) a&&oO N (λ_=>false) b)
 |c=>rU N c
def wJ(C:a5):Code->Option Nat->a4->(Option Nat->c8->a4->Prop)->Prop
 | .seq a b,d,st,Q=>wJ C a d st (λj e f=>match e with| .normal=>wJ C b j f Q|e=>Q j e f)
 | .cond c x y,d,st,Q=>match bi C st.t c with| .v (.bool b)=>np b (wJ C x d st Q) (wJ C y d st Q)|_=>False
 | .block id b,d,st,Q=>wJ C b d st (λj e f=>match e with| .exit i=>(match Nat.beq i id with|true=>Q j .normal f|false=>Q j (.exit i) f)|e=>Q j e f)
 | .scope b,d,st,Q=>wJ C b d st Q
 | .rangeFunc g p a b,d,st,Q=>d=none/\he st λo=>∃k σ,di o k σ/\ef C.fr σ k.n=true/\nC C k g p.toList a b (λe f=>∀D,Q (some D) e f)
 |c,d,st,Q=>eA (C.wd d) (bI (C.wd d)) c st (Q d)
def Mf(Y:∀d,cb (C.wd d))(Z:∀n,cb (C.at n))(K:C.df=[]):∀(c:Code),wI N c=true->∀(d:Option Nat) (st:a4) (Q:Option Nat->c8->a4->Prop),wJ C c d st Q->
  ∀(a:Act) (w:World) (S:Nat->Prop) (β:Bt),bt (C.wd d) (Inv.any C.fr) w0 S0 N (· <st.n) st.t st.h a w S β->XP d w0 S β w->c.wp C.P (p0 C w0 S0 N Q) a w:=by
 have base:∀(c:Code),rU N c=true->∀(d:Option Nat) (st:a4) (Q:Option Nat->c8->a4->Prop),eA (C.wd d) (bI (C.wd d)) c st (Q d)->
  ∀(a:Act) (w:World) (S:Nat->Prop) (β:Bt),bt (C.wd d) (Inv.any C.fr) w0 S0 N (· <st.n) st.t st.h a w S β->XP d w0 S β w->c.wp C.P (p0 C w0 S0 N Q) a w:=by
  intro c k d st Q o a w S β M u;refine wp_mono (CM (C:=C.wd d) (V:=Gf S w β C.fr) (Y d) c k st _ o a w S β (M.inv (Ba _ _ _ _))) ?_;rintro e I w' ⟨E,j,p,f,rfl,q,X⟩;have P:lg S w β C.fr p w' f:=X.iv;refine⟨d,E,j,p,f,R,q,X.inv tr,λD hD=>?_⟩;obtain⟨k1,U,k3,k4⟩:=u D hD;have ag:=fJ k1;refine⟨(P.still D ag U).trans k1,λ⟨x,l,bd,bb⟩=>?_,λh=>?_,k4⟩
  .rcases P.own x l bd with h|h
   .exact U (bb ▸ h)
   .rw[bb]at h;omega
  .rcases P.nw D h with h|h|h
   .exact k3 h
   .omega
   .exact U h
 intro c
 induction c with
 |seq x y G H=>
  intro k d st Q o a w S β M u;simp only[wI,aP]at k;refine wp_seq (wp_mono (G k.1 d st _ o a w S β M u) ?_);rintro e I w' ⟨r,E,j,p,f,rfl,q,v,A⟩
  cases E with
  |normal=>exact H k.2 r j Q q I w' p f v A
  |exit i=>exact⟨r,.exit i,j,p,f,R,q,v,A⟩
  |ret=>exact⟨r,.ret,j,p,f,R,q,v,A⟩
 | cond c x y G H=>
  intro k d st Q o a w S β M u;simp only[wI,aP]at k;simp only[wJ]at o;split at o
  .rename_i b hb;obtain⟨q,v⟩:=o;have hv:=sY M c;rw[show bi (C.wd d) st.t c=bi C st.t c from R,hb]at hv;exact wp_cond_split (lV hv) (λht=>G k.1 d st Q (q ht) a w S β M u) (λO=>H k.2 d st Q (v O) a w S β M u)
  .exact o.elim
 | block id b ih=>
  intro k d st Q o a w S β M u;refine wp_block (wp_mono (ih k d st _ o a w S β M u) ?_);rintro e I w' ⟨r,E,j,p,f,rfl,q,v,A⟩
  cases E with
  |normal=>exact⟨r,.normal,j,p,f,R,q,v,A⟩
  |ret=>exact⟨r,.ret,j,p,f,R,q,v,A⟩
  | exit i=>
   show Exit.inBlock id _ (.exit i) I w';simp only at q;simp only[Exit.inBlock];by_cases T:i=id
   .subst T;rw[aa R];rw[show Nat.beq i i=true from nG i]at q;exact⟨r,.normal,j,p,f,R,q,v,A⟩
   .rw[dZ T];have:Nat.beq i id=false:=by rw[<-eJ];exact λe=>T (aO e)
    rw[this]at q
    exact⟨r,.exit i,j,p,f,R,q,v,A⟩
 |scope b ih=>
  intro k d st Q o a w S β M u;refine wp_scope_straight (wp_mono (ih k d st _ o a w S β M u) ?_);rintro e I w' ⟨r,E,j,p,f,rfl,h⟩
  cases E with
  |normal=>exact⟨r,.normal,j,p,f,R,h⟩
  |ret=>exact⟨r,.ret,j,p,f,R,h⟩
  |exit i=>exact⟨r,.exit i,j,p,f,R,h⟩
 |rangeFunc g b4 x y G H=>
  intro k d st Q o a w S β M u;simp only[wI,aP]at k;obtain⟨rfl,ai,ab,aj,σ,hW,O,hR⟩:=o;obtain⟨S2,M2⟩:=nK ab M;have z:=pK (C:=C.wd none) hW O M2;have L:=Y none
  exact Me (C:=C) ⟨L.ty,L.mixed,L.hH⟩ Z K k.1 k.2.1 k.2.2 hR ⟨z.T,z.H,z.B,z.Z2,z.df.trans K.symm,z.j,z.G,z.nw,tr⟩
 |_=>intro k d st Q o;exact base _ k d st Q o
theorem bI.Zh(Z:∀ d,cb (C.wd d))(q:∀ n,cb (C.at n)){f:FuncId}{c:Func}{j:Code}{args:List AV}{r:AV}(hf:C.P.funcs[f]?=some c)(g:c.body=some j)(ag:(c.name== "runtime.NumGoroutine")=false)
  (hN:wI c.ntmps j=true) (I:Nat.ble args.length c.ntmps=true) (hw:wJ C j none ⟨gj args,λ_=>none,0⟩ (λd=>Fin (C.wd d) c r)) (aa:C.df=[]:=by rfl):bI C f args r:=by
 refine⟨⟨c,hf,by rw[g];rfl,ag⟩,λS w k hS hG G=>?_⟩;have I:=aJ I;refine callsIn_wide.1 (callsIn_of_wp_marks (n:=3) hf g tr ((wpIn_wide (n:=3)).2 ?_));have M0:bt (C.wd none) (Inv.any C.fr) w S c.ntmps (· <(0:Nat)) (gj args) (λ_=>none) {tmps:=k.toArray++Array.replicate (c.ntmps-k.toArray.size) undef,defers:=[]} w S cy:=by
  have hl:k.length=args.length:=G.1.symm;refine⟨λi=>?_,⟨λs blk h=>(by cases h),λs s' l l' h=>absurd R h,hS,aC _⟩,Below.refl _ _,λx l h=>(by cases h),R,by simp;omega,hG,λ_ h=>.inl h,tr⟩;rw[mv]
  cases ha:args[i]? with
  |none=>exact .any _
  | some x=>
   have hi:i<k.length:=by rw[hl];exact(Em.1 ha).1
   have hv:k[i]?=some k[i]:=aA hi;have:(k.toArray++Array.replicate (c.ntmps-k.toArray.size) undef).getD i undef=k[i]:=by
    rw[aK,dS (sU hi),eM,hv];rfl
   rw[this];exact G.2 i x _ ha hv
 refine wp_mono (Mf (C:=C) Z q aa j hN none ⟨gj args,λ_=>none,0⟩ _ hw _ w S cy M0 (λbb h=>by cases h)) ?_;rintro e H w' ⟨d,e',st,Y,L,rfl,E,M,O⟩;have K:ST (C.wd d) c r st->∀A:World,bt (C.wd d) (Inv.any C.fr) w S c.ntmps (· <st.n) st.t st.h H A Y L->∃v,(results c H.tmps).run C.P A=.ok v A/\∃v',Ending.returned v=.returned v'/\Below w.heap.size w A/\av (λb=>S b\/(w.heap.size<=b/\b<A.heap.size)) A cy r v':=by
  rintro⟨rs,h1,h2,h3,h4⟩ A M;obtain⟨t,h,n⟩:=st;obtain⟨z,g1,g2⟩:=JA (Z d) M _ rs h1;refine⟨_,yO _ z g1 c R,_,R,M.B,?_⟩;have X:av Y A L (Dp rs) (if h:z.toArray.size=1 then z.toArray[0]else .tuple z.toArray):=by
   match rs,z,g2 with
   |[],z,g2=>
    have:z=[]:=gq g2.1.symm;subst this
    exact .F [] #[] R λi a b4 p=>by simp at p
   |[x],z,g2=>
    match z,g2 with
    |[b4],g2=>simpa [Dp]using g2.2 0 x b4 R R
    |[],g2=>exact absurd g2.1 (by simp)
    |_::_::_,g2=>exact absurd g2.1 (by simp)
   | x::y::cs,z,g2=>
    have ab: ¬z.toArray.size=1:=by
     have:=g2.1;simp at this⊢;omega
    rw[dif_neg ab];exact .F _ _ (sU g2.1) λi a b4 p ai=>g2.2 i a b4 p (sU ai)
  have O:=BO M.H X h2;refine h4 _ _ _ ?_;exact(mB O h3 cy).mono (λb g=>g.elim (λg=>(M.nw b g).imp id λh=>⟨h,M.H.lt b g⟩) .inr) (cp.refl _ _) (ME.refl _)
 have go:ST (C.wd d) c r st->LeavesInM Fence.wide 3 C.P c H.tmps (λe w'=>∃v,e=.returned v/\Below w.heap.size w w'/\av (λb=>S b\/(w.heap.size<=b/\b<w'.heap.size)) w' cy r v) H.defers .returning w':=by
  intro hr;have T:H.defers=S5 d:=M.df;rw[T]
  cases d with
  |none=>exact K hr w' M
  |some bb=>
   obtain⟨k1,k2,k3,k4⟩:=O bb R;refine⟨by simp,.inl ⟨bb,_,R,run_takeDeferred k1,K hr _ ?_⟩⟩;have U:∀b,b≠bb->(w'.putObj bb (.deferred none)).heap[b]?=w'.heap[b]? :=λb g=>World.putObj_heap_other g;exact M.move (λb g=>U b λe=>k3 (e ▸ g)) (λs l o q1 q2=>(U _ λe=>k2 ⟨s,l,q1,e⟩).trans q2) R R R (by simp) (λb g=>U b oT) tr
 cases e' with
 |normal=>exact go E
 |ret=>exact go E
 |exit i=>exact E.elim
end
section
variable {α:Type}
inductive r'(C:a5)(y:Value)(encs:α->Array Value)(xs:List α)(ops:List Oper)(st:a4)(pre:List α)(K:a4->List α->Bool->Prop):Prop
 | mk (k:Nat) (o:Oper) (f:Operand) (args:Array Operand) (ats:Array TypeId) (rest:List Oper) (hd:ops.drop k=o::rest) (ho:o.op=.call {callee:=.value f,args:=args,argTypes:=ats}) (hg:o.guard=none)
   (hr:jS C.ZZ (bI C.ZZ) ops (ops.take k) 0 st λst1=>∃x vs stw σ,di st1 stw σ/\ef C.fr σ stw.n=true/\hD stw.h stw.n=true/\Nat.ble stw.n st.n=true/\bi C stw.t f=.v y/\Ju (args.toList.map (bi C stw.t))=some vs/\encs x=vs.toArray/\pre++[x] <+: xs/\
    ∀b:Bool,jS C.ZZ (bI C.ZZ) ops rest (k+1) ⟨Aa stw.t o.dst (.v (.bool b)),stw.h,st.n⟩ (λst2=>K st2 (pre++[x]) (!b))):r' C y encs xs ops st pre K
inductive r6(fr:Nat)(body:a4->List α->(c8->a4->List α->Bool->Prop)->Prop)(st:a4)(pre:List α)(Q:c8->a4->List α->Bool->Prop):Prop
 | mk (κ:Type) (S:κ->a4) (pr:κ->List α) (G:κ->Prop) (μ:κ->Nat) (k0:κ) (σ:Nat->Nat) (hw:di st (S k0) σ) (hf:ef fr σ (S k0).n=true) (hp:pr k0=pre) (h0:G k0)
   (round:∀k,G k->body (S k) (pr k) (λe st' p' s'=>match e with| .normal=>s'=false/\∃k' σ',di st' (S k') σ'/\ef fr σ' (S k').n=true/\pr k'=p'/\G k'/\μ k'<μ k|e=>Q e st' p' s')):r6 fr body st pre Q
def gu(C:a5)(y:Value)(encs:α->Array Value)(xs:List α):Code->a4->List α->Bool->(c8->a4->List α->Bool->Prop)->Prop
 | .seq a b,st,pre,s,Q=>gu C y encs xs a st pre s (λe f g j=>match e with| .normal=>gu C y encs xs b f g j Q|e=>Q e f g j)
 | .cond c a b,st,pre,s,Q=>match bi C st.t c with| .v (.bool t)=>np t (gu C y encs xs a st pre s Q) (gu C y encs xs b st pre s Q)|_=>False
 | .block id b,st,pre,s,Q=>gu C y encs xs b st pre s (λe f g j=>match e with| .exit i=>(match Nat.beq i id with|true=>Q .normal f g j|false=>Q (.exit i) f g j)|e=>Q e f g j)
 | .loop b,st,pre,s,Q=>s=false/\r6 C.fr (λst p Q=>gu C y encs xs b st p false Q) st pre Q
 | .region id ops dr,st,pre,s,Q=>eA C (bI C) (.region id ops dr) st (λe f=>Q e f pre s)\/(dr=false/\s=false/\r' C y encs xs ops.toList st pre (λf g j=>Q .normal f g j))
 |c,st,pre,s,Q=>eA C (bI C) c st (λe f=>Q e f pre s)
def wG(N:Nat):Code->Bool
 | .seq a b=>wG N a&&wG N b
 | .cond _ a b=>wG N a&&wG N b
 | .block _ b=>wG N b
 | .loop b=>wG N b
 |c=>oO N (λ_=>false) c
end
def Pf{F:Fence}{n:Nat}{P:Program}{Q:Exit->Act->World->Prop}{a:Act}{w:World}{c:Code}(I:Nat->Act->World->Prop)(m:Nat)(r:I m a w)
  (round:∀m a w,I m a w->c.wpIn F n P (Exit.then (λk w'=>∃b,b<m/\I b k w') Q) a w):(Code.loop c).wpIn F n P Q a w:=by
 classical
 have i:∀(n:Nat) (a:Act) (w:World),(∃m,m<=n/\I m a w)->∃m,I m a w/\∀b,I b a w->m<=b:=by
  intro n
  induction n with
  |zero=>rintro a w ⟨m,p,f⟩;exact⟨m,f,λb _=>by omega⟩
  |succ n ih=>
   rintro a w ⟨m,p,f⟩;by_cases q:∃b,b<=n/\I b a w
   .exact ih a w q
   .exact⟨m,f,λb h'=>Nat.le_of_not_lt λh=>q ⟨b,oT,h'⟩⟩
 have o:∀a w,(∃m,I m a w)->∃m,I m a w/\∀b,I b a w->m<=b:=λa w ⟨m,h⟩=>i m a w ⟨m,aC _,h⟩
 let g:Act->World->Nat:=λa w=>if h:∃m,I m a w then Classical.choose (o a w h)else 0
 have j:∀a w,(∃m,I m a w)->I (g a w) a w/\∀b,I b a w->g a w<=b:=λa w h=>by
  have e:g a w=Classical.choose (o a w h):=dif_pos h;rw[e];exact nE (o a w h)
 refine wpIn_loop (λa w=>∃m,I m a w) g ⟨m,r⟩ λa w h=>wpIn_mono (round (g a w) a w (j a w h).1) ?_;intro e k w' h';cases e<;>try exact h'
 obtain⟨b,p,f⟩:=h';exact⟨⟨b,f⟩,bL ((j k w' ⟨b,f⟩).2 b f) p⟩
section
variable {α:Type}{C:a5}{J:Bool->(Nat->Prop)->List α->World->Prop}{W:World}{xs:List α}{encs:α->Array Value}{N l:Nat}
def jy(C:a5)(J:Bool->(Nat->Prop)->List α->World->Prop)(W:World)(xs:List α)(N:Nat)(st:a4)(pre:List α)(s:Bool)(a:Act)(A:World):Prop:=
 ∃CC S β,J s CC pre A/\pre <+: xs/\W.heap.size<=A.heap.size/\bt C (Inv.any C.fr) {W with heap:= #[]} (λ_=>True) N (· <st.n) st.t st.h a A S β/\(∀b,S b-> ¬CC b)/\(∀b,ie β b-> ¬CC b/\W.heap.size<=b)
theorem jy.step(u:∀s C pre A B,J s C pre A->dy (λb=>b<W.heap.size\/C b) A B->J s C pre B)(g:∀s C pre A,J s C pre A->∀b,C b->b<A.heap.size)
  {CC:Nat->Prop} {pre:List α} {s:Bool} {w0:World} {S0:Nat->Prop} {D:Nat->Prop} {t:Nat->AV} {h:AH} {a:Act} {A c:World} {S p:Nat->Prop} {β i:Bt} {V:Inv C.fr}
  (j:J s CC pre A) (hp:pre <+: xs) (r:W.heap.size<=A.heap.size) (E:∀b,S b-> ¬CC b) (f:∀b,ie β b-> ¬CC b/\W.heap.size<=b) (M:bt C V w0 S0 N D t h a A S β) (P:lg S A β C.fr p c i) (k:c.os=A.os/\c.tape=A.tape/\c.output=A.output):
  J s CC pre c/\W.heap.size<=c.heap.size/\(∀b,p b-> ¬CC b)/\(∀b,ie i b-> ¬CC b/\W.heap.size<=b):=by
 refine⟨u s CC pre A c j ⟨k.1,k.2.1,k.2.2,P.j,λb o v=>P.still b o λq=>v.elim (λh=>by have:=(f b q).2;omega) (f b q).1⟩,aL r P.j,λb o e=>?_,λb ⟨x,l,z,h2⟩=>?_⟩
 .rcases P.nw b o with h|h|h
  .exact E b h e
  .have:=g s CC pre A j b e;omega
  exact(f b h).1 e
 subst h2;rcases P.own x l z with h|h
 .exact f _ h
 exact⟨λe=>by have:=g s CC pre A j _ e;omega,aL r h⟩
def tW(C:a5)(J:Bool->(Nat->Prop)->List α->World->Prop)(W:World)(xs:List α)(N:Nat)(Q:c8->a4->List α->Bool->Prop)(e:Exit)(a:Act)(A:World):Prop:=∃b st pre s,e=Gq b/\Q b st pre s/\jy C J W xs N st pre s a A
def Mc(hC:cb C)(hJ:∀s C pre A B,J s C pre A->dy (λb=>b<W.heap.size\/C b) A B->J s C pre B)(G:∀s C pre A,J s C pre A->∀b,C b->b<A.heap.size)
  (hY:∀CC pre x A,J false CC pre A->pre++[x] <+: xs->YieldAt Fence.wide 1 C.P l (encs x) A λe B=>∃b,e=.returned (.bool b)/\∃C',J (!b) C' (pre++[x]) B/\dy (λb=> ¬CC b) A B/\(∀b,C' b->CC b\/A.heap.size<=b)):
  ∀(c:Code),wG N c=true->∀(st:a4) (pre:List α) (s:Bool) (Q:c8->a4->List α->Bool->Prop),gu C (.func (.yield l) #[] #[]) encs xs c st pre s Q->∀(a:Act) (A:World),jy C J W xs N st pre s a A->c.wpIn Fence.wide 2 C.P (tW C J W xs N Q) a A:=by
 have base:∀(c:Code),oO N (λ_=>false) c=true->∀(st:a4) (pre:List α) (s:Bool) (Q:c8->a4->List α->Bool->Prop),eA C (bI C) c st (λe r=>Q e r pre s)->∀(a:Act) (A:World),jy C J W xs N st pre s a A->c.wpIn Fence.wide 2 C.P (tW C J W xs N Q) a A:=by
  rintro c v st pre s Q D a A ⟨CC,S,β,j,hp,hs,M,k1,k2⟩;refine wpIn_mono (BI (V:=Gf S A β C.fr) (Eg C.P) hC c v st _ D a A S β (M.inv (Ba _ _ _ _)) (g'.refl _ _)) ?_;rintro e a' A' ⟨e',r,S',aF,rfl,g,M', -⟩;obtain⟨g1,g2,g3,g4⟩:=jy.step hJ G j hp hs k1 k2 M M'.iv ⟨M'.B.os.trans M.B.os.symm,M'.B.tape.trans M.B.tape.symm,M'.B.output.trans M.B.output.symm⟩;exact⟨e',r,pre,s,R,g,CC,S',aF,g1,hp,g2,M'.inv tr,g3,g4⟩
 intro c
 induction c with
 |seq x y bb bd=>
  intro v st pre s Q D a A M;simp only[wG,aP]at v;refine wpIn_seq (wpIn_mono (bb v.1 st pre s _ D a A M) ?_);rintro e a' w' ⟨e',r,T,U,rfl,g,I⟩
  cases e' with
  |normal=>exact bd v.2 r T U Q g a' w' I
  |exit i=>exact⟨.exit i,r,T,U,R,g,I⟩
  |ret=>exact⟨.ret,r,T,U,R,g,I⟩
 | cond c x y bb bd=>
  intro v st pre s Q D a A M;simp only[wG,aP]at v;simp only[gu]at D;split at D
  .rename_i b K;obtain⟨g,I⟩:=D;have Y:=M;obtain⟨CC,S,β,j,hp,hs,L,k1,k2⟩:=Y;have hv:=sY L c;rw[K]at hv;exact wpIn_cond_split (lV hv) (λht=>bb v.1 st pre s Q (g ht) a A M) (λhf=>bd v.2 st pre s Q (I hf) a A M)
  .exact D.elim
 | block id b ih=>
  intro v st pre s Q D a A M;refine wpIn_block (wpIn_mono (ih v st pre s _ D a A M) ?_);rintro e a' w' ⟨e',r,T,U,rfl,g,I⟩
  cases e' with
  |normal=>exact⟨.normal,r,T,U,R,g,I⟩
  |ret=>exact⟨.ret,r,T,U,R,g,I⟩
  | exit i=>
   show Exit.inBlock id _ (.exit i) a' w';simp only at g;simp only[Exit.inBlock];by_cases hi:i=id
   .subst hi;rw[aa R];rw[show Nat.beq i i=true from nG i]at g;exact⟨.normal,r,T,U,R,g,I⟩
   .rw[dZ hi];have:Nat.beq i id=false:=by rw[<-eJ];exact λe=>hi (aO e)
    rw[this]at g
    exact⟨.exit i,r,T,U,R,g,I⟩
 | loop b ih=>
  intro v st pre s Q D a A M;obtain⟨rfl,hL⟩:=D;obtain⟨κ,S,pr,aS,μ,k0,σ,hw,hf,rfl,h0,round⟩:=hL;have aj:∀{st r:a4} {σ:Nat->Nat} {p:List α} {a:Act} {A:World},di st r σ->ef C.fr σ r.n=true->jy C J W xs N st p false a A->jy C J W xs N r p false a A:=by
   rintro st r σ p a A hw hf ⟨CC,S,β,j,hp,hs,L,k1,k2⟩;refine⟨CC,S,_,j,hp,hs,pK hw hf L,k1,λb ⟨x,l,g,I⟩=>?_⟩;simp only at g;split at g
   .exact k2 b ⟨_,l,g,I⟩
   .cases g
  refine Pf (λm a A=>∃k,μ k=m/\aS k/\jy C J W xs N (S k) (pr k) false a A) (μ k0) ⟨k0,R,h0,aj hw hf M⟩ ?_;rintro m a A ⟨k,rfl,hG,M⟩;refine wpIn_mono (ih v _ _ _ _ (round k hG) a A M) ?_;rintro e a' w' ⟨e',r,T,U,rfl,g,I⟩
  cases e' with
  |normal=>
   obtain⟨rfl,k',aR,g1,g2,rfl,g4,g5⟩:=g
   exact⟨μ k',g5,k',R,g4,aj g1 g2 I⟩
  |exit i=>exact⟨.exit i,r,T,U,R,g,I⟩
  |ret=>exact⟨.ret,r,T,U,R,g,I⟩
 | region id ops dr=>
  intro v st pre s Q D a A M;rcases D with D|⟨rfl,rfl,D⟩
  .exact base _ v st pre s Q D a A M
  obtain⟨k,o,f,args,aN,rest,hd,ho,hg,hr⟩:=D;obtain⟨CC,S,β,j,hp,hs,M,k1,k2⟩:=M;obtain⟨t,h,n⟩:=st;simp only[wG,oO,aP]at v;have q:ops.toList[k]?=some o:=by
   have:(ops.toList.drop k)[0]?=some o:=by rw[hd];rfl
   simpa using this
  have ay:ops[k]?=some o:=by rw[<-q,bQ]
  have z:k<ops.toList.length:=(Em.1 q).1;have aA:ops.size=k+(1+rest.length):=by
   have:=am List.length hd;simp at this;simp at z;omega
  have an:ops.toList.drop (k+1)=rest++[]:=by rw[<-lH,hd];simp
  have aC:(ops.toList.take k).length=k:=by simp at z⊢;omega
  have ai:List.range ops.size=List.range' 0 (ops.toList.take k).length++(k::(List.range' (k+1) rest.length++[])):=by
   rw[nZ,aA,aC,dY, <-List.range'_append_1,bJ,gJ 1,nX]
  refine wpIn_region ?_;rw[ai];refine BJ (C:=C.ZZ) (V:=Gf S A β C.fr) (kp:=λ_=>false) (a0:=a) (Eg C.P) hC.ZZ (λ_ _ _ _ _ h=>h) R v.1 v.2 _ (ops.toList.take k) 0 t h a A S β ⟨ops.toList.drop k,by simp⟩ hr ((M.inv (Ba _ _ _ _)).ZZ) (g'.refl _ _) ?_;rintro aQ a1 A1 Z ap ⟨x,vs,H,σ,hW,ax,al,ab,hf,aD,ar,ag,K⟩ Y -;obtain⟨g1,g2,g3,g4⟩:=jy.step hJ G j hp hs k1 k2 M Y.iv ⟨Y.B.os.trans M.B.os.symm,Y.B.tape.trans M.B.tape.symm,Y.B.output.trans M.B.output.symm⟩;have L:=pK (C:=C.ZZ) hW ax Y;have aw:=uH al;have ab:=aJ ab;have g5:∀b,ie (λs=>if s<H.n then ap (σ s)else none) b-> ¬CC b/\W.heap.size<=b/\b<A1.heap.size:=by
   rintro b ⟨y,l,g,I⟩;subst I;obtain⟨blk,aq⟩:=DQ.1 (aw y (L.Z2 y l g));obtain⟨l',cs,e,fr,q1,q2, -⟩:=L.H.own y blk aq;simp only at g q1;rw[g]at q1;cases q1;split at g
   .exact⟨(g4 _ ⟨_,l,g,R⟩).1,(g4 _ ⟨_,l,g,R⟩).2,fJ q2⟩
   .cases g
  generalize (λs=>if s<H.n then ap (σ s)else none)=X at L g5;have av:a1.eval f=.func (.yield l) #[] #[]:=by
   have:=sY L f;rw[show bi C.ZZ H.t f=bi C H.t f from R,hf]at this;exact lV this
  have ak:args.map a1.eval=encs x:=by
   rw[ar];have az:b6 Z A1 X (args.toList.map (bi C.ZZ H.t)) (args.toList.map a1.eval):=⟨by simp,λi y aT p aK=>by
    rw[aX]at p aK
    cases hi:args.toList[i]? with
    |none=>rw[hi]at p;cases p
    |some b4=>rw[hi]at p aK;cases p;cases aK;exact sY L b4⟩
   have:=Lj (show Ju (args.toList.map (bi C.ZZ H.t))=some vs from aD) az;rw[<-this];apply Array.ext';simp
  have au:=hY CC pre x A1 g1 ag;refine Jb ay hg (Mg (Eg C.P) ho av ak au ?_);rintro b B ⟨C',j',E,u⟩;have O:bt C.ZZ (Gf Z B X C.fr) {W with heap:= #[]} (λ_=>True) N (· <H.n) H.t H.h a1 B Z X:=
   (L.inv (V':=Inv.any C.ZZ.fr) tr).move (λb K=>E.block b (L.H.lt b K) (g3 b K)) (λs l o q1 q2=>(E.block _ (fJ q2) (g5 _ ⟨s,l,q1,R⟩).1).trans q2) E.os E.tape E.output E.size (λb K=>absurd K (dG _)) (Ba _ _ _ _)
  have ao:=wU v.1 (aB q);have M3:bt C.ZZ (Gf Z B X C.fr) {W with heap:= #[]} (λ_=>True) N (· <n+(k+1)) (Aa H.t o.dst (.v (.bool b))) H.h (a1.put o.dst (.bool b)) B Z X:=by
   refine⟨PK a1 O.T (.v _) (λk v=>by rw[O.j];exact ao k v),O.H,O.B,λy l hy=>(by have:y<H.n:=O.Z2 y l hy;simp only at ab;omega),?_,?_,O.G,O.nw,O.iv⟩
   .cases o.dst<;>exact O.df
   .cases o.dst with
    |none=>exact O.j
    |some k=>simp only[Act.put,iV];exact O.j
  refine BJ (C:=C.ZZ) (V:=Gf Z B X C.fr) (kp:=λ_=>false) (a0:=a1.put o.dst (.bool b)) (Eg C.P) hC.ZZ (λ_ _ _ _ _ h=>h) R v.1 v.2 [] rest (k+1) _ _ _ B Z X ⟨[],an⟩ (K b) M3 (g'.refl _ _) ?_;rintro aE a2 A2 S2 aI hK M4 -;obtain⟨f1,f2,f3,f4⟩:=jy.step (CC:=C') hJ G j' ag (aL g2 E.size) (λb K hc=>(u b hc).elim (g3 b K) (λh=>by have:=L.H.lt b K;omega)) (λb K=>⟨λhc=>(u b hc).elim (g5 b K).1 (λh=>by have:=(g5 b K).2.2;omega),(g5 b K).2.1⟩) M3.ZI M4.iv ⟨M4.B.os.trans M3.B.os.symm,M4.B.tape.trans M3.B.tape.symm,M4.B.output.trans M3.B.output.symm⟩
  exact⟨.normal,aE,_,_,R,hK,C',S2,aI,f1,ag,f2,M4.ZI.inv tr,f3,f4⟩
 |_=>intro v st pre s Q D;exact base _ v st pre s Q D
end
theorem RN.intro{α:Type}{C:a5}(hC:cb C){g:FuncId}{f:Func}{c:Code}{a:List AV}{encs:α->Array Value}{xs:List α}(hf:C.P.funcs[g]?=some f)(k:f.body=some c)(K:f.results.toList=[])
  (hN:wG f.ntmps c=true) (q:Nat.ble (a.length+1) f.ntmps=true)
  (hw:∀y,gu C y encs xs c ⟨gj (.v y::a),λ_=>none,0⟩ [] false (λe _ pre s=>match e with| .exit _=>False|_=>s=false->pre=xs)) (E:C.df=[]:=by rfl):RN C g a encs xs:=by
 intro R w o p hG G l J C0 W D I hJ H hY h0;have q:=aJ q;have u:∀b,R b->W.heap[b]?=w.heap[b]? :=λb k=>D.block b (p b k) k;refine callsIn_wide.1 (callsIn_of_wp_marks (n:=2) hf k trivial ?_);have U:o.length=a.length:=G.1.symm;have Y:jy C J W xs f.ntmps ⟨gj (.v (.func (.yield l) #[] #[])::a),λ_=>none,0⟩ [] false {tmps:=(#[Value.func (.yield l) #[] #[]]++o.toArray)++Array.replicate (f.ntmps-(#[Value.func (.yield l) #[] #[]]++o.toArray).size) undef,defers:=[]} W:=by
  refine⟨C0,R,cy,h0,List.nil_prefix,aC _,⟨λi=>?_,⟨λs blk h=>(by cases h),λs s' l l' h=>absurd rfl h,λb k=>e5 (p b k) D.size,aE _⟩,⟨rfl,rfl,rfl,aE _,λb k=>by simp at k⟩,λx l h=>(by cases h),E.symm,?_,λg cells hg=>lk (hG g cells hg) (λ_ h=>h) u (λs l _ _ _ e=>by cases e),λ_ _=>.inl trivial,trivial⟩,I,λb ⟨x,l,h1,_⟩=>by cases h1⟩
  .show av R W cy (gj (.v (.func (.yield l) #[] #[])::a) i) (Array.getD _ i undef);rw[mv,aK]
   cases i with
   |zero=>
    rw[dS (by simp),dS (by simp)]
    exact .v _
   | succ i=>
    rw[dL]
    cases T:a[i]? with
    |none=>exact .any _
    |some x=>
     have hi:i<o.length:=by rw[U];exact(Em.1 T).1
     have X:o[i]?=some o[i]:=aA hi;rw[dS (by simp;omega),Array.getElem?_append_right (by simp)];simp only[kP,bN,cX,kB,eM,X,gI];exact lk (G.2 i x _ T X) (λ_ h=>h) u (λs l _ _ _ e=>by cases e)
  .simp;omega
 refine wpIn_mono (Mc hC hJ H hY c hN _ _ _ _ (hw _) _ W Y) ?_;rintro e O A ⟨Z,st,pre,s,rfl,r,CC,S,β,j,hp,hs,M,k1,k2⟩;have z:(s=false->pre=xs)->LeavesInM Fence.wide 2 C.P f O.tmps (λe L=>(∃v,e=.returned v)∧((∃C,J false C xs L)∨∃C pre,pre <+: xs∧J true C pre L)) O.defers .returning A:=by
  intro r;rw[M.df,E];refine⟨_,yO [] [] rfl f K,⟨_,rfl⟩,?_⟩
  cases s with
  |false=>obtain rfl:=r rfl;exact .inl ⟨CC,j⟩
  |true=>exact .inr ⟨CC,pre,hp,j⟩
 cases Z with
 |normal=>exact z r
 |ret=>exact z r
 |exit i=>exact r.elim
theorem cb.wd{C:a5}(h:cb C)(d:Option Nat):cb (C.wd d):=⟨h.ty,h.mixed,h.hH⟩
def VS:Code->Bool
 | .seq _ _=>false
 | .cond _ _ _=>false
 | .block _ _=>false
 | .scope _=>false
 | .loop _=>false
 | .rangeFunc _ _ _ _=>false
 |_=>true
section
variable {C:a5}{d:Option Nat}{Q:Option Nat->c8->a4->Prop}{t:Nat->AV}{h:AH}{n:Nat}
def uO{a b:Code}{st:a4}(k:wJ C a d st (λf e c=>match e with| .normal=>wJ C b f c Q|e=>Q f e c)):wJ C (.seq a b) d st Q:=k
def VT{c:Operand}{a b:Code}{v:Bool}(e:bi C t c=.v (.bool v))(f:v=true->wJ C a d ⟨t,h,n⟩ Q)(g:v=false->wJ C b d ⟨t,h,n⟩ Q):wJ C (.cond c a b) d ⟨t,h,n⟩ Q:=by
 simp only[wJ,e];exact .mk f g
def Ja{id:Nat}{b:Code}{st:a4}(k:wJ C b d st (λc e a=>match e with| .exit i=>(match Nat.beq i id with|true=>Q c .normal a|false=>Q c (.exit i) a)|e=>Q c e a)):wJ C (.block id b) d st Q:=k
def XO{b:Code}{st:a4}(k:wJ C b d st Q):wJ C (.scope b) d st Q:=k
def tQ{c:Code}{st:a4}(a:VS c=true)(k:eA (C.wd d) (bI (C.wd d)) c st (Q d)):wJ C c d st Q:=by
 cases c<;>first|exact k|cases a
def za{b:Code}{st:a4}(k:eA (C.wd d) (bI (C.wd d)) (.loop b) st (Q d)):wJ C (.loop b) d st Q:=k
def Md{g:Operand}{f:Array Tmp}{a b:Code}{st:a4}(k:he st λj=>∃c σ,di j c σ/\ef C.fr σ c.n=true/\nC C c g f.toList a b (λe i=>∀D,Q (some D) e i)):wJ C (.rangeFunc g f a b) none st Q:=⟨R,k⟩
end
def zb{C:a5}{R:FuncId->List AV->AV->Prop}{Q:c8->a4->Prop}{l:Nat}{st:a4}(k:Q .normal st):eA C R (.label l) st Q:=k
section
variable {α:Type}{C:a5}{y:Value}{encs:α->Array Value}{xs pre:List α}{s:Bool}{Q:c8->a4->List α->Bool->Prop}{t:Nat->AV}{h:AH}{n:Nat}
def rQ{a b:Code}{st:a4}(k:gu C y encs xs a st pre s (λe c f g=>match e with| .normal=>gu C y encs xs b c f g Q|e=>Q e c f g)):gu C y encs xs (.seq a b) st pre s Q:=k
def Cz{c:Operand}{a b:Code}{v:Bool}(e:bi C t c=.v (.bool v))(f:v=true->gu C y encs xs a ⟨t,h,n⟩ pre s Q)(g:v=false->gu C y encs xs b ⟨t,h,n⟩ pre s Q):gu C y encs xs (.cond c a b) ⟨t,h,n⟩ pre s Q:=by
 simp only[gu,e];exact .mk f g
def AA{id:Nat}{b:Code}{st:a4}(k:gu C y encs xs b st pre s (λe a c f=>match e with| .exit i=>(match Nat.beq i id with|true=>Q .normal a c f|false=>Q (.exit i) a c f)|e=>Q e a c f)):gu C y encs xs (.block id b) st pre s Q:=k
def nU{c:Code}{st:a4}(b:VS c=true)(k:eA C (bI C) c st (λe a=>Q e a pre s)):gu C y encs xs c st pre s Q:=by
 cases c<;>first|exact Or.inl k|exact k|cases b
def NH{b:Code}{st:a4}{κ:Type}(S:κ->a4)(f:κ->List α)(G:κ->Prop)(j:κ->Nat)(c:κ)(σ:Nat->Nat)(u:di st (S c) σ)(r:ef C.fr σ (S c).n=true)(hp:f c=pre)(q:G c)
  (round:∀k,G k->gu C y encs xs b (S k) (f k) false (λe g o p=>match e with| .normal=>p=false/\∃a i,di g (S a) i/\ef C.fr i (S a).n=true/\f a=o/\G a/\j a<j k|e=>Q e g o p)):gu C y encs xs (.loop b) st pre false Q:=
 ⟨R,.mk κ S f G j c σ u r hp q round⟩
def NI{id:Nat}{ops:Array Oper}{l:List Oper}{st:a4}(q:ops.toList=l)(k:Nat){o:Oper}{f:Operand}{args:Array Operand}{c:Array TypeId}{rest:List Oper}(j:l.drop k=o::rest)(r:o.op=.call {callee:=.value f,args:=args,argTypes:=c})(p:o.guard=none)
  (u:jS C.ZZ (bI C.ZZ) l (l.take k) 0 st λe=>∃x i a σ,di e a σ/\ef C.fr σ a.n=true/\hD a.h a.n=true/\Nat.ble a.n st.n=true/\bi C a.t f=.v y/\Ju (args.toList.map (bi C a.t))=some i/\encs x=i.toArray/\pre++[x] <+: xs/\
    ∀b:Bool,jS C.ZZ (bI C.ZZ) l rest (k+1) ⟨Aa a.t o.dst (.v (.bool b)),a.h,st.n⟩ (λg=>Q .normal g (pre++[x]) (!b))):gu C y encs xs (.region id ops false) st pre false Q:=by
 subst q;exact .inr ⟨R,R,.mk k o f args c rest j r p u⟩
end
def r2:AV->Value
 | .v x=>x
 |_=>undef
def C7(e:ai):Value:=.agg ((ab e).map r2).toArray
def sa(x:Nat×ai):Array Value:= #[.int .i64 (x.1:Int),C7 x.2]
def hP(a:List ai):Nat->List (Nat×ai)
 |0=>[]
 |n+1=>match a[n]? with|some e=>(n,e)::hP a n|none=>hP a n
theorem Km{a:List ai}:∀{n:Nat},n<=a.length->(hP a n).length=n
 |0,_=>rfl
 |n+1,h=>by
  have e:a[n]?=some a[n]:=aA h;simp only[hP,e,bN,Km (mX h)]
theorem MY{a:List ai}:∀{n k:Nat} {x:ai},n<=a.length->0<k->k<=n->a[k-1]?=some x->(hP a n)[n-k]?=some (k-1,x)
 |0,k,x,_,c,f,_=>by omega
 | n+1,k,x,h,c,f,b=>by
  have e:a[n]?=some a[n]:=aA h;simp only[hP,e];by_cases g:k=n+1
  .subst g;rw[kB,e]at b;cases b;simp
  .rw[(oT:n+1-k=(n-k)+1),dL];exact MY (mX h) c ad b
theorem Ar{a:List ai}:∀{n:Nat} {x:Nat×ai},x∈hP a n->x.1<n/\a[x.1]?=some x.2
 |0,x,h=>by cases h
 | n+1,x,h=>by
  simp only[hP]at h;split at h
  .rename_i e b;rcases eu.1 h with rfl|h
   .exact⟨Nat.lt_succ_self _,b⟩
   .exact⟨mW (Ar h).1,(Ar h).2⟩
  .exact⟨mW (Ar h).1,(Ar h).2⟩
def Io(a:List ai)(n k:Nat):List (Nat×ai):=(hP a n).take (n-k)
def GP{a:List ai}{n k:Nat}{x:ai}(e:n<=a.length)(b:0<k)(c:k<=n)(f:a[k-1]?=some x):Io a n (k-1)=Io a n k++[(k-1,x)]:=by
 unfold Io;rw[(oT:n-(k-1)=(n-k)+1),bW,MY e b c f];rfl
def QL{a:List ai}{n k:Nat}:Io a n k <+: hP a n:=List.take_prefix _ _
def QM{a:List ai}{n:Nat}(b:n<=a.length):Io a n 0=hP a n:=by
 unfold Io;rw[Nat.sub_zero];exact aN (Nat.le_of_eq (Km b))
def LM{a:List ai}{n:Nat}:Io a n n=[]:=by
 unfold Io;rw[eK];rfl
def Ak(a:List ai)(f:Bool)(i:Nat)(G:a.length<=1000)(r:∀x∈a,x.ok)(E:i<=1000):RN C0 225 [.k 1 0 ([vN i]),.k 1 0 ([.Y 17 (a.map ab) f])] sa (hP a (min i a.length)):=by
 refine RN.intro gr func225 R R (by kernel_rfl) R ?_;intro y;refine rQ<|nU R<|a7<|oR 2 R<|rW _ R (cD ab a)<|rW _ R (Bo i a.length)<|oR 1 R<|rE 5<|AA<|NH (κ:=Nat) (λk=>⟨a6 [(0,.v y),(1,.k 1 0 ([vN i])),(2,.k 1 0 ([.Y 17 (a.map ab) f])),(4,vN k)],aq [],5⟩) (λk=>Io a (min i a.length) k) (λk=>k<=min i a.length) (λk=>k) (min i a.length) (λs=>s) (au (λs=>s) wT tr R) R (LM) (aC _) ?_;intro k o;have b:k<=1000:=by have:k<=min i a.length:=o;omega
 refine rQ<|rQ<|nU R<|a7<|oR 1 R<|rW _ R (ak (fq _ _))<|rE 7<|Cz (v:=decide (k>0)) R (λg=>?_) (λg=>?_)
 .have c:=ax g;refine nU R<|mF<|rQ<|AA<|rQ<|NI R 8 R R R<|oR 2 R ?_;have z:k-1<=1000:=aL (jT _ _) b;refine rW _ R (ap (DA ad b R))<|oR 2 R ?_;have A:k-1<=1000:=aL (jT _ _) b;refine rW _ R (ap (DA ad b R)) ?_;obtain⟨x,e⟩:∃u,a[(k-1)]?=some u:=⟨_,aA ad⟩;have v:=r x (aB e);refine ja (ab x) (.k 17 0 (ab x)) R R (iH e) R<|oR 1 R<|rE 15 ?_;refine⟨(k-1,x),_,⟨a6 [(0,.v y),(1,.k 1 0 ([vN i])),(2,.k 1 0 ([.Y 17 (a.map ab) f])),(4,vN k),(13,.v y),(15,vN (k-1)),(20,.agg (ab x))],aq [],0⟩,λs=>s,au _ wT tr R,R,R,R,R,R,R,(by rw[<-GP (eX _ _) c o e];exact QL),λq=>?_⟩;refine oR 1 R<|rE 17<|Cz (v:= !q) R (λj=>?_) (λj=>?_)
  .refine nU R<|FQ ?_;intro p;rw[j]at p;cases p
  refine nU R<|mF<|nU R<|a7<|oR 1 R ?_;have D:k-1<=1000:=aL (jT _ _) b;refine rW _ R (ap (DA ad b R))<|oR 1 R<|rE 20 ?_;refine⟨j,k-1,λs=>s,au _ wT tr R,R,(GP (eX _ _) c o e),(by show k-1<=min i a.length;omega),(by show k-1<k;omega)⟩
 have c:=aF g;refine nU R<|Bh ?_;intro _;obtain rfl:k=0:=oT;exact QM (eX _ _)
theorem Du{a:List ai}{b:Int}:∀{n:Nat},n<=a.length->(∀y,y∈hP a n-> ¬wr y.2.i=b)->ec a b n=none
 |0,_,_=>rfl
 |n+1,h,c=>by
  have e:a[n]?=some a[n]:=aA h;simp only[hP,e]at c;have f: ¬wr a[n].i=b:=c (n,a[n]) ce;simp only[ec,LS,e];rw[dZ (sU f)];exact Du (mX h) λy g=>c y (bY _ g)
theorem Dv{a:List ai}{b:Int}:∀{n:Nat} {pre:List (Nat×ai)} {x:Nat×ai},n<=a.length->pre++[x] <+: hP a n->(∀y,y∈pre-> ¬wr y.2.i=b)->wr x.2.i=b->ec a b n=some x.1
 |0,pre,x,_,h,_,_=>by have:=h.length_le;simp[hP]at this
 | n+1,pre,x,g,h,f,i=>by
  have e:a[n]?=some a[n]:=aA g;simp only[hP,e]at h;simp only[ec,LS,e]
  cases pre with
  | nil=>
   obtain rfl:x=(n,a[n]):=by
    obtain⟨t,c⟩:=h;exact(List.cons.inj c).1
   rw[aa (sU i)]
  |cons y l=>
   obtain⟨t,c⟩:=h;obtain⟨k,o⟩:=List.cons.inj c;subst k;have j: ¬wr a[n].i=b:=f (n,a[n]) ce;rw[dZ (sU j)];exact Dv (mX g) ⟨t,o⟩ (λy p=>f y (bY _ p)) i
def Av(a:List ai)(b:Bool)(i:Nat)(e:a.length<=1000)(f:∀x∈a,x.ok)(c:i<=1000):bI C0 205 [.Y 17 (a.map ab) b,vN i] (.a 225 [] [.k 1 0 [vN i],.k 1 0 [.Y 17 (a.map ab) b]]):=by
 refine bc func205 R ?_;refine zV (.a 225 [] [.ptr 1 0,.ptr 0 0]) ?_;exact dK R ga R R
def QN(b:List ai)(c:Bool)(i:Nat)(a:Int)(v:b.length<=1000)(p:∀x∈b,x.ok)(u:i<=1000):bI C0 173 [.Y 17 (b.map ab) c,vN i,vI a] (vI (DM (bq b i a))):=by
 refine bI.Zh (C:=C0) (λd=>gr.wd d) (λn=>gr.at) func173 R R (by kernel_rfl) R<|uO<|tQ R<|a7<|dm 0 R R<|dm 1 R R<|rE 2<|uO<|uO<|tQ R<|a7<|oR 1 R<|rV (vB (decide (a<1))) R<|oR 1 R<|gN R<|aw R id R<|bO R R R (by simp)<|rE 8<|VT (v:=cE (decide (a<1)) true (decide (a>31))) R (λj=>?_) (λj=>?_)
 .refine uO<|tQ R<|a7<|a1 R<|rE 9<|tQ R<|FQ ?_;have g:(a<1\/a>31):=by have z:=j;simp only[ae]at z;grind
  have e:bq b i a=none:=aa g;rw[e];exact fT R R
 refine tQ R<|mF<|uO<|uO<|tQ R<|a7<|oR 2 R<|aW R (Av b c i v p u)<|rE 11<|Ja<|Md (.mk _ (.refl _) ⟨⟨a6 [(5,.ptr 0 0),(6,.ptr 1 0),(17,.a 225 [] [.k 1 0 ([vN i]),.k 1 0 ([.Y 17 (b.map ab) c])])],aq [(0,.box [vI a]),(1,.box [vI 0])],2⟩,λs=>s,au _ wT wH R,R,?_⟩);refine .mk (Nat×ai) 225 [.k 1 0 ([vN i]),.k 1 0 ([.Y 17 (b.map ab) c])] (λx:Nat×ai=>[vN x.1,.agg (ab x.2)]) sa (hP b (min i b.length)) (λx:Nat×ai=> ¬wr x.2.i=a) 2 (λ_=>aq [(0,.box [vI a]),(1,.box [vI 0])]) (λ_=>2) R R ⟨_,func225,R,R⟩ (Ak b c i v p u) (λx S w β=>BL (show Ju [vN x.1,.agg (ab x.2)]=some _ from R)) (λ_=>rfl) R R (λ_=>rfl) (au (hp:=[]) (λs=>s) wT tr R) ?_ ?_
 .intro E x k r;have o:=Ar (k.subset (List.mem_append_right _ (uJ.2 R)));have G:x.1<=1000:=oH o.1;have H:=p x.2 (aB o.2);refine bk<|oR 1 R<|rE 3<|a7<|dm 3 R R<|a1 R<|rE 5 ?_;refine⟨R,?_⟩;refine kO<|bk<|oR 2 R<|aW R (Da x.2.i)<|oR 1 R<|rV (vB ((wr x.2.i)==a)) R<|rE 10<|aV R (λf=>?_) (λf=>?_)
  .have q:=mT f;refine bk<|oR 1 R<|a1 R<|rE 12<|FQ<|.mk _ (.refl _) ⟨aq [(0,.box [vI a]),(1,.box [vN x.1])],2,λs=>s,R,R,au (l:=[]) (hp:=[(0,.box [vI a]),(1,.box [vN x.1])]) (λs=>s) tr wH R,?_⟩;intro D;have g: ¬(a<1\/a>31):=by have z:=j;simp only[ae]at z;grind
   have e:bq b i a=some x.1:=(dZ g).trans (Dv (eX _ _) k r (mT f));rw[e];exact fT R R
  have q:=nA f;refine mF ?_;exact⟨nA f,.mk _ (.refl _) ⟨λs=>s,R,au (l:=[]) (hp:=[(0,.box [vI a]),(1,.box [vI 0])]) (λs=>s) tr wH R⟩⟩
 intro A D;refine uO<|tQ R<|a7<|a1 R<|rE 3<|tQ R<|FQ ?_;have g: ¬(a<1\/a>31):=by have z:=j;simp only[ae]at z;grind
 have e:bq b i a=none:=(dZ g).trans (Du (eX _ _) A);rw[e];exact fT R R
end Go.Proofs.YtiaekocjeinkjaaGreatDoor
