import Derived.Test.YtiaekocjeinkjaaGreatDoorS25
import Derived.Test.YtiaekocjeinkjaaGreatDoorS36
set_option linter.all false
namespace Go.Proofs.YtiaekocjeinkjaaGreatDoor
open Go.Proofs.Tryz
set_option maxRecDepth 100000
set_option maxHeartbeats 4000000
open Go.RowKit
structure e_ where
 data:List (List Wy)
 u:List (List Wy)
 U:List bp
 Zq:List Nat
abbrev fg(s:e_):List AV:=[.Y 1 (s.data.map bX) false,.Y 1 (s.u.map bX) false,.Y 4 (s.U.map bv) false,.Y 1 (s.Zq.map dU) false]
def ky(x:bp):bp:=⟨x.kind,x.S,0,oZ⟩
abbrev Ps(x:bp):List AV:=[.v (.int .i64 x.kind),.v (.int .u32 (x.S:Int)),.v (.int .i64 0),.v (.string oZ)]
abbrev ji(x:Sp):List AV:=[.v (.int .u32 (x.M:Int))]
def Li(b:Int):Int:=if 0>b then 0 else b
def lF(c:Co)(a:Int):e_:=⟨kY c.data,kY c.u,c.U.map ky,(c.N.drop (Li a).toNat).map (·.M)⟩
structure Co.okW(c:Co):Prop where
 data:c.data.ok
 u:c.u.ok
 U:c.U.length<=1000000
 YQ:∀x∈c.U,x.S<=4294967295
 ret:c.N.length<=1000000
 Y9:∀x∈c.N,x.M<=4294967295
def He{α:Type}(f:α->List AV)(l:List α){j:Nat}(h:j<l.length):(List.take j (List.drop 0 ((l.take j).map f))).length=j:=by simp;omega
def Yl{α:Type}(f:α->List AV)(l:List α){x:α}(a:l[0]?=some x):[f x]=(l.take 1).map f:=by
 cases l with
 |nil=>cases a
 |cons y l=>injection a with a;subst a;rfl
def p3{α:Type}(f:α->List AV)(l:List α){x:α}{j:Nat}(a:l[j]?=some x):List.take j (List.drop 0 ((l.take j).map f))++[f x]=(l.take (j+1)).map f:=by
 obtain⟨c,b⟩:=Em.1 a;rw[bS,aN (by simp;omega),bW,a];simp
def NU{α:Type}(f:α->List AV)(l:List α){j:Nat}(h:j=l.length):List.take j (List.drop 0 ((l.take j).map f))=l.map f:=by
 subst h;rw[bS,cH,aN (by simp)]
def B9(c:Co)(a:Int)(b:c.okW):bI C0 51 [.agg (fm c),.v (.int .i64 a)] (.agg (fg (lF c a))):=by
 refine bc func51 R ?_;obtain⟨B,q⟩:∃B:Nat,(if 0>a then 0 else a)=(B:Int):=⟨(Li a).toNat,by unfold Li;split<;>omega⟩;refine zR<|zC (sd c.data false b.data)<|zC (sd c.u false b.u)<|zV (.agg [.Y 1 ((kY c.data).map bX) false,.Y 1 ((kY c.u).map bX) false,.Y 0 ([]) true,.Y 0 ([]) true])<|zW (vN c.U.length) (cD bv c.U)<|jR (κ:=Nat) (λj=>match j with|0=>⟨a6 [(1,vI a),(2,.ptr 0 0),(4,.ptr 1 0),(5,.ptr 9 0),(17,.Y 4 (c.U.map bv) false),(18,vN c.U.length),(19,vN 0)],aq [(0,.box [vI c.Q.mode,vI c.Q.o,vI c.Q.Z,vI c.Q.queue,vI c.Q.V,vI c.Q.m,vI c.Q.O,vI c.Q.ways,.Y 1 (c.Q.q.map bm) false,vB c.Q.tables,.Y 1 (c.Q.tape.map dU) false,.Y 1 (c.prog.map dU) false,vI c.Z3,vU (c.r 0),vU (c.r 1),vU (c.r 2),vU (c.r 3),vU (c.r 4),vU (c.r 5),vU (c.r 6),vU (c.r 7),vU (c.r 8),vU (c.r 9),vU (c.r 10),vU (c.r 11),vU (c.r 12),vU (c.r 13),vU (c.r 14),vU (c.r 15),vU (c.r 16),vU (c.r 17),vU (c.r 18),vU (c.r 19),vU (c.r 20),vU (c.r 21),vU (c.r 22),vU (c.r 23),vU (c.r 24),vU (c.r 25),vU (c.r 26),vU (c.r 27),vU (c.r 28),vU (c.r 29),vU (c.r 30),vU (c.r 31),vU c.J,vB c.stop,.Y 2 (c.L.map a_) false,.Y 17 (c.Z.map ab) false,vI c.next,.Y 2 (c.V.map ay) false,vI c.data.ways,.Y 1 (c.data.O.map bX) false,vI c.u.ways,.Y 1 (c.u.O.map bX) false,.Y 4 (c.U.map bv) false,vI c.asked,vI c.Z1,.v (.string c.mem),.Y 2 (c.K.m.map dn) false,vU c.K.Z7,.Y 1 (c.K.I.map dU) false,vI c.halt,.Y 9 (c.N.map a2) false]),(1,.box [.Y 0 ([]) true,.Y 0 ([]) true,.Y 0 ([]) true,.Y 0 ([]) true]),(9,.box [.Y 1 ((kY c.data).map bX) false,.Y 1 ((kY c.u).map bX) false,.Y 0 ([]) true,.Y 0 ([]) true])],61⟩|j+1=>⟨a6 [(1,vI a),(2,.ptr 0 0),(4,.ptr 1 0),(5,.ptr 9 0),(17,.Y 4 (c.U.map bv) false),(18,vN c.U.length),(19,vN (j+1))],aq [(0,.box [vI c.Q.mode,vI c.Q.o,vI c.Q.Z,vI c.Q.queue,vI c.Q.V,vI c.Q.m,vI c.Q.O,vI c.Q.ways,.Y 1 (c.Q.q.map bm) false,vB c.Q.tables,.Y 1 (c.Q.tape.map dU) false,.Y 1 (c.prog.map dU) false,vI c.Z3,vU (c.r 0),vU (c.r 1),vU (c.r 2),vU (c.r 3),vU (c.r 4),vU (c.r 5),vU (c.r 6),vU (c.r 7),vU (c.r 8),vU (c.r 9),vU (c.r 10),vU (c.r 11),vU (c.r 12),vU (c.r 13),vU (c.r 14),vU (c.r 15),vU (c.r 16),vU (c.r 17),vU (c.r 18),vU (c.r 19),vU (c.r 20),vU (c.r 21),vU (c.r 22),vU (c.r 23),vU (c.r 24),vU (c.r 25),vU (c.r 26),vU (c.r 27),vU (c.r 28),vU (c.r 29),vU (c.r 30),vU (c.r 31),vU c.J,vB c.stop,.Y 2 (c.L.map a_) false,.Y 17 (c.Z.map ab) false,vI c.next,.Y 2 (c.V.map ay) false,vI c.data.ways,.Y 1 (c.data.O.map bX) false,vI c.u.ways,.Y 1 (c.u.O.map bX) false,.Y 4 (c.U.map bv) false,vI c.asked,vI c.Z1,.v (.string c.mem),.Y 2 (c.K.m.map dn) false,vU c.K.Z7,.Y 1 (c.K.I.map dU) false,vI c.halt,.Y 9 (c.N.map a2) false]),(1,.box [.Y 0 ([]) true,.Y 0 ([]) true,.Y 0 ([]) true,.Y 0 ([]) true]),(9,.box [.Y 1 ((kY c.data).map bX) false,.Y 1 ((kY c.u).map bX) false,.X 60 0 (j+1) false,.Y 0 ([]) true]),(60,.arr ((c.U.take (j+1)).map Ps) 4)],61⟩) (λj=>j<=c.U.length) (λj=>c.U.length-j) 0 (λs=>s) (au (λs=>s) wT wH R) (aE _) ?_;intro j M;rcases j with _|j
 .refine qS 0 rfl<|zW (vB (decide (0<c.U.length))) (ak (bl _ _))<|zB rfl (λn=>?_) (λn=>?_)
  .skip
   obtain⟨x,m⟩:∃x,c.U[0]?=some x:=⟨_,aA (ax n)⟩;have E:=b.YQ x (aB m);refine zX (bv x) (.k 4 0 (bv x)) R (iH m)<|rV (.agg [vI x.kind,vU x.S,vI 0,.v (.string (⟨#[]⟩))]) R<|rV (.Y 4 ([[vI x.kind,vU x.S,vI 0,.v (.string (⟨#[]⟩))]]) true) R<|zF (x:=.X 74 0 1 false) (h':=an _ 74 (some (.arr ([[vI x.kind,vU x.S,vI 0,.v (.string (⟨#[]⟩))]]) 4))) (rfl) (⟨R,by simp[jH],by simp[jH],tr⟩) ?_;have F:0+1<=1:=aD (aC 0) (aC 1);refine zW (vN (0+1)) (ap (bH F R)) ?_;refine⟨1,λs=>match s with|60=>74|s=>s,au _ wT ⟨⟨R,R,R⟩,⟨R,R,R⟩,⟨R,R,R⟩,⟨R,(am (λz=>some (a'.arr z 4)) (Yl Ps c.U m)),R⟩,tr⟩ R,ax n,by have:=ax n;show c.U.length-(1)<c.U.length-(0);omega⟩
  refine qX 0 R<|zW (vI (if 0>a then 0 else a)) R<|jR (κ:=Nat) (λk=>match k with|0=>⟨a6 [(2,.ptr 0 0),(4,.ptr 1 0),(5,.ptr 9 0),(8,vN B)],aq [(0,.box [vI c.Q.mode,vI c.Q.o,vI c.Q.Z,vI c.Q.queue,vI c.Q.V,vI c.Q.m,vI c.Q.O,vI c.Q.ways,.Y 1 (c.Q.q.map bm) false,vB c.Q.tables,.Y 1 (c.Q.tape.map dU) false,.Y 1 (c.prog.map dU) false,vI c.Z3,vU (c.r 0),vU (c.r 1),vU (c.r 2),vU (c.r 3),vU (c.r 4),vU (c.r 5),vU (c.r 6),vU (c.r 7),vU (c.r 8),vU (c.r 9),vU (c.r 10),vU (c.r 11),vU (c.r 12),vU (c.r 13),vU (c.r 14),vU (c.r 15),vU (c.r 16),vU (c.r 17),vU (c.r 18),vU (c.r 19),vU (c.r 20),vU (c.r 21),vU (c.r 22),vU (c.r 23),vU (c.r 24),vU (c.r 25),vU (c.r 26),vU (c.r 27),vU (c.r 28),vU (c.r 29),vU (c.r 30),vU (c.r 31),vU c.J,vB c.stop,.Y 2 (c.L.map a_) false,.Y 17 (c.Z.map ab) false,vI c.next,.Y 2 (c.V.map ay) false,vI c.data.ways,.Y 1 (c.data.O.map bX) false,vI c.u.ways,.Y 1 (c.u.O.map bX) false,.Y 4 (c.U.map bv) false,vI c.asked,vI c.Z1,.v (.string c.mem),.Y 2 (c.K.m.map dn) false,vU c.K.Z7,.Y 1 (c.K.I.map dU) false,vI c.halt,.Y 9 (c.N.map a2) false]),(1,.box [.Y 0 ([]) true,.Y 0 ([]) true,.Y 0 ([]) true,.Y 0 ([]) true]),(9,.box [.Y 1 ((kY c.data).map bX) false,.Y 1 ((kY c.u).map bX) false,.Y 0 ([]) true,.Y 0 ([]) true])],71⟩|k+1=>⟨a6 [(2,.ptr 0 0),(4,.ptr 1 0),(5,.ptr 9 0),(8,vN (B+(k+1)))],aq [(0,.box [vI c.Q.mode,vI c.Q.o,vI c.Q.Z,vI c.Q.queue,vI c.Q.V,vI c.Q.m,vI c.Q.O,vI c.Q.ways,.Y 1 (c.Q.q.map bm) false,vB c.Q.tables,.Y 1 (c.Q.tape.map dU) false,.Y 1 (c.prog.map dU) false,vI c.Z3,vU (c.r 0),vU (c.r 1),vU (c.r 2),vU (c.r 3),vU (c.r 4),vU (c.r 5),vU (c.r 6),vU (c.r 7),vU (c.r 8),vU (c.r 9),vU (c.r 10),vU (c.r 11),vU (c.r 12),vU (c.r 13),vU (c.r 14),vU (c.r 15),vU (c.r 16),vU (c.r 17),vU (c.r 18),vU (c.r 19),vU (c.r 20),vU (c.r 21),vU (c.r 22),vU (c.r 23),vU (c.r 24),vU (c.r 25),vU (c.r 26),vU (c.r 27),vU (c.r 28),vU (c.r 29),vU (c.r 30),vU (c.r 31),vU c.J,vB c.stop,.Y 2 (c.L.map a_) false,.Y 17 (c.Z.map ab) false,vI c.next,.Y 2 (c.V.map ay) false,vI c.data.ways,.Y 1 (c.data.O.map bX) false,vI c.u.ways,.Y 1 (c.u.O.map bX) false,.Y 4 (c.U.map bv) false,vI c.asked,vI c.Z1,.v (.string c.mem),.Y 2 (c.K.m.map dn) false,vU c.K.Z7,.Y 1 (c.K.I.map dU) false,vI c.halt,.Y 9 (c.N.map a2) false]),(1,.box [.Y 0 ([]) true,.Y 0 ([]) true,.Y 0 ([]) true,.Y 0 ([]) true]),(9,.box [.Y 1 ((kY c.data).map bX) false,.Y 1 ((kY c.u).map bX) false,.Y 0 ([]) true,.X 70 0 (k+1) false]),(70,.arr (((c.N.drop B).take (k+1)).map ji) 1)],71⟩) (λk=>k=0\/B+k<=c.N.length) (λk=>c.N.length-B-k) 0 (λs=>s) (au (λs=>s) ⟨⟨R,R⟩,⟨R,R⟩,⟨R,R⟩,⟨(am (λz:Int=>AV.v (.int .i64 z)) q),R⟩,tr⟩ wH R) (.inl R) ?_;intro k L;rcases k with _|k
  .refine qS 0 rfl<|rW (vN c.N.length) rfl (cD a2 c.N)<|zW (vB (decide (B<c.N.length))) (ak (bl _ _))<|zB rfl (λo=>?_) (λo=>?_)
   .refine zR ?_;obtain⟨y,d⟩:∃y,c.N[B]?=some y:=⟨_,aA (ax o)⟩;have w:=b.Y9 y (aB d);have f:(c.N.drop B)[0]?=some y:=by rw[cL];exact d
    refine zX (a2 y) (.k 9 0 (a2 y)) R (iH d)<|zV (.Y 1 ([[vU y.M]]) true)<|zF (x:=.X 85 0 1 false) (h':=an _ 85 (some (.arr ([[vU y.M]]) 1))) (rfl) (⟨R,by simp[jH],by simp[jH],tr⟩) ?_;have G:B+1<=1000000:=by have:=ax o;have:=b.ret;omega
    refine zW (vN (B+1)) (ap (bH G R)) ?_;refine⟨1,λs=>match s with|70=>85|s=>s,au _ wT ⟨⟨R,R,R⟩,⟨R,R,R⟩,⟨R,R,R⟩,⟨R,(am (λz=>some (a'.arr z 1)) (Yl ji (c.N.drop B) f)),R⟩,tr⟩ R,Or.inr (oH (ax o)),by have:=ax o;show c.N.length-B-(1)<c.N.length-B-(0);omega⟩
   refine ck 0 R ?_;have e:(Li a).toNat=B:=by have:Li a=(B:Int):=q;rw[this];rfl
   have r:c.U=[]:=gq (oH (aF n));have v:(c.N.drop B)=[]:=cB (oH (aF o));exact⟨_,R,ga,R,Sub.agg ⟨Sub.refl _,Sub.refl _,(by show Sub (.Y 0 [] true) (.Y 4 ((c.U.map ky).map bv) false);rw[r];exact oM 4 false),(by show Sub (.Y 0 [] true) (.Y 1 (((c.N.drop (Li a).toNat).map (·.M)).map dU) false);rw[e,v];exact oM 1 false),tr⟩⟩
  have D:B+(k+1)<=c.N.length:=oT;have C:B+(k+1)<=1000000:=oH b.ret;refine qS 0 R<|rW (vN c.N.length) R (cD a2 c.N)<|zW (vB (decide ((B+(k+1))<c.N.length))) (ak (bl _ _))<|zB R (λh=>?_) (λh=>?_)
  .refine zR ?_;obtain⟨y,d⟩:∃y,c.N[B+(k+1)]?=some y:=⟨_,aA (ax h)⟩;have w:=b.Y9 y (aB d);have f:(c.N.drop B)[k+1]?=some y:=by rw[cL];exact d
   refine zX (a2 y) (.k 9 0 (a2 y)) R (iH d)<|zV (.Y 1 ([[vU y.M]]) true)<|zF (x:=.X 85 0 (k+1+1) false) (h':=an (an _ 70 none) 85 (some (.arr (((c.N.drop B).take (k+1+1)).map ji) 1))) (Nm (He _ _ (show k+1<(c.N.drop B).length from by rw[bD];have:=ax h;omega)) (p3 ji (c.N.drop B) f)) (⟨by rw[He _ _ (show k+1<(c.N.drop B).length from by rw[bD];have:=ax h;omega)];have:=b.ret;show k+1+1<=1000000;have:=ax h;omega,by rw[bJ];simp;have:=ax h;omega,tr⟩) ?_;have H:B+(k+1)+1<=1000000:=by have:=ax h;have:=b.ret;omega
   refine zW (vN (B+(k+1)+1)) (ap (bH H R)) ?_;refine⟨(k+1)+1,λs=>match s with|70=>85|s=>s,au _ wT wH R,Or.inr (oH (ax h)),by have:=ax h;show c.N.length-B-((k+1)+1)<c.N.length-B-(k+1);omega⟩
  refine ck 0 R ?_;have e:(Li a).toNat=B:=by have:Li a=(B:Int):=q;rw[this];rfl
  have r:c.U=[]:=gq (oH (aF n));have u:k+1=(c.N.drop B).length:=by rw[bD];have:=aF h;omega
  exact⟨_,R,⟨tr,tr,tr,(by show 0+(k+1)<=(((c.N.drop B).take (k+1)).map ji).length;rw[aH,aM];omega),tr⟩,R,Sub.agg ⟨Sub.refl _,Sub.refl _,(by show Sub (.Y 0 [] true) (.Y 4 ((c.U.map ky).map bv) false);rw[r];exact oM 4 false),(by show Sub (.Y 1 (List.take (k+1) (List.drop 0 (((c.N.drop B).take (k+1)).map ji))) false) (.Y 1 (((c.N.drop (Li a).toNat).map (·.M)).map dU) false);rw[e,NU ji (c.N.drop B) u,List.map_map];exact Sub.refl _),tr⟩⟩
 have A:j+1<=1000000:=oH b.U;refine qS 0 R<|zW (vB (decide ((j+1)<c.U.length))) (ak (bl _ _))<|zB R (λi=>?_) (λi=>?_)
 .skip
  obtain⟨x,m⟩:∃x,c.U[(j+1)]?=some x:=⟨_,aA (ax i)⟩;have E:=b.YQ x (aB m);refine zX (bv x) (.k 4 0 (bv x)) R (iH m)<|rV (.agg [vI x.kind,vU x.S,vI 0,.v (.string (⟨#[]⟩))]) R<|rV (.Y 4 ([[vI x.kind,vU x.S,vI 0,.v (.string (⟨#[]⟩))]]) true) R<|zF (x:=.X 74 0 (j+1+1) false) (h':=an (an _ 60 none) 74 (some (.arr ((c.U.take (j+1+1)).map Ps) 4))) (Nm (He _ _ (ax i)) (p3 Ps c.U m)) (⟨by rw[He _ _ (ax i)];have:=b.U;show j+1+1<=1000000;have:=ax i;omega,by rw[bJ];simp;have:=ax i;omega,tr⟩) ?_;have I:(j+1)+1<=1000001:=aD A (aC 1);refine zW (vN ((j+1)+1)) (ap (bH I R)) ?_;refine⟨(j+1)+1,λs=>match s with|60=>74|s=>s,au _ wT wH R,ax i,by have:=ax i;show c.U.length-((j+1)+1)<c.U.length-(j+1);omega⟩
 refine qX 0 R<|zW (vI (if 0>a then 0 else a)) R<|jR (κ:=Nat) (λk=>match k with|0=>⟨a6 [(2,.ptr 0 0),(4,.ptr 1 0),(5,.ptr 9 0),(8,vN B)],aq [(0,.box [vI c.Q.mode,vI c.Q.o,vI c.Q.Z,vI c.Q.queue,vI c.Q.V,vI c.Q.m,vI c.Q.O,vI c.Q.ways,.Y 1 (c.Q.q.map bm) false,vB c.Q.tables,.Y 1 (c.Q.tape.map dU) false,.Y 1 (c.prog.map dU) false,vI c.Z3,vU (c.r 0),vU (c.r 1),vU (c.r 2),vU (c.r 3),vU (c.r 4),vU (c.r 5),vU (c.r 6),vU (c.r 7),vU (c.r 8),vU (c.r 9),vU (c.r 10),vU (c.r 11),vU (c.r 12),vU (c.r 13),vU (c.r 14),vU (c.r 15),vU (c.r 16),vU (c.r 17),vU (c.r 18),vU (c.r 19),vU (c.r 20),vU (c.r 21),vU (c.r 22),vU (c.r 23),vU (c.r 24),vU (c.r 25),vU (c.r 26),vU (c.r 27),vU (c.r 28),vU (c.r 29),vU (c.r 30),vU (c.r 31),vU c.J,vB c.stop,.Y 2 (c.L.map a_) false,.Y 17 (c.Z.map ab) false,vI c.next,.Y 2 (c.V.map ay) false,vI c.data.ways,.Y 1 (c.data.O.map bX) false,vI c.u.ways,.Y 1 (c.u.O.map bX) false,.Y 4 (c.U.map bv) false,vI c.asked,vI c.Z1,.v (.string c.mem),.Y 2 (c.K.m.map dn) false,vU c.K.Z7,.Y 1 (c.K.I.map dU) false,vI c.halt,.Y 9 (c.N.map a2) false]),(1,.box [.Y 0 ([]) true,.Y 0 ([]) true,.Y 0 ([]) true,.Y 0 ([]) true]),(9,.box [.Y 1 ((kY c.data).map bX) false,.Y 1 ((kY c.u).map bX) false,.X 60 0 (j+1) false,.Y 0 ([]) true]),(60,.arr ((c.U.take (j+1)).map Ps) 4)],71⟩|k+1=>⟨a6 [(2,.ptr 0 0),(4,.ptr 1 0),(5,.ptr 9 0),(8,vN (B+(k+1)))],aq [(0,.box [vI c.Q.mode,vI c.Q.o,vI c.Q.Z,vI c.Q.queue,vI c.Q.V,vI c.Q.m,vI c.Q.O,vI c.Q.ways,.Y 1 (c.Q.q.map bm) false,vB c.Q.tables,.Y 1 (c.Q.tape.map dU) false,.Y 1 (c.prog.map dU) false,vI c.Z3,vU (c.r 0),vU (c.r 1),vU (c.r 2),vU (c.r 3),vU (c.r 4),vU (c.r 5),vU (c.r 6),vU (c.r 7),vU (c.r 8),vU (c.r 9),vU (c.r 10),vU (c.r 11),vU (c.r 12),vU (c.r 13),vU (c.r 14),vU (c.r 15),vU (c.r 16),vU (c.r 17),vU (c.r 18),vU (c.r 19),vU (c.r 20),vU (c.r 21),vU (c.r 22),vU (c.r 23),vU (c.r 24),vU (c.r 25),vU (c.r 26),vU (c.r 27),vU (c.r 28),vU (c.r 29),vU (c.r 30),vU (c.r 31),vU c.J,vB c.stop,.Y 2 (c.L.map a_) false,.Y 17 (c.Z.map ab) false,vI c.next,.Y 2 (c.V.map ay) false,vI c.data.ways,.Y 1 (c.data.O.map bX) false,vI c.u.ways,.Y 1 (c.u.O.map bX) false,.Y 4 (c.U.map bv) false,vI c.asked,vI c.Z1,.v (.string c.mem),.Y 2 (c.K.m.map dn) false,vU c.K.Z7,.Y 1 (c.K.I.map dU) false,vI c.halt,.Y 9 (c.N.map a2) false]),(1,.box [.Y 0 ([]) true,.Y 0 ([]) true,.Y 0 ([]) true,.Y 0 ([]) true]),(9,.box [.Y 1 ((kY c.data).map bX) false,.Y 1 ((kY c.u).map bX) false,.X 60 0 (j+1) false,.X 70 0 (k+1) false]),(60,.arr ((c.U.take (j+1)).map Ps) 4),(70,.arr (((c.N.drop B).take (k+1)).map ji) 1)],71⟩) (λk=>k=0\/B+k<=c.N.length) (λk=>c.N.length-B-k) 0 (λs=>s) (au (λs=>s) ⟨⟨R,R⟩,⟨R,R⟩,⟨R,R⟩,⟨(am (λz:Int=>AV.v (.int .i64 z)) q),R⟩,tr⟩ wH R) (.inl R) ?_;intro k L;rcases k with _|k
 .refine qS 0 rfl<|rW (vN c.N.length) rfl (cD a2 c.N)<|zW (vB (decide (B<c.N.length))) (ak (bl _ _))<|zB rfl (λp=>?_) (λp=>?_)
  .refine zR ?_;obtain⟨y,d⟩:∃y,c.N[B]?=some y:=⟨_,aA (ax p)⟩;have w:=b.Y9 y (aB d);have f:(c.N.drop B)[0]?=some y:=by rw[cL];exact d
   refine zX (a2 y) (.k 9 0 (a2 y)) R (iH d)<|zV (.Y 1 ([[vU y.M]]) true)<|zF (x:=.X 85 0 1 false) (h':=an _ 85 (some (.arr ([[vU y.M]]) 1))) (rfl) (⟨R,by simp[jH],by simp[jH],tr⟩) ?_;have J:B+1<=1000000:=by have:=ax p;have:=b.ret;omega
   refine zW (vN (B+1)) (ap (bH J R)) ?_;refine⟨1,λs=>match s with|70=>85|s=>s,au _ wT ⟨⟨R,R,R⟩,⟨R,R,R⟩,⟨R,R,R⟩,⟨R,R,R⟩,⟨R,(am (λz=>some (a'.arr z 1)) (Yl ji (c.N.drop B) f)),R⟩,tr⟩ R,Or.inr (oH (ax p)),by have:=ax p;show c.N.length-B-(1)<c.N.length-B-(0);omega⟩
  refine ck 0 R ?_;have e:(Li a).toNat=B:=by have:Li a=(B:Int):=q;rw[this];rfl
  have t:j+1=c.U.length:=oH (aF i);have v:(c.N.drop B)=[]:=cB (oH (aF p));exact⟨_,R,⟨tr,tr,(by show 0+(j+1)<=((c.U.take (j+1)).map Ps).length;rw[aH,aM];omega),tr,tr⟩,R,Sub.agg ⟨Sub.refl _,Sub.refl _,(by show Sub (.Y 4 (List.take (j+1) (List.drop 0 ((c.U.take (j+1)).map Ps))) false) (.Y 4 ((c.U.map ky).map bv) false);rw[NU Ps c.U t,List.map_map];exact Sub.refl _),(by show Sub (.Y 0 [] true) (.Y 1 (((c.N.drop (Li a).toNat).map (·.M)).map dU) false);rw[e,v];exact oM 1 false),tr⟩⟩
 have D:B+(k+1)<=c.N.length:=oT;have C:B+(k+1)<=1000000:=oH b.ret;refine qS 0 R<|rW (vN c.N.length) R (cD a2 c.N)<|zW (vB (decide ((B+(k+1))<c.N.length))) (ak (bl _ _))<|zB R (λl=>?_) (λl=>?_)
 .refine zR ?_;obtain⟨y,d⟩:∃y,c.N[B+(k+1)]?=some y:=⟨_,aA (ax l)⟩;have w:=b.Y9 y (aB d);have f:(c.N.drop B)[k+1]?=some y:=by rw[cL];exact d
  refine zX (a2 y) (.k 9 0 (a2 y)) R (iH d)<|zV (.Y 1 ([[vU y.M]]) true)<|zF (x:=.X 85 0 (k+1+1) false) (h':=an (an _ 70 none) 85 (some (.arr (((c.N.drop B).take (k+1+1)).map ji) 1))) (Nm (He _ _ (show k+1<(c.N.drop B).length from by rw[bD];have:=ax l;omega)) (p3 ji (c.N.drop B) f)) (⟨by rw[He _ _ (show k+1<(c.N.drop B).length from by rw[bD];have:=ax l;omega)];have:=b.ret;show k+1+1<=1000000;have:=ax l;omega,by rw[bJ];simp;have:=ax l;omega,tr⟩) ?_;have K:B+(k+1)+1<=1000000:=by have:=ax l;have:=b.ret;omega
  refine zW (vN (B+(k+1)+1)) (ap (bH K R)) ?_;refine⟨(k+1)+1,λs=>match s with|70=>85|s=>s,au _ wT wH R,Or.inr (oH (ax l)),by have:=ax l;show c.N.length-B-((k+1)+1)<c.N.length-B-(k+1);omega⟩
 refine ck 0 R ?_;have e:(Li a).toNat=B:=by have:Li a=(B:Int):=q;rw[this];rfl
 have t:j+1=c.U.length:=oH (aF i);have u:k+1=(c.N.drop B).length:=by rw[bD];have:=aF l;omega
 exact⟨_,R,⟨tr,tr,(by show 0+(j+1)<=((c.U.take (j+1)).map Ps).length;rw[aH,aM];omega),(by show 0+(k+1)<=(((c.N.drop B).take (k+1)).map ji).length;rw[aH,aM];omega),tr⟩,R,Sub.agg ⟨Sub.refl _,Sub.refl _,(by show Sub (.Y 4 (List.take (j+1) (List.drop 0 ((c.U.take (j+1)).map Ps))) false) (.Y 4 ((c.U.map ky).map bv) false);rw[NU Ps c.U t,List.map_map];exact Sub.refl _),(by show Sub (.Y 1 (List.take (k+1) (List.drop 0 (((c.N.drop B).take (k+1)).map ji))) false) (.Y 1 (((c.N.drop (Li a).toNat).map (·.M)).map dU) false);rw[e,NU ji (c.N.drop B) u,List.map_map];exact Sub.refl _),tr⟩⟩
def tZ{α:Type}(e:α->α->Bool):List α->List α->Bool
 |[],[]=>true
 |x::a,y::b=>e x y&&tZ e a b
 |_,_=>false
def CD{α:Type}{e:α->α->Bool}{a b:List α}{j:Nat}{x y:α}(m:a[j]?=some x)(n:b[j]?=some y)(l:e x y=true)(h:tZ e a b=tZ e (a.drop j) (b.drop j)):tZ e a b=tZ e (a.drop (j+1)) (b.drop (j+1)):=by
 obtain⟨f,c⟩:=Em.1 m;obtain⟨i,d⟩:=Em.1 n;rw[h,bF f,bF i,c,d];simp only[tZ,l,kL]
def Jm{α:Type}{e:α->α->Bool}{a b:List α}{j:Nat}{x y:α}(m:a[j]?=some x)(n:b[j]?=some y)(l:e x y=false)(h:tZ e a b=tZ e (a.drop j) (b.drop j)):tZ e a b=false:=by
 obtain⟨f,c⟩:=Em.1 m;obtain⟨i,d⟩:=Em.1 n;rw[h,bF f,bF i,c,d];simp only[tZ,l,pW]
def Ei{α:Type}{e:α->α->Bool}{a b:List α}{j:Nat}(c:a.length<=j)(d:b.length<=j)(h:tZ e a b=tZ e (a.drop j) (b.drop j)):tZ e a b=true:=by
 rw[h,cB c,cB d];rfl
theorem CE{α:Type}{e:α->α->Bool}:∀{a b:List α},a.length≠b.length->tZ e a b=false
 |[],[],h=>absurd R h
 |[],_::_,_=>rfl
 |_::_,[],_=>rfl
 |x::a,y::b,h=>by simp only[tZ,CE (a:=a) (b:=b) (λk=>h (by simp[k])),Bool.and_false]
def k_(x y:Nat):Bool:=x==y
def Jx(x y:Wy):Bool:=(((x.S:Int)==(y.S:Int))&&((x.f==y.f)&&((x.data==y.data)&&true)))
def Vn(x y:bp):Bool:=((x.kind==y.kind)&&(((x.S:Int)==(y.S:Int))&&((x.left==y.left)&&((x.data==y.data)&&true))))
def Br(x y:e_):Bool:=tZ (tZ Jx) x.data y.data&&(tZ (tZ Jx) x.u y.u&&(tZ Vn x.U y.U&&tZ k_ x.Zq y.Zq))
def D7(x y:Nat):bI C0 90 [vU x,vU y] (.v (.bool (k_ x y))):=by
 refine bc func90 R ?_;refine zW _ (ak (ba _ _)) ?_;exact fT R R
def D8(x y:Wy):bI C0 156 [.agg (a0 x),.agg (a0 y)] (.v (.bool (Jx x y))):=by
 refine bc func156 R ?_;refine zV (vB ((((x.S:Nat):Int)==((y.S:Nat):Int))&&((x.f==y.f)&&((x.data==y.data)&&true)))) ?_;exact fT R R
def D9(x y:bp):bI C0 88 [.agg (bv x),.agg (bv y)] (.v (.bool (Vn x y))):=by
 refine bc func88 R ?_;refine zV (vB ((x.kind==y.kind)&&((((x.S:Nat):Int)==((y.S:Nat):Int))&&((x.left==y.left)&&((x.data==y.data)&&true))))) ?_;exact fT R R
def A7(a b:List Wy)(q:a.length<=1000000)(r:b.length<=1000000):bI C0 155 [.Y 3 (a.map a0) false,.Y 3 (b.map a0) false,.a 156 [] []] (.v (.bool (tZ Jx a b))):=by
 refine bc func155 R<|zW _ (cD a0 a)<|rW _ R (cD a0 b)<|b0 (ak (db _ _)) (λc=>?_) (λc=>?_)
 .exact fT R (am (λz=>AV.v (.bool z)) (CE (sU c)).symm)
 refine zW _ (cD a0 a)<|dk (κ:=Nat) (λj=>⟨a6 [(0,.Y 3 (a.map a0) false),(1,.Y 3 (b.map a0) false),(2,.a 156 [] []),(14,vN a.length),(15,vN j)],aq [],9⟩) (λj=>j<=a.length/\tZ Jx a b=tZ Jx (a.drop j) (b.drop j)) (λj=>a.length-j) 0 (λs=>s) (au (λs=>s) wT tr R) (⟨aE _,R⟩) ?_;intro j d;have m:j<=1000000:=oH d.1;refine b0 (ak (bl _ _)) (λf=>?_) (λf=>?_)
 .refine zR ?_;have e:=ax f;obtain⟨x,i⟩:∃x,a[j]?=some x:=⟨_,aA e⟩;obtain⟨y,l⟩:∃y,b[j]?=some y:=⟨_,aA (by have:a.length=b.length:=(sU c);omega)⟩;refine zX (a0 x) (.k 3 0 (a0 x)) R (iH i)<|zX (a0 y) (.k 3 0 (a0 y)) R (iH l)<|zC (D8 x y)<|zB R (λh=>?_) (λh=>?_)
  .exact fT R (am (λz=>AV.v (.bool z)) (Jm i l (sU h) d.2).symm)
  skip
  have n:j+1<=1000001:=aD m (aC 1);refine zW _ (ap (bH n R)) ?_;refine⟨j+1,λs=>s,au _ wT tr R,⟨e,CD i l (sU h) d.2⟩,by show a.length-(j+1)<a.length-j;omega⟩
 have o:a.length=b.length:=(sU c);have p:=aF f;exact fT R (am (λz=>AV.v (.bool z)) (Ei ad ad d.2).symm)
def A8(a b:List bp)(q:a.length<=1000000)(r:b.length<=1000000):bI C0 87 [.Y 4 (a.map bv) false,.Y 4 (b.map bv) false,.a 88 [] []] (.v (.bool (tZ Vn a b))):=by
 refine bc func87 R<|zW _ (cD bv a)<|rW _ R (cD bv b)<|b0 (ak (db _ _)) (λc=>?_) (λc=>?_)
 .exact fT R (am (λz=>AV.v (.bool z)) (CE (sU c)).symm)
 refine zW _ (cD bv a)<|dk (κ:=Nat) (λj=>⟨a6 [(0,.Y 4 (a.map bv) false),(1,.Y 4 (b.map bv) false),(2,.a 88 [] []),(14,vN a.length),(15,vN j)],aq [],9⟩) (λj=>j<=a.length/\tZ Vn a b=tZ Vn (a.drop j) (b.drop j)) (λj=>a.length-j) 0 (λs=>s) (au (λs=>s) wT tr R) (⟨aE _,R⟩) ?_;intro j d;have m:j<=1000000:=oH d.1;refine b0 (ak (bl _ _)) (λf=>?_) (λf=>?_)
 .refine zR ?_;have e:=ax f;obtain⟨x,i⟩:∃x,a[j]?=some x:=⟨_,aA e⟩;obtain⟨y,l⟩:∃y,b[j]?=some y:=⟨_,aA (by have:a.length=b.length:=(sU c);omega)⟩;refine zX (bv x) (.k 4 0 (bv x)) R (iH i)<|zX (bv y) (.k 4 0 (bv y)) R (iH l)<|zC (D9 x y)<|zB R (λh=>?_) (λh=>?_)
  .exact fT R (am (λz=>AV.v (.bool z)) (Jm i l (sU h) d.2).symm)
  skip
  have n:j+1<=1000001:=aD m (aC 1);refine zW _ (ap (bH n R)) ?_;refine⟨j+1,λs=>s,au _ wT tr R,⟨e,CD i l (sU h) d.2⟩,by show a.length-(j+1)<a.length-j;omega⟩
 have o:a.length=b.length:=(sU c);have p:=aF f;exact fT R (am (λz=>AV.v (.bool z)) (Ei ad ad d.2).symm)
def A9(a b:List Nat)(q:a.length<=1000000)(r:b.length<=1000000):bI C0 89 [.Y 1 (a.map dU) false,.Y 1 (b.map dU) false,.a 90 [] []] (.v (.bool (tZ k_ a b))):=by
 refine bc func89 R<|zW _ (cD dU a)<|rW _ R (cD dU b)<|b0 (ak (db _ _)) (λc=>?_) (λc=>?_)
 .exact fT R (am (λz=>AV.v (.bool z)) (CE (sU c)).symm)
 refine zW _ (cD dU a)<|dk (κ:=Nat) (λj=>⟨a6 [(0,.Y 1 (a.map dU) false),(1,.Y 1 (b.map dU) false),(2,.a 90 [] []),(14,vN a.length),(15,vN j)],aq [],9⟩) (λj=>j<=a.length/\tZ k_ a b=tZ k_ (a.drop j) (b.drop j)) (λj=>a.length-j) 0 (λs=>s) (au (λs=>s) wT tr R) (⟨aE _,R⟩) ?_;intro j d;have m:j<=1000000:=oH d.1;refine b0 (ak (bl _ _)) (λf=>?_) (λf=>?_)
 .refine zR ?_;have e:=ax f;obtain⟨x,i⟩:∃x,a[j]?=some x:=⟨_,aA e⟩;obtain⟨y,l⟩:∃y,b[j]?=some y:=⟨_,aA (by have:a.length=b.length:=(sU c);omega)⟩;refine zX (dU x) (.k 1 0 (dU x)) R (iH i)<|zX (dU y) (.k 1 0 (dU y)) R (iH l)<|zC (D7 x y)<|zB R (λh=>?_) (λh=>?_)
  .exact fT R (am (λz=>AV.v (.bool z)) (Jm i l (sU h) d.2).symm)
  skip
  have n:j+1<=1000001:=aD m (aC 1);refine zW _ (ap (bH n R)) ?_;refine⟨j+1,λs=>s,au _ wT tr R,⟨e,CD i l (sU h) d.2⟩,by show a.length-(j+1)<a.length-j;omega⟩
 have o:a.length=b.length:=(sU c);have p:=aF f;exact fT R (am (λz=>AV.v (.bool z)) (Ei ad ad d.2).symm)
def A_(a b:List Wy)(c:a.length<=1000000)(d:b.length<=1000000):bI C0 86 [.Y 3 (a.map a0) false,.Y 3 (b.map a0) false] (.v (.bool (tZ Jx a b))):=by
 refine bc func86 R ?_;refine zC (A7 a b c d) ?_;exact fT R R
def sj(a b:List (List Wy))(t:a.length<=1000000)(u:b.length<=1000000)(n:∀s∈a,s.length<=1000000)(o:∀s∈b,s.length<=1000000):bI C0 85 [.Y 1 (a.map bX) false,.Y 1 (b.map bX) false,.a 86 [] []] (.v (.bool (tZ (tZ Jx) a b))):=by
 refine bc func85 R<|zW _ (cD bX a)<|rW _ R (cD bX b)<|b0 (ak (db _ _)) (λc=>?_) (λc=>?_)
 .exact fT R (am (λz=>AV.v (.bool z)) (CE (sU c)).symm)
 refine zW _ (cD bX a)<|dk (κ:=Nat) (λj=>⟨a6 [(0,.Y 1 (a.map bX) false),(1,.Y 1 (b.map bX) false),(2,.a 86 [] []),(14,vN a.length),(15,vN j)],aq [],9⟩) (λj=>j<=a.length/\tZ (tZ Jx) a b=tZ (tZ Jx) (a.drop j) (b.drop j)) (λj=>a.length-j) 0 (λs=>s) (au (λs=>s) wT tr R) (⟨aE _,R⟩) ?_;intro j d;have m:j<=1000000:=oH d.1;refine b0 (ak (bl _ _)) (λi=>?_) (λi=>?_)
 .refine zR ?_;have h:=ax i;obtain⟨x,e⟩:∃x,a[j]?=some x:=⟨_,aA h⟩;obtain⟨y,f⟩:∃y,b[j]?=some y:=⟨_,aA (by have:a.length=b.length:=(sU c);omega)⟩;refine zX (bX x) (.k 1 0 (bX x)) R (iH e)<|zX (bX y) (.k 1 0 (bX y)) R (iH f)<|zC (A_ x y (n x (aB e)) (o y (aB f)))<|zB R (λl=>?_) (λl=>?_)
  .exact fT R (am (λz=>AV.v (.bool z)) (Jm e f (sU l) d.2).symm)
  skip
  have p:j+1<=1000001:=aD m (aC 1);refine zW _ (ap (bH p R)) ?_;refine⟨j+1,λs=>s,au _ wT tr R,⟨h,CD e f (sU l) d.2⟩,by show a.length-(j+1)<a.length-j;omega⟩
 have q:a.length=b.length:=(sU c);have r:=aF i;exact fT R (am (λz=>AV.v (.bool z)) (Ei ad ad d.2).symm)
structure e_.ok(s:e_):Prop where
 data:s.data.length<=1000000
 YM:∀x∈s.data,x.length<=1000000
 u:s.u.length<=1000000
 word:∀x∈s.u,x.length<=1000000
 U:s.U.length<=1000000
 Zq:s.Zq.length<=1000000
def z1(x y:e_)(a:x.ok)(b:y.ok):bI C0 52 [.agg (fg x),.agg (fg y)] (.v (.bool (Br x y))):=by
 refine bc func52 R<|zC (sj x.data y.data a.data b.data a.YM b.YM)<|zG R id<|gS R id<|jQ (x:=vB (tZ (tZ Jx) x.u y.u)) (g:=tZ (tZ Jx) x.data y.data) R R R R b9 R R R (.inl R) R (λc=>sj x.u y.u a.u b.u a.word b.word)<|zN R (λh=>h)<|zG R id<|gS R id<|jQ (x:=vB (tZ Vn x.U y.U)) (g:=cE (tZ (tZ Jx) x.data y.data) (tZ (tZ Jx) x.u y.u) false) R R R R b9 R R R (.inl R) R (λc=>A8 x.U y.U a.U b.U)<|zN R (λh=>h)<|zG R id<|gS R id<|jQ (x:=vB (tZ k_ x.Zq y.Zq)) (g:=cE (cE (tZ (tZ Jx) x.data y.data) (tZ (tZ Jx) x.u y.u) false) (tZ Vn x.U y.U) false) R R R R b9 R R R (.inl R) R (λc=>A9 x.Zq y.Zq a.Zq b.Zq)<|zN R (λh=>h) ?_;exact fT R (am (λz=>AV.v (.bool z)) (by simp only[c2,Br,Bool.and_false,Bool.or_false,lG]))
theorem bI.args{C:a5}{f:FuncId}{b e:List AV}{r:AV}(h:bI C f e r)(k:lj b e):bI C f b r:=
 ⟨h.1,λS w m l j d=>h.2 S w m l j ⟨k.get.1 ▸ d.1,λi a u p q=>by
  have c:i<b.length:=by rw[k.get.1];exact(Em.1 p).1
  exact k.get.2 i b[i] a (aA c) p S w u (d.2 i _ u (aA c) q)⟩⟩
def k8:Cf:=⟨0,0,0,0,0,0,0,0,[],false,[]⟩
def Jl(c:Ca):(kY c).length<=4/\∀s∈kY c,s.length<=2:=by
 unfold kY;split
 .rename_i h;obtain⟨⟨f,i⟩,d⟩:=(jL c).1 h;refine⟨by rw[aH];omega,λs a=>?_⟩;obtain⟨s0,b,rfl⟩:=pG.1 a;obtain⟨k,e⟩:=List.getElem?_of_mem b;have:=((jX c k s0).1 (d k s0 e)).1;rw[aH];omega
 exact⟨aE _,λs a=>by cases a⟩
def y2(c:Co)(b:Int)(d:c.U.length<=1000000)(e:c.N.length<=1000000):(lF c b).ok:=by
 refine⟨?_,λs a=>?_,?_,λs a=>?_,?_,?_⟩
 .have:=(Jl c.data).1;show(kY c.data).length<=_;omega
 .have:=(Jl c.data).2 s a;omega
 .have:=(Jl c.u).1;show(kY c.u).length<=_;omega
 .have:=(Jl c.u).2 s a;omega
 .show(c.U.map ky).length<=_;rw[aH];omega
 show((c.N.drop (Li b).toNat).map (·.M)).length<=_;rw[aH,bD];omega
theorem Co.ok.w{c:Co}{n:Nat}(h:c.ok n)(b:n<=890000):c.okW:=⟨h.data,h.u,oH h.U,λx a=>(h.Z_ x a).S,oH h.ret,λx a=>(h.ZW x a).M⟩
def tC(X:Co)(k:Nat):e_:=lF (uG (bz X k)) ((bz X k).N.length:Nat)
def fQ(X:Co)(k:Nat):List e_:=(List.range k).map (tC X)
def CB(X:Co)(k:Nat):fQ X k++[tC X k]=fQ X (k+1):=by
 unfold fQ;rw[gZ,dH];rfl
def Dk(X:Co)(k:Nat):(fQ X k).length=k:=by unfold fQ;rw[aH,fV]
def Vj{X:Co}(a:X.ok 0){k:Nat}(b:10*k+50<=890000):(tC X k).ok:=by
 have h:=(xX (wW a k ad) ad).w ad;exact y2 _ _ h.U h.ret
def KX{X:Co}(a:X.ok 0){k:Nat}(d:k<=2000):∀s∈fQ X k,s.ok:=λs c=>by
 obtain⟨i,b,rfl⟩:=pG.1 c;exact Vj a (oH (lI.1 b))
def uI:List e_->List e_->Nat->Int
 |[],[],_=> -1
 |x::a,y::b,k=>if Br x y=true then uI a b (k+1)else k
 |_,_,k=>k
def Mn{a b:List e_}{k:Nat}{x y:e_}(i:a[k]?=some x)(j:b[k]?=some y)(h:Br x y=true):uI (a.drop k) (b.drop k) k=uI (a.drop (k+1)) (b.drop (k+1)) (k+1):=by
 obtain⟨e,c⟩:=Em.1 i;obtain⟨f,d⟩:=Em.1 j;rw[bF e,bF f,c,d];exact aa h
def Sn{a b:List e_}{k:Nat}{x y:e_}(i:a[k]?=some x)(j:b[k]?=some y)(h:Br x y=false):uI (a.drop k) (b.drop k) k=k:=by
 obtain⟨e,c⟩:=Em.1 i;obtain⟨f,d⟩:=Em.1 j;rw[bF e,bF f,c,d];exact dZ (by rw[h];decide)
def Vk{a b:List e_}{k:Nat}(c:a.length<=k)(d:k<b.length):uI (a.drop k) (b.drop k) k=k:=by
 rw[cB c,bF d];rfl
def Vl{a b:List e_}{k:Nat}(c:k<a.length)(d:b.length<=k):uI (a.drop k) (b.drop k) k=k:=by
 rw[cB d,bF c];rfl
def Pj{a b:List e_}{k:Nat}(c:a.length<=k)(d:b.length<=k):uI (a.drop k) (b.drop k) k= -1:=by
 rw[cB c,cB d];rfl
def zi(a b:Nat):(if(b:Int)>(a:Int)then(b:Int)else(a:Int))=((max a b:Nat):Int):=by split<;>omega
def Wd{l:List e_}(c:∀s∈l,s.ok)(k:Nat):∃y,y.ok/\(k<l.length->l[k]?=some y):=by
 cases h:l[k]? with
 |none=>exact⟨⟨[],[],[],[]⟩,⟨aE _,λx a=>(List.not_mem_nil a).elim,aE _,λx a=>(List.not_mem_nil a).elim,aE _,aE _⟩,λb=>by rw[aA b]at h;cases h⟩
 |some y=>exact⟨y,c y (aB h),λ_=>rfl⟩
def g2{k m n:Nat}(h:(!(cE (decide (k>=m)) true (decide (k>=n))))=true):k<m/\k<n:=by
 rw[ey]at h;simp at h;omega
def g1{k n:Nat}(h:(!(decide (k>=n)))=true):k<n:=by simp at h;omega
def zj{a b:List e_}{k:Nat}{x y:e_}(i:k<a.length\/k<b.length)(e:k<a.length->a[k]?=some x)(f:k<b.length->b[k]?=some y){p:Bool}(h:cE p true (!(Br x y))=true)(hp:p=true->a.length<=k\/b.length<=k):uI (a.drop k) (b.drop k) k=k:=by
 by_cases c:a.length<=k
 .exact Vk c ad
 .by_cases d:b.length<=k
  .exact Vl ad d
  .refine Sn (e ad) (f ad) ?_
   cases p with
   |true=>exact absurd (hp R) ad
   |false=>rw[ey]at h;simpa using h
def Yj{a b:List e_}{k:Nat}{x y:e_}(c:k<a.length->a[k]?=some x)(d:k<b.length->b[k]?=some y){p:Bool}(h:cE p true (!(Br x y))=false)(hp:p=false->k<a.length/\k<b.length):uI (a.drop k) (b.drop k) k=uI (a.drop (k+1)) (b.drop (k+1)) (k+1):=by
 rw[ey]at h;simp only[dP,mJ]at h;exact Mn (c (hp h.1).1) (d (hp h.1).2) h.2
def s'(c:Cf)(prog:List Nat)(m:ByteArray)(n:Int)(j:c.ok)(hp:∀x∈prog,x<=4294967295)(A:prog.length<=1000):bI C0 21 [.agg (er c false false),.Y 1 (prog.map dU) false,.v (.string m),vI n] (.F [.agg (fm (bz (fX c prog m) (Cd n))),.Y 4 ((fQ (fX c prog m) (Cd n)).map fg) false]):=by
 refine eb func21 R ?_;have f:=Id c prog m j hp;refine aW R (yf c prog m j ad)<|d_ 0 R<|a1 R<|qR 0 R<|zW _ (ap (Qk n 2000))<|jR (κ:=Nat×Bool) (λa=>match a with|(k,false)=>⟨a6 [(8,.ptr 1 0),(9,.Y 0 ([]) true),(11,.ptr 8 0),(18,vI (min n 2000)),(19,vN k),(10,.Y 0 ([]) true)],aq [(0,.box [vI c.mode,vI c.o,vI c.Z,vI c.queue,vI c.V,vI c.m,vI c.O,vI c.ways,.Y 1 (c.q.map bm) false,vB c.tables,.Y 1 (c.tape.map dU) false]),(1,.box h5),(8,.box (fm (bz (fX c prog m) k)))],14⟩|(k,true)=>⟨a6 [(8,.ptr 1 0),(9,.Y 0 ([]) true),(11,.ptr 8 0),(18,vI (min n 2000)),(19,vN k),(10,.X 13 0 ((fQ (fX c prog m) k).length) false)],aq [(0,.box [vI c.mode,vI c.o,vI c.Z,vI c.queue,vI c.V,vI c.m,vI c.O,vI c.ways,.Y 1 (c.q.map bm) false,vB c.tables,.Y 1 (c.tape.map dU) false]),(1,.box h5),(8,.box (fm (bz (fX c prog m) k))),(13,.arr ((fQ (fX c prog m) k).map fg) 4)],14⟩) (λa=>match a with|(k,false)=>(k<=Cd n/\fQ (fX c prog m) k=[])|(k,true)=>(k<=Cd n)) (λa=>Cd n-a.1) (0,false) (λs=>s) (au (λs=>s) wT wH R) (⟨aE _,(show fQ (fX c prog m) 0=[]from R)⟩) ?_;intro a u;obtain⟨k,r⟩:=a;cases r
 all_goals
  have d:=u
  first|have p:k<=Cd n:=d.1|have p:k<=Cd n:=d
  have o:k<=2000:=by have:Cd n<=2000:=(by unfold Cd;omega);omega
  first|have b:fQ (fX c prog m) k=[]:=d.2|(have t:(fQ (fX c prog m) k).length<=2000:=(by rw[Dk];omega))
  have y:Cd n=(min n 2000).toNat:=rfl;have w:(uG (bz (fX c prog m) k)).ok (0+10*k+10):=xX (wW f k ad) ad;have v:0+10*k+10<=890000:=oT;refine qS 0 R<|de (decide ((k:Int)<(min n 2000))) (λe=>?_) (λe=>?_)
  .have h:=ax e;refine zW _ (cD a2 ((bz (fX c prog m) k).N))<|aW R (yq (bz (fX c prog m) k) (0+10*k) (wW f k ad) ad)<|a1 R<|qR 0 R<|aW R (B9 (uG (bz (fX c prog m) k)) ((bz (fX c prog m) k).N.length:Nat) ((xX (wW f k ad) ad).w ad))<|rV (.Y 4 ([[.Y 1 (((tC (fX c prog m) k).data).map bX) false,.Y 1 (((tC (fX c prog m) k).u).map bX) false,.Y 4 (((tC (fX c prog m) k).U).map bv) false,.Y 1 (((tC (fX c prog m) k).Zq).map dU) false]]) true) R ?_
   first|refine zF (x:=.X 27 0 1 false) (h':=an _ 27 (some (.arr (([tC (fX c prog m) k]).map fg) 4))) (Iw ad) (⟨R,by exact ad,by exact ad,tr⟩) ?_|refine zF (x:=.X 27 0 ((fQ (fX c prog m) k).length+1) false) (h':=an (an _ 13 none) 27 (some (.arr (((fQ (fX c prog m) k)++([tC (fX c prog m) k])).map fg) 4))) (iP fg (fQ (fX c prog m) k) ([tC (fX c prog m) k]) ad ad) (⟨by exact ad,by exact ad,tr⟩) ?_
   have q:k+1<=2001:=aD o (aC 1);refine zW _ (ap (bH q R)) ?_
   first|(refine⟨(k+1,true),λi=>match i with|13=>27|i=>i,au _ ⟨⟨R,R⟩,⟨R,R⟩,⟨R,R⟩,⟨R,R⟩,⟨R,R⟩,⟨(show AV.X 27 0 (1) false=AV.X 27 0 (fQ (fX c prog m) (k+1)).length false from by rw[<-(show [tC (fX c prog m) k]=fQ (fX c prog m) (k+1)from(by rw[<-(CB (fX c prog m) k),b];rfl))];first|done|rfl|(congr 1<;>(first|exact ad|simp))),rfl⟩,trivial⟩ ⟨⟨rfl,rfl,rfl⟩,⟨rfl,rfl,rfl⟩,⟨rfl,rfl,rfl⟩,⟨rfl,(am (λz:List e_=>some (a'.arr (z.map fg) 4)) (show [tC (fX c prog m) k]=fQ (fX c prog m) (k+1)from(by rw[<-(CB (fX c prog m) k),b];rfl))),R⟩,tr⟩ R,oT,by show Cd n-(k+1)<Cd n-k;omega⟩)|(refine⟨(k+1,true),λi=>match i with|13=>27|i=>i,au _ ⟨⟨R,R⟩,⟨R,R⟩,⟨R,R⟩,⟨R,R⟩,⟨R,R⟩,⟨(show AV.X 27 0 ((fQ (fX c prog m) k).length+1) false=AV.X 27 0 (fQ (fX c prog m) (k+1)).length false from by rw[<-(show(fQ (fX c prog m) k)++([tC (fX c prog m) k])=fQ (fX c prog m) (k+1)from CB (fX c prog m) k)];first|done|rfl|(congr 1<;>(first|exact ad|simp))),rfl⟩,trivial⟩ ⟨⟨rfl,rfl,rfl⟩,⟨rfl,rfl,rfl⟩,⟨rfl,rfl,rfl⟩,⟨rfl,(am (λz:List e_=>some (a'.arr (z.map fg) 4)) (show(fQ (fX c prog m) k)++([tC (fX c prog m) k])=fQ (fX c prog m) (k+1)from CB (fX c prog m) k)),R⟩,tr⟩ R,oT,by show Cd n-(k+1)<Cd n-k;omega⟩)
  have h:=aF e;refine nj 0 R<|a1 R<|cg 0 R ?_;have l:k=Cd n:=oT;rw[<-l]
  first|(exact⟨_,rfl,trivial,rfl,Sub.F ⟨Sub.refl _,(by show Sub (.Y 0 [] true) (.Y 4 ((fQ (fX c prog m) k).map fg) false);rw[b];exact oM 4 false),trivial⟩⟩)|(exact⟨_,rfl,⟨ga,(by show 0+((fQ (fX c prog m) k).length)<=((fQ (fX c prog m) k).map fg).length;exact ad),trivial⟩,rfl,Sub.F ⟨Sub.refl _,(by show Sub (.Y 4 (List.take (fQ (fX c prog m) k).length (List.drop 0 ((fQ (fX c prog m) k).map fg))) false) (.Y 4 ((fQ (fX c prog m) k).map fg) false);rw[jW fg (fQ (fX c prog m) k) (aC _)];exact Sub.refl _),trivial⟩⟩)
def Yk(a b:List e_)(v:a.length<=2000)(w:b.length<=2000)(p:∀s∈a,s.ok)(q:∀s∈b,s.ok):bI C0 22 [.Y 4 (a.map fg) false,.Y 4 (b.map fg) false] (vI (uI a b 0)):=by
 refine bc func22 R<|zW _ (cD fg a)<|rW _ R (cD fg b)<|zW _ (ap (zi a.length b.length))<|dk (κ:=Nat) (λk=>⟨a6 [(0,.Y 4 (a.map fg) false),(1,.Y 4 (b.map fg) false),(10,vN (max a.length b.length)),(11,vN k)],aq [],7⟩) (λk=>k<=(max a.length b.length)/\uI a b 0=uI (a.drop k) (b.drop k) k) (λk=>(max a.length b.length)-k) 0 (λs=>s) (au (λs=>s) wT tr R) (⟨aE _,R⟩) ?_;intro k f;have u:k<=(max a.length b.length):=f.1;have r:k<=2000:=oT;obtain⟨h,m,c⟩:=Wd p k;obtain⟨i,n,d⟩:=Wd q k;refine b0 (ak (bl _ _)) (λj=>?_) (λj=>?_)
 .have o:=ax j;refine a7<|oR 2 R<|rW _ R (cD fg a)<|rW _ R (ak (im _ _))<|oR 1 R<|gN R<|gN R<|aw R id (cD fg b)<|aw R b9 (ak (im _ _))<|bO R R R (by simp)<|oR 1 R<|gN R<|gN R<|DK (fg h) (x:=.k 4 0 (fg h)) (g:= !(cE (decide (k>=a.length)) true (decide (k>=b.length)))) R R R R b9 R R (λe=>⟨aG _,iH (c (g2 e).1)⟩) R<|gS R id<|gN R<|gN R<|DK (fg i) (x:=.k 4 0 (fg i)) (g:= !(cE (decide (k>=a.length)) true (decide (k>=b.length)))) R R R R b9 R R (λe=>⟨aG _,iH (d (g2 e).2)⟩) R<|gS R id<|jQ (x:=vB (Br h i)) (g:= !(cE (decide (k>=a.length)) true (decide (k>=b.length)))) R R R R b9 R R R (.inl R) R (λe=>z1 h i m n)<|gS R id<|bO R R R (by simp)<|rE 32<|jk 0 R<|zB R (λl=>?_) (λl=>?_)
  .exact fT R (am (λz:Int=>AV.v (.int .i64 z)) (f.2.trans (zj ad c d l (λz=>by rw[ey]at z;simp at z;omega))).symm)
  skip
  have t:k+1<=2001:=aD r (aC 1);refine zW _ (ap (bH t R)) ?_;refine⟨k+1,λs=>s,au _ wT tr R,⟨oT,f.2.trans (Yj c d l (λz=>by rw[ey]at z;simp at z;omega))⟩,by show(max a.length b.length)-(k+1)<(max a.length b.length)-k;omega⟩
 have o:=aF j;exact fT R (am (λz:Int=>AV.v (.int .i64 z)) (f.2.trans (Pj ad ad)).symm)
def We(a b:Int):(if b>a then b else a)=max a b:=by split<;>omega
structure cn where
 M:Nat
 W:Nat
 size:Int
 d:Int
 Zz:Nat
 halt:Int
abbrev b8(e:cn):List AV:=[.v (.int .u32 (e.M:Int)),.v (.int .u32 (e.W:Int)),.v (.int .i64 e.size),.v (.int .i64 e.d),.v (.int .u32 (e.Zz:Int)),.v (.int .i64 e.halt)]
def bu(a:Bool)(x:Sp):cn:=⟨x.M,x.W,x.size,x.d,if a=true/\0<x.size/\x.store=false then x.value else 0,x.halt⟩
def Ye(a b:cn):Bool:=((a.M:Int)==b.M)&&(((a.W:Int)==b.W)&&((a.size==b.size)&&((a.d==b.d)&&(((a.Zz:Int)==b.Zz)&&((a.halt==b.halt)&&true)))))
def br:List cn->List cn->Nat
 |a::l,b::m=>if Ye a b=true then br l m+1 else 0
 |_,_=>0
theorem Eh:∀l m,br l m<=l.length/\br l m<=m.length
 |[],m=>by simp[br]
 |a::l,[]=>by simp[br]
 |a::l,b::m=>by
  have:=Eh l m;simp only[br];split<;>simp<;>omega
abbrev lu:cn:=⟨0,0,0,0,0,0⟩
def Wa{a:Bool}{x:Sp}(h:cE (cE a (decide (x.size>0)) false) (!x.store) false=true):(⟨x.M,x.W,x.size,x.d,x.value,x.halt⟩:cn)=bu a x:=by
 have:a=true/\0<x.size/\x.store=false:=by
  cases a<;>cases b:x.store<;>by_cases c:0<x.size<;>simp[cE,b,c]at h⊢
 unfold bu;rw[aa this]
def s8{a:Bool}{x:Sp}(h:cE (cE a (decide (x.size>0)) false) (!x.store) false=false):(⟨x.M,x.W,x.size,x.d,0,x.halt⟩:cn)=bu a x:=by
 have: ¬(a=true/\0<x.size/\x.store=false):=by
  rintro⟨rfl,b,c⟩;simp[cE,b,c]at h
 unfold bu;rw[dZ this]
def Jh{l:List Sp}{a:Bool}{k:Nat}{x:Sp}{e:cn}(c:l[k]?=some x)(b:e=bu a x):(l.take k).map (bu a)++[e]=(l.take (k+1)).map (bu a):=by
 rw[bW,c,b];simp
def Sa(l:List cn)(k:Nat):∃y,k<l.length->l[k]?=some y:=by
 cases h:l[k]? with
 |none=>exact⟨lu,λa=>by rw[aA a]at h;cases h⟩
 |some y=>exact⟨y,λ_=>rfl⟩
def Sb{a b:List cn}{k:Nat}{x y:cn}(j:a[k]?=some x)(l:b[k]?=some y)(i:Ye x y=true)(h:br a b=k+br (a.drop k) (b.drop k)):br a b=k+1+br (a.drop (k+1)) (b.drop (k+1)):=by
 obtain⟨e,c⟩:=Em.1 j;obtain⟨f,d⟩:=Em.1 l;rw[h,bF e,bF f,c,d];show k+(if Ye x y=true then br _ _+1 else 0)=_;rw[aa i];omega
def Sc{a b:List cn}{k:Nat}{x y:cn}(e:k<a.length->a[k]?=some x)(f:k<b.length->b[k]?=some y)(h: ¬((k<a.length/\k<b.length)/\Ye x y=true)):br (a.drop k) (b.drop k)=0:=by
 by_cases c:k<a.length
 .by_cases d:k<b.length
  .obtain⟨l,i⟩:=Em.1 (e c);obtain⟨m,j⟩:=Em.1 (f d);rw[bF c,bF d,i,j];exact dZ λq=>h ⟨⟨c,d⟩,q⟩
  rw[cB (l:=b) ad];cases a.drop k<;>rfl
 rw[cB (l:=a) ad];cases b.drop k<;>rfl
def CJ(prog:List Nat)(m:ByteArray)(n:Int)(a:Bool):List cn:=((e9 prog (a3 m) (cz prog (min n 10000).toNat (a3 m))).map Prod.snd).map (bu a)
def Ji(prog:List Nat)(m:ByteArray)(n:Int)(a:Bool):(CJ prog m n a).length<=10000:=by
 unfold CJ;rw[aH,aH,lR];have:=AB prog (min n 10000).toNat (a3 m);omega
def yM(c:Cf)(n:Int):Int:=(bZ c).o*min (max n 0) 2000+(bZ c).Z
def Mk{x:Int}(a: -9223372036854775808<=x)(b:x<9223372036854775808):wrap64 x=x:=by unfold wrap64;omega
def NS(n lo a:Int)(h:lo<=a):lo<=bV n lo a/\bV n lo a<=a:=by unfold bV;(repeat' split)<;>omega
def Sd(c:Cf)(n:Int):0<=(bZ c).o*min (max n 0) 2000/\(bZ c).o*min (max n 0) 2000<=4000:=by
 have h:1<=(bZ c).o/\(bZ c).o<=2:=NS c.o 1 2 dT;have h2:(bZ c).o=1\/(bZ c).o=2:=oT;rcases h2 with h2|h2<;>rw[h2]<;>omega
def Se(c:Cf):2<=(bZ c).Z/\(bZ c).Z<=8:=NS c.Z 2 8 dT
def Vf(A B:List cn)(a:Int)(p q:Nat):Bool:=
 if p≠q then false else if((br A B:Nat):Int)>=a then true else(br A B==A.length)&&((br A B==B.length)&&(decide (0<br A B)&&((A[br A B-1]?).getD lu).halt != 0))
def Sf{a b:Bool}:cE a b false=(a&&b):=by cases a<;>rfl
def S4(l:List Sp)(a:Bool)(t:l.length<=10000):bI C0 83 [.Y 9 (l.map a2) false,vB a] (.Y 6 ((l.map (bu a)).map b8) false):=by
 refine bc func83 R ?_;refine rW _ R (cD a2 l)<|zF (x:=.X 3 0 0 false) (h':=an _ 3 (some (.arr (([]:List cn).map b8) 6))) (rfl) (⟨dT,FG.2 ad,by show((l.length:Nat):Int)<=1000000;omega⟩) ?_;refine zW _ (cD a2 l)<|dk (κ:=Nat) (λk=>⟨a6 [(1,vB a),(4,.Y 0 ([]) true),(12,.Y 9 (l.map a2) false),(13,vN l.length),(14,vN k),(5,.X 8 0 (((l.take k).map (bu a)).length) false)],aq [(8,.arr (((l.take k).map (bu a)).map b8) 6)],9⟩) (λk=>k<=l.length) (λk=>l.length-k) 0 (λi=>match i with|8=>3|i=>i) (au (λi=>match i with|8=>3|i=>i) ⟨⟨R,R⟩,⟨R,R⟩,⟨R,R⟩,⟨R,R⟩,⟨R,R⟩,⟨(show AV.X 3 0 (0) false=AV.X 3 0 ((l.take 0).map (bu a)).length false from by rw[<-(show([]:List cn)=(l.take 0).map (bu a)from R)];first|done|rfl),rfl⟩,trivial⟩ ⟨⟨rfl,(am (λz:List cn=>some (a'.arr (z.map b8) 6)) (show([]:List cn)=(l.take 0).map (bu a)from R)),R⟩,tr⟩ R) (aE _) ?_;intro k q;have j:=q;have s:k<=l.length:=j;have d:k<=10000:=oT;have p:((l.take k).map (bu a)).length<=10000:=(by rw[aH,aM];omega);refine b0 (ak (bl _ _)) (λe=>?_) (λe=>?_)
 .have f:=ax e;obtain⟨x,c⟩:∃r,l[k]?=some r:=⟨_,aA ad⟩;refine zX (a2 x) (.k 9 0 (a2 x)) R (iH c)<|zV (.agg [vU x.M,vU x.W,vI x.size,vI x.d,.v (.int .u32 0),vI x.halt]) ?_;refine gS R id<|aw (x:=vB (decide (x.size>0))) R id R<|zN R (λh=>h)<|gS R id<|gS R id<|zN R (λh=>h) ?_;refine zB R (λb=>?_) (λb=>?_)
  .refine rV (.Y 6 ([[vU x.M,vU x.W,vI x.size,vI x.d,vU x.value,vI x.halt]]) true) R<|zF (x:=.X 45 0 (((l.take k).map (bu a)).length+1) false) (h':=an (an _ 8 none) 45 (some (.arr ((((l.take k).map (bu a))++([(⟨x.M,x.W,x.size,x.d,x.value,x.halt⟩:cn)])).map b8) 6))) (iP b8 ((l.take k).map (bu a)) ([(⟨x.M,x.W,x.size,x.d,x.value,x.halt⟩:cn)]) ad ad) (⟨by exact ad,by exact ad,tr⟩) ?_;have n:k+1<=10001:=aD d (aC 1);refine zW _ (ap (bH n R)) ?_;refine⟨k+1,λi=>match i with|8=>45|i=>i,au _ ⟨⟨R,R⟩,⟨R,R⟩,⟨R,R⟩,⟨R,R⟩,⟨R,R⟩,⟨(show AV.X 45 0 (((l.take k).map (bu a)).length+1) false=AV.X 45 0 ((l.take (k+1)).map (bu a)).length false from by rw[<-(show((l.take k).map (bu a))++([(⟨x.M,x.W,x.size,x.d,x.value,x.halt⟩:cn)])=(l.take (k+1)).map (bu a)from Jh c (Wa b))];first|done|rfl|(congr 1<;>(first|exact ad|simp))),rfl⟩,trivial⟩ ⟨⟨rfl,(am (λz:List cn=>some (a'.arr (z.map b8) 6)) (show((l.take k).map (bu a))++([(⟨x.M,x.W,x.size,x.d,x.value,x.halt⟩:cn)])=(l.take (k+1)).map (bu a)from Jh c (Wa b))),R⟩,tr⟩ R,oT,by show l.length-(k+1)<l.length-k;omega⟩
  refine rV (.Y 6 ([[vU x.M,vU x.W,vI x.size,vI x.d,.v (.int .u32 0),vI x.halt]]) true) R<|zF (x:=.X 41 0 (((l.take k).map (bu a)).length+1) false) (h':=an (an _ 8 none) 41 (some (.arr ((((l.take k).map (bu a))++([(⟨x.M,x.W,x.size,x.d,0,x.halt⟩:cn)])).map b8) 6))) (iP b8 ((l.take k).map (bu a)) ([(⟨x.M,x.W,x.size,x.d,0,x.halt⟩:cn)]) ad ad) (⟨by exact ad,by exact ad,tr⟩) ?_;have o:k+1<=10001:=aD d (aC 1);refine zW _ (ap (bH o R)) ?_;refine⟨k+1,λi=>match i with|8=>41|i=>i,au _ ⟨⟨R,R⟩,⟨R,R⟩,⟨R,R⟩,⟨R,R⟩,⟨R,R⟩,⟨(show AV.X 41 0 (((l.take k).map (bu a)).length+1) false=AV.X 41 0 ((l.take (k+1)).map (bu a)).length false from by rw[<-(show((l.take k).map (bu a))++([(⟨x.M,x.W,x.size,x.d,0,x.halt⟩:cn)])=(l.take (k+1)).map (bu a)from Jh c (s8 b))];first|done|rfl|(congr 1<;>(first|exact ad|simp))),rfl⟩,trivial⟩ ⟨⟨rfl,(am (λz:List cn=>some (a'.arr (z.map b8) 6)) (show((l.take k).map (bu a))++([(⟨x.M,x.W,x.size,x.d,0,x.halt⟩:cn)])=(l.take (k+1)).map (bu a)from Jh c (s8 b))),R⟩,tr⟩ R,oT,by show l.length-(k+1)<l.length-k;omega⟩
 have f:=aF e;have m:k=l.length:=oT;refine dK R (by show 0+(((l.take k).map (bu a)).length)<=(((l.take k).map (bu a)).map b8).length;exact ad) R ?_;show AV.Y 6 (List.take ((l.take k).map (bu a)).length (List.drop 0 (((l.take k).map (bu a)).map b8))) false=_;rw[jW b8 _ (aC _),m,cH]
def Yf{a b:Bool}(h:a=true)(k:b=true):cE a b false=true:=by rw[h,k];rfl
def zd(a b:List cn)(u:a.length<=10000)(v:b.length<=10000):bI C0 49 [.Y 6 (a.map b8) false,.Y 6 (b.map b8) false] (vN (br a b)):=by
 refine bc func49 R ?_;refine dk (κ:=Nat) (λk=>⟨a6 [(0,.Y 6 (a.map b8) false),(1,.Y 6 (b.map b8) false),(5,vN k)],aq [],2⟩) (λk=>k<=a.length/\k<=b.length/\br a b=k+br (a.drop k) (b.drop k)) (λk=>a.length-k) 0 (λs=>s) (au (λs=>s) wT tr R) (⟨aE _,aE _,(bJ _).symm⟩) ?_;intro k m;have o:k<=10000:=oT;obtain⟨j,c⟩:=Sa a k;obtain⟨l,d⟩:=Sa b k;refine a7<|oR 2 R<|rW _ R (cD b8 a)<|rW _ R (ak (bl _ _))<|oR 1 R<|gN R<|gN R<|aw (x:=vN b.length) R id (cD b8 b)<|aw (x:=vB (decide (k<b.length))) R b9 (ak (bl _ _))<|bO R R R (λh=>h)<|oR 1 R<|gN R<|gN R<|DK (b8 j) (x:=.k 6 0 (b8 j)) (g:=cE (decide (k<a.length)) (decide (k<b.length)) false) R R R R b9 R R (λi=>⟨aG _,iH (c (ax (vD i).1))⟩) R ?_;refine gS R id<|gN R<|gN R<|DK (b8 l) (x:=.k 6 0 (b8 l)) (g:=cE (decide (k<a.length)) (decide (k<b.length)) false) R R R R b9 R R (λi=>⟨aG _,iH (d (ax (vD i).2))⟩) R<|gS R id<|aw (x:=vB (Ye j l)) R b9 R<|bO R R R (λh=>h)<|rE 23 ?_;refine jk 0 R<|zB R (λf=>?_) (λf=>?_)
 .skip
  have t:k+1<=10001:=aD o (aC 1);refine zW _ (ap (bH t R)) ?_;refine⟨k+1,λs=>s,au _ wT tr R,by have q:=vD f;have e:=vD q.1;have p:=ax e.1;have r:=ax e.2;exact⟨oT,oT,Sb (c p) (d r) q.2 m.2.2⟩,by have q:=vD f;have e:=vD q.1;have p:=ax e.1;have r:=ax e.2;show a.length-(k+1)<a.length-k;omega⟩
 exact fT R (am (λn:Nat=>AV.v (.int .i64 (n:Int))) (by rw[m.2.2,Sc c d (λq=>Sk f ⟨Yf (jP q.1.1) (jP q.1.2),q.2⟩)];rfl))
def s9(prog:List Nat)(m:ByteArray)(n:Int)(a:Bool)(hp:∀x∈prog,x<=4294967295)(c:prog.length<=1000):bI C0 48 [.Y 1 (prog.map dU) false,.v (.string m),vI n,vB a] (.Y 6 ((CJ prog m n a).map b8) false):=by
 refine bc func48 R ?_;have b:((e9 prog (a3 m) (cz prog (min n 10000).toNat (a3 m))).map Prod.snd).length<=10000:=by rw[aH,lR];have:=AB prog (min n 10000).toNat (a3 m);omega
 refine zC (zh prog m n false hp c) ?_;refine zC (S4 ((e9 prog (a3 m) (cz prog (min n 10000).toNat (a3 m))).map Prod.snd) a b) ?_;exact fT R R
def B8(c:Cf)(n:Int)(a:c.ok):bI C0 12 [.agg (er c false false),vI n] (vI (yM c n)):=by
 refine bc func12 R ?_;have b:=Sd c n;have d:=Se c;refine zC (Eb c false false a)<|rW _ R (ap (We n 0))<|rW _ R (ap (Qk (max n 0) 2000)) ?_;refine zW _ (ap ((af _).trans (Mk ad ad)))<|zW _ (ap ((af _).trans (Mk ad ad))) ?_;exact fT R R
def Vg{A B:List cn}{y:cn}(b:(0<br A B/\br A B<=A.length)->A[br A B-1]?=some y):((br A B==A.length)&&((br A B==B.length)&&(decide (0<br A B)&&((A[br A B-1]?).getD lu).halt != 0)))=cE (cE (cE (br A B==A.length) (br A B==B.length) false) (decide (br A B>0)) false) (y.halt != 0) false:=by
 have a:=(Eh A B).1;rw[Sf,Sf,Sf];by_cases h:0<br A B
 .rw[b ⟨h,a⟩];simp[lG]
 simp[h]
def Wb(c:Cf)(prog:List Nat)(m w:ByteArray)(n:Int)(a:Bool)(z:c.ok)(hp:∀x∈prog,x<=4294967295)(u:prog.length<=1000):bI C0 20 [.agg (er c false false),.Y 1 (prog.map dU) false,.v (.string m),.v (.string w),vI n,vB a] (.F [vN (br (CJ prog m (yM c n) a) (CJ prog w (yM c n) a)),vB (Vf (CJ prog m (yM c n) a) (CJ prog w (yM c n) a) (yM c n) (jB m).size (jB w).size)]):=by
 refine dI func20 ?_;obtain⟨A,f⟩:∃A,A=CJ prog m (yM c n) a:=⟨_,R⟩;obtain⟨B,i⟩:∃B,B=CJ prog w (yM c n) a:=⟨_,R⟩;obtain⟨p,j⟩:∃p,p=(jB m).size:=⟨_,R⟩;obtain⟨q,l⟩:∃q,q=(jB w).size:=⟨_,R⟩;rw[<-f, <-i, <-j, <-l];have o:A.length<=10000:=by rw[f];exact Ji ..
 have t:B.length<=10000:=by rw[i];exact Ji ..
 have G:br A B<=10000:=aL (Eh A B).1 o;have F:=Eh A B;have D:p<=300:=by rw[j,wE];exact aL (RA _) dT
 have E:q<=300:=by rw[l,wE];exact aL (RA _) dT
 obtain⟨y,v⟩:∃y,(0<br A B/\br A B<=A.length)->A[br A B-1]?=some y:=(Sa A (br A B-1)).imp λy h k=>h ad;refine qS 0 R<|zC (B8 c n z)<|zC (x:=.Y 6 (A.map b8) false) ((by rw[f];exact s9 prog m (yM c n) a hp u)) ?_;refine zC (x:=.Y 6 (B.map b8) false) ((by rw[i];exact s9 prog w (yM c n) a hp u))<|zC (zd A B o t) ?_;refine aW R (KF m)<|zW (vN p) (ap (by rw[j]))<|aW R (KF w)<|rW (vN q) R (ap (by rw[l]))<|zW (vB (p != q)) (ak (db _ _)) ?_;refine zB R (λb=>?_) (λb=>?_)
 .have r:=wM b;have e:Vf A B (yM c n) p q=false:=aa (sU b);rw[e];exact fT R R
 have r:=wN b;refine de (decide (((br A B:Nat):Int)>=(yM c n))) (λd=>?_) (λd=>?_)
 .have s:=ax d;have e:Vf A B (yM c n) p q=true:=(dZ (sU b)).trans (aa (sU d));rw[e];exact fT R R
 have s:=aF d;refine rW (vN A.length) R (cD b8 A)<|zW (vB ((br A B)==A.length)) (ak (ba _ _))<|aw (x:=vN B.length) R id (cD b8 B)<|aw (x:=vB ((br A B)==B.length)) R b9 (ak (ba _ _))<|zN R (λh=>h)<|a7 ?_;refine oR 3 R<|gN R<|aw (x:=vB (decide ((br A B)>0))) R id (ak (fq _ _))<|bO R R R (λh=>h)<|oR 1 R<|gN R<|gN R<|aw (x:=vI (((br A B:Nat):Int)-1)) R id (ap ((af _).trans (Mk ad ad))) ?_;refine DK (b8 y) (x:=.k 6 0 (b8 y)) (g:=cE (cE ((br A B)==A.length) ((br A B)==B.length) false) (decide ((br A B)>0)) false) R R R R b9 R R (λC=>by have q:=vD C;have H:=ax q.2;exact⟨by show(0:Int)<=((br A B:Nat):Int)-1;omega,by rw[aX,(oT:(((br A B:Nat):Int)-1).toNat=br A B-1),v ad];rfl⟩) R ?_;refine gS R id<|gS R id<|aw (x:=vB (y.halt != 0)) R id R<|bO R R R (λh=>h)<|oR 2 R<|rE 61<|ck 0 R ?_;have e:Vf A B (yM c n) p q=cE (cE (cE (br A B==A.length) (br A B==B.length) false) (decide (br A B>0)) false) (y.halt != 0) false:=(dZ (sU b)).trans ((dZ (sU d)).trans (Vg v));rw[e];exact fT R R
def A6(c:Cf)(prog:List Nat)(m w:ByteArray)(n:Int)(a:Bool)(d:c.ok)(hp:∀x∈prog,x<=4294967295)(e:prog.length<=1000):bI C0 11 [.agg (er c false false),.Y 1 (prog.map dU) false,.v (.string m),.v (.string w),vI n,vB a] (.agg [vN (br (CJ prog m (yM c n) a) (CJ prog w (yM c n) a)),vB (Vf (CJ prog m (yM c n) a) (CJ prog w (yM c n) a) (yM c n) (jB m).size (jB w).size),vI (uI (fQ (fX c prog m) (Cd n)) (fQ (fX c prog w) (Cd n)) 0)]):=by
 refine bc func11 R ?_;have b:Cd n<=2000:=by unfold Cd;omega
 refine zC (Wb c prog m w n a d hp e)<|aW R (s' c prog m n d hp e) ?_;refine d_ 0 R<|dv 22 (fm (bz (fX c prog m) (Cd n))) R R R<|qR 0 R<|aW R (s' c prog w n d hp e)<|d_ 0 R<|dv 33 (fm (bz (fX c prog w) (Cd n))) R R R ?_;refine qR 0 R<|aW R (Yk (fQ (fX c prog m) (Cd n)) (fQ (fX c prog w) (Cd n)) (by rw[Dk];exact b) (by rw[Dk];exact b) (KX (Id c prog m d hp) b) (KX (Id c prog w d hp) b))<|zV (.agg [vN (br (CJ prog m (yM c n) a) (CJ prog w (yM c n) a)),vB (Vf (CJ prog m (yM c n) a) (CJ prog w (yM c n) a) (yM c n) (jB m).size (jB w).size),vI (uI (fQ (fX c prog m) (Cd n)) (fQ (fX c prog w) (Cd n)) 0)]) ?_;exact dK R ga R R
def tj:br (CJ [1048691] ⟨#[]⟩ (yM k8 4) true) (CJ [1048691] ⟨#[]⟩ (yM k8 4) true)=1/\Vf (CJ [1048691] ⟨#[]⟩ (yM k8 4) true) (CJ [1048691] ⟨#[]⟩ (yM k8 4) true) (yM k8 4) (jB ⟨#[]⟩).size (jB ⟨#[]⟩).size=true:=by
 decide+kernel
def Yb:bI C0 20 [.agg [vI 0,vI 0,vI 0,vI 0,vI 0,vI 0,vI 0,vI 0,.Y 0 [] true,vB false,.Y 0 [] true],.Y 1 [[vU 1048691]] true,.v (.string ⟨#[]⟩),.v (.string ⟨#[]⟩),vI 4,vB true] (.F [vN 1,vB true]):=by
 have h:=Wb k8 [1048691] ⟨#[]⟩ ⟨#[]⟩ 4 true ⟨by simp[k8],by simp[k8],λx a=>by cases a⟩ (λx a=>by rw[uJ.1 a];decide) dT;rw[tj.1,tj.2]at h;exact h.args ⟨Sub.agg ⟨Sub.refl _,Sub.refl _,Sub.refl _,Sub.refl _,Sub.refl _,Sub.refl _,Sub.refl _,Sub.refl _,oM 1 false,Sub.refl _,oM 1 false,tr⟩,Sub.clip _ _ _,Sub.refl _,Sub.refl _,Sub.refl _,Sub.refl _,tr⟩
def Yc:bI C0 15 [] (vB true):=by
 refine bc func15 R ?_;refine rV (.agg [vI 0,vI 0,vI 0,vI 0,vI 0,vI 0,vI 0,vI 0,.Y 0 ([]) true,vB false,.Y 0 ([]) true]) R<|rV (.Y 1 ([[.v (.int .u32 1048691)]]) true) R<|zC (Yb)<|zW _ (ak (ba _ _)) ?_;refine zN R (λh=>h) ?_;exact fT R R
def xv(a b:Nat)(h:a<=4294967295)(i:b<=4294967295):(((a/65536)*(b/65536))+((((a%65536)*(b/65536))+(((a%65536)*(b%65536))/65536))/65536)+((((a/65536)*(b%65536))+((((a%65536)*(b/65536))+(((a%65536)*(b%65536))/65536))%65536))/65536))%4294967296=a*b/4294967296:=by
 have e:a*b=4294967296*((a/65536)*(b/65536))+65536*((a/65536)*(b%65536))+65536*((a%65536)*(b/65536))+(a%65536)*(b%65536):=by
  have d:a=65536*(a/65536)+a%65536:=oT;have f:b=65536*(b/65536)+b%65536:=oT;generalize a/65536=x at d⊢;generalize a%65536=y at d⊢;generalize b/65536=z at f⊢;generalize b%65536=t at f⊢;subst d f;simp only[Nat.mul_add,cG];have j:65536*x*(65536*z)=4294967296*(x*z):=by rw[Nat.mul_mul_mul_comm]
  have l:65536*x*t=65536*(x*t):=by rw[Nat.mul_assoc]
  have m:y*(65536*z)=65536*(y*z):=by rw[Nat.mul_left_comm]
  omega
 have c:a*b<=4294967295*4294967295:=cJ h i;rw[e]at c⊢;generalize (a/65536)*(b/65536)=p at c⊢;generalize (a/65536)*(b%65536)=q at c⊢;generalize (a%65536)*(b/65536)=r at c⊢;generalize (a%65536)*(b%65536)=s at c⊢;omega
def B7(a b:Nat)(w:a<=4294967295)(x:b<=4294967295):bI C0 101 [.v (.int .u32 (a:Int)),.v (.int .u32 (b:Int))] (.v (.int .u32 ((a*b/4294967296:Nat):Int))):=by
 refine bc func101 R ?_;have l:a%65536<=65535:=aI (aQ _ dT);refine nW (.v (.int .u32 ((a%65536:Nat):Int))) R R dT<|zW _ (ap (nJ l R)) ?_;have c:a/65536<=65535:=eG w;refine nW _ R (ij (nJ c R)) dT<|zW _ (ap (nJ c R)) ?_;have m:b%65536<=65535:=aI (aQ _ dT);refine nW (.v (.int .u32 ((b%65536:Nat):Int))) R R dT<|zW _ (ap (nJ m R)) ?_;have d:b/65536<=65535:=eG x;refine nW _ R (ij (nJ d R)) dT<|zW _ (ap (nJ d R)) ?_;have r:(a%65536)*(b%65536)<=4294836225:=cJ l m;refine zW _ (ap (nJ r R)) ?_;have s:(a%65536)*(b/65536)<=4294836225:=cJ l d;refine zW _ (ap (nJ s R)) ?_;have t:((a%65536)*(b%65536))/65536<=65534:=eG r;refine nW _ R (ij (nJ t R)) dT ?_;have u:((a%65536)*(b/65536))+(((a%65536)*(b%65536))/65536)<=4294901759:=aD s t;refine zW _ (ap (nJ u R)) ?_;have v:(a/65536)*(b%65536)<=4294836225:=cJ c m;refine zW _ (ap (nJ v R)) ?_;have o:(((a%65536)*(b/65536))+(((a%65536)*(b%65536))/65536))%65536<=65535:=aI (aQ _ dT);refine nW (.v (.int .u64 (((((a%65536)*(b/65536))+(((a%65536)*(b%65536))/65536))%65536:Nat):Int))) R R dT ?_;have e:((a/65536)*(b%65536))+((((a%65536)*(b/65536))+(((a%65536)*(b%65536))/65536))%65536)<=4294901760:=aD v o;refine zW _ (ap (nJ e R)) ?_;have f:(a/65536)*(b/65536)<=4294836225:=cJ c d;refine zW _ (ap (nJ f R)) ?_;have h:(((a%65536)*(b/65536))+(((a%65536)*(b%65536))/65536))/65536<=65534:=eG u;refine nW _ R (ij (nJ h R)) dT ?_;have i:((a/65536)*(b/65536))+((((a%65536)*(b/65536))+(((a%65536)*(b%65536))/65536))/65536)<=4294901759:=aD f h;refine zW _ (ap (nJ i R)) ?_;have j:(((a/65536)*(b%65536))+((((a%65536)*(b/65536))+(((a%65536)*(b%65536))/65536))%65536))/65536<=65535:=eG e;refine nW _ R (ij (nJ j R)) dT ?_;have p:(((a/65536)*(b/65536))+((((a%65536)*(b/65536))+(((a%65536)*(b%65536))/65536))/65536))+((((a/65536)*(b%65536))+((((a%65536)*(b/65536))+(((a%65536)*(b%65536))/65536))%65536))/65536)<=4294967294:=aD i j;refine rW _ R (ap (nJ p R)) ?_;have q:((((a/65536)*(b/65536))+((((a%65536)*(b/65536))+(((a%65536)*(b%65536))/65536))/65536))+((((a/65536)*(b%65536))+((((a%65536)*(b/65536))+(((a%65536)*(b%65536))/65536))%65536))/65536))%4294967296<=4294967295:=aI (aQ _ dT);refine nW (.v (.int .u64 ((((((a/65536)*(b/65536))+((((a%65536)*(b/65536))+(((a%65536)*(b%65536))/65536))/65536))+((((a/65536)*(b%65536))+((((a%65536)*(b/65536))+(((a%65536)*(b%65536))/65536))%65536))/65536))%4294967296:Nat):Int))) R R dT<|zW _ (ap (nJ q R)) ?_;exact qY R tr R (am (λn:Nat=>AV.v (.int .u32 (n:Int))) (xv a b w x))
def wL(a:Nat)(c:a<=4294967295):bI C0 102 [.v (.int .u32 (a:Int))] (.v (.int .i64 (bw a))):=by
 refine bc func102 R ?_;refine zW (.v (.bool (decide (a>=2147483648)))) (ak (im _ _)) ?_;refine zB R (λb=>?_) (λb=>?_)
 .refine rW (.v (.int .i64 (a:Int))) R (ap (bH c R))<|zV (.v (.int .i64 (IntKind.wrap .i64 ((a:Int)-4294967296)))) ?_;exact qY R tr R (am (λn:Int=>AV.v (.int .i64 n)) (by have:=ax b;unfold bw;rw[dZ ad];exact dd ad ad))
 refine zW (.v (.int .i64 (a:Int))) (ap (bH c R)) ?_;exact qY R tr R (am (λn:Int=>AV.v (.int .i64 n)) (by have:=aF b;unfold bw;rw[aa ad]))
def sS(a:Int):((a=11\/a=14\/a=16)/\bh a=1)\/((a=12\/a=15\/a=17)/\bh a=2)\/((a=13\/a=18)/\bh a=4)\/((a<11\/18<a)/\bh a=0):=by
 unfold bh
 (repeat' split)<;>first|(simp;done)|(simp;omega)
def b2(a:Int):Nat:=
 if a<1\/48<a then 0 else if a<=2 then 85 else if a=3 then 74 else if a=4 then 73 else if a<=10 then 66 else if a<=15 then 73 else if a<=18 then 83
 else if a<=24 then 73 else if a<=27 then 84 else if a<=45 then 82 else 87
def dN(a:Int):((a<1\/48<a)/\b2 a=0)\/((1<=a/\a<=2)/\b2 a=85)\/((a=3)/\b2 a=74)\/((a=4)/\b2 a=73)\/((5<=a/\a<=10)/\b2 a=66)\/((11<=a/\a<=15)/\b2 a=73)\/((16<=a/\a<=18)/\b2 a=83)\/((19<=a/\a<=24)/\b2 a=73)\/((25<=a/\a<=27)/\b2 a=84)\/((28<=a/\a<=45)/\b2 a=82)\/((46<=a/\a<=48)/\b2 a=87):=by
 unfold b2
 (repeat' split)<;>first|(simp;done)|(simp;omega)
def oG(a:Int):((3<=a/\a<=10)/\aj a=5)\/((11<=a/\a<=15)/\aj a=3)\/((16<=a/\a<=18)/\aj a=4)\/((38<=a/\a<=41)/\aj a=1)\/((42<=a/\a<=45)/\aj a=2)\/((a=47\/a=48)/\aj a=6)\/((a<3\/(19<=a/\a<=37)\/a=46\/48<a)/\aj a=0):=by
 unfold aj
 (repeat' split)<;>first|(simp;done)|(simp;omega)
def Dl(i:SI):((b2 i.op=82\/b2 i.op=73\/b2 i.op=84\/b2 i.op=85\/b2 i.op=74)/\wr i=i.rd)\/(¬(b2 i.op=82\/b2 i.op=73\/b2 i.op=84\/b2 i.op=85\/b2 i.op=74)/\wr i=0):=by
 unfold wr;have:yW (cW i.op)=decide (b2 i.op=82\/b2 i.op=73\/b2 i.op=84\/b2 i.op=85\/b2 i.op=74):=by
  unfold cW b2
  (repeat' split)<;>first|rfl|(exfalso;omega)
 rw[this];simp only[aY];split<;>omega
def tf(a:Int):bI C0 37 [vI a] (.v (.int .i64 ((bh a:Nat):Int))):=by
 refine bc func37 R ?_;refine ct a 11 (λb=>?_) (λb=>?_)
 .refine zT (bT.2 b) ?_;exact fI R (oH (sS a))
 refine ct a 14 (λc=>?_) (λc=>?_)
 .refine zT (bT.2 c) ?_;exact fI R (oH (sS a))
 refine ct a 16 (λh=>?_) (λh=>?_)
 .exact fI R (oH (sS a))
 refine ct a 12 (λd=>?_) (λd=>?_)
 .refine zT (bT.2 d) ?_;exact fI R (oH (sS a))
 refine ct a 15 (λe=>?_) (λe=>?_)
 .refine zT (bT.2 e) ?_;exact fI R (oH (sS a))
 refine ct a 17 (λi=>?_) (λi=>?_)
 .exact fI R (oH (sS a))
 refine ct a 13 (λf=>?_) (λf=>?_)
 .refine zT (bT.2 f) ?_;exact fI R (oH (sS a))
 refine ct a 18 (λj=>?_) (λj=>?_)
 .exact fI R (oH (sS a))
 exact fI R (oH (sS a))
def Vs(a : Int):bI C0 58 [vI a] (.v (.int .u8 ((b2 a:Nat):Int))):=by
 refine bc func58 R ?_;refine ct a 1 (λm=>?_) (λm=>?_)
 .refine zT (bT.2 m) ?_;exact fI R (oH (dN a))
 refine ct a 2 (λx=>?_) (λx=>?_)
 .exact fI R (oH (dN a))
 refine ct a 3 (λy=>?_) (λy=>?_)
 .exact fI R (oH (dN a))
 refine ct a 5 (λs=>?_) (λs=>?_)
 .refine zT (bT.2 s) ?_;exact fI R (oH (dN a))
 refine ct a 6 (λt=>?_) (λt=>?_)
 .refine zT (bT.2 t) ?_;exact fI R (oH (dN a))
 refine ct a 7 (λu=>?_) (λu=>?_)
 .refine zT (bT.2 u) ?_;exact fI R (oH (dN a))
 refine ct a 8 (λv=>?_) (λv=>?_)
 .refine zT (bT.2 v) ?_;exact fI R (oH (dN a))
 refine ct a 9 (λw=>?_) (λw=>?_)
 .refine zT (bT.2 w) ?_;exact fI R (oH (dN a))
 refine ct a 10 (λz=>?_) (λz=>?_)
 .exact fI R (oH (dN a))
 refine ct a 16 (λb=>?_) (λb=>?_)
 .refine zT (bT.2 b) ?_;exact fI R (oH (dN a))
 refine ct a 17 (λc=>?_) (λc=>?_)
 .refine zT (bT.2 c) ?_;exact fI R (oH (dN a))
 refine ct a 18 (λn=>?_) (λn=>?_)
 .exact fI R (oH (dN a))
 refine ct a 25 (λd=>?_) (λd=>?_)
 .refine zT (bT.2 d) ?_;exact fI R (oH (dN a))
 refine ct a 26 (λe=>?_) (λe=>?_)
 .refine zT (bT.2 e) ?_;exact fI R (oH (dN a))
 refine ct a 27 (λo=>?_) (λo=>?_)
 .exact fI R (oH (dN a))
 refine ct a 46 (λf=>?_) (λf=>?_)
 .refine zT (bT.2 f) ?_;exact fI R (oH (dN a))
 refine ct a 47 (λi=>?_) (λi=>?_)
 .refine zT (bT.2 i) ?_;exact fI R (oH (dN a))
 refine ct a 48 (λp=>?_) (λp=>?_)
 .exact fI R (oH (dN a))
 refine zV (vB (a==4))<|aw (x:=vB (decide (a>=11))) R id R<|zG R id<|aw (x:=vB (decide (a<=15))) R id R<|pB (x:=vB (cE (decide (a>=11)) (decide (a<=15)) false)) (g:= !(a==4)) R R R R (λh=>h) R R (λl j=>by first|(rw[l,j];rfl)|simp_all)<|zN rfl (by simp) ?_;refine aw (x:=vB (decide (a>=19))) R id R<|zG R id<|aw (x:=vB (decide (a<=24))) R id R<|pB (x:=vB (cE (decide (a>=19)) (decide (a<=24)) false)) (g:= !(cE (a==4) true (cE (decide (a>=11)) (decide (a<=15)) false))) R R R R (λh=>h) R R (λl j=>by first|(rw[l,j];rfl)|simp_all)<|zN rfl (by simp) ?_;refine ci ((a=4\/(a>=11/\a<=15))\/(a>=19/\a<=24)) (wP _ _ (wP _ _ bT (uA _ _ qW qW)) (uA _ _ qW qW)) (λq=>?_) (λq=>?_)
 .exact fI R (oH (dN a))
 refine zV (vB (decide (a>=28)))<|aw (x:=vB (decide (a<=45))) R id R<|zN R (λh=>h) ?_;refine ci (a>=28/\a<=45) (uA _ _ qW qW) (λr=>?_) (λr=>?_)
 .exact fI R (oH (dN a))
 exact fI R (oH (dN a))
def SE(a:Int):bI C0 34 [vI a] (.v (.int .i64 ((aj a:Nat):Int))):=by
 refine bc func34 R ?_;refine zC (Vs _)<|zW _ (ak (ba _ _)) ?_;refine dx (b2 a) 83 (λb=>?_) (λb=>?_)
 .exact fI R (by have:=dN a;have:=oG a;omega)
 refine zW _ (ak (ba _ _))<|aw (x:=vB ((b2 a)==74)) R id (ak (ba _ _))<|zN R (by simp)<|aw (x:=vB (a==4)) R id R<|zN R (by simp) ?_;refine ci (((b2 a)=66\/(b2 a)=74)\/a=4) (wP _ _ (wP _ _ bT bT) bT) (λc=>?_) (λc=>?_)
 .exact fI R (by have:=dN a;have:=oG a;omega)
 refine zV (vB (decide (a>=11)))<|aw (x:=vB (decide (a<=15))) R id R<|zN R (λh=>h) ?_;refine ci (a>=11/\a<=15) (uA _ _ qW qW) (λd=>?_) (λd=>?_)
 .exact fI R (by have:=dN a;have:=oG a;omega)
 refine zV (vB (decide (a>=38)))<|aw (x:=vB (decide (a<=41))) R id R<|zN R (λh=>h) ?_;refine ci (a>=38/\a<=41) (uA _ _ qW qW) (λe=>?_) (λe=>?_)
 .exact fI R (by have:=dN a;have:=oG a;omega)
 refine zV (vB (decide (a>=42)))<|aw (x:=vB (decide (a<=45))) R id R<|zN R (λh=>h) ?_;refine ci (a>=42/\a<=45) (uA _ _ qW qW) (λf=>?_) (λf=>?_)
 .exact fI R (by have:=dN a;have:=oG a;omega)
 refine zV (vB (a==47))<|aw (x:=vB (a==48)) R id R<|zN R (by simp) ?_;refine ci (a=47\/a=48) (wP _ _ bT bT) (λi=>?_) (λi=>?_)
 .exact fI R (by have:=dN a;have:=oG a;omega)
 exact fI R (by have:=dN a;have:=oG a;omega)
def Yw(i:SI):bI C0 35 [g9 i] (.v (.int .i64 (wr i))):=by
 refine bc func35 R ?_;refine zC (Vs _) ?_;refine zW _ (ak (ba _ _)) ?_;refine dx (b2 i.op) 82 (λa=>?_) (λa=>?_)
 .refine zT (bT.2 a) ?_;exact fI R (oH (Dl i))
 refine zW _ (ak (ba _ _)) ?_;refine dx (b2 i.op) 73 (λb=>?_) (λb=>?_)
 .refine zT (bT.2 b) ?_;exact fI R (oH (Dl i))
 refine zW _ (ak (ba _ _)) ?_;refine dx (b2 i.op) 84 (λc=>?_) (λc=>?_)
 .refine zT (bT.2 c) ?_;exact fI R (oH (Dl i))
 refine zW _ (ak (ba _ _)) ?_;refine dx (b2 i.op) 85 (λd=>?_) (λd=>?_)
 .refine zT (bT.2 d) ?_;exact fI R (oH (Dl i))
 refine zW _ (ak (ba _ _)) ?_;refine dx (b2 i.op) 74 (λe=>?_) (λe=>?_)
 .exact fI R (oH (Dl i))
 exact fI R (oH (Dl i))
def ob(is:Bool):bI C0 107 [vB is] (.v (.int .u32 (((if is=true then 1 else 0:Nat)):Int))):=by
 refine bc func107 R ?_;refine ci (is=true) Iff.rfl (λa=>?_) (λa=>?_)
 .exact fI R (by rw[aa a];rfl)
 exact fI R (by rw[dZ a];rfl)
def zv(c:Int)(a b:Nat)(d:a<=4294967295)(e:b<=4294967295):bI C0 67 [vI c,vU a,vU b] (.v (.bool (tB c a b))):=by
 refine bc func67 R ?_;refine ct c 5 (λf=>?_) (λf=>?_)
 .refine zW _ (ak (ba _ _)) ?_;exact i6 R (by unfold tB;(repeat' split)<;>first|rfl|(exfalso;omega)|(rw[bB];simp;done)|(rw[bB];simp;omega))
 refine ct c 6 (λh=>?_) (λh=>?_)
 .refine zW _ (ak (ba _ _)) ?_;exact i6 R (by unfold tB;(repeat' split)<;>first|rfl|(exfalso;omega)|(rw[bB];simp;done)|(rw[bB];simp;omega))
 refine ct c 7 (λi=>?_) (λi=>?_)
 .refine zC (wL a d)<|aW R (wL b e)<|zV (vB (decide ((bw a)<(bw b)))) ?_;exact i6 R (by unfold tB;(repeat' split)<;>first|rfl|(exfalso;omega)|(rw[bB];simp;done)|(rw[bB];simp;omega))
 refine ct c 8 (λj=>?_) (λj=>?_)
 .refine zC (wL a d)<|aW R (wL b e)<|zV (vB (decide ((bw a)<(bw b)))) ?_;exact i6 R (by unfold tB;(repeat' split)<;>first|rfl|(exfalso;omega)|(rw[bB];simp;done)|(rw[bB];simp;omega))
 refine ct c 9 (λl=>?_) (λl=>?_)
 .refine zW _ (ak (bl _ _)) ?_;exact i6 R (by unfold tB;(repeat' split)<;>first|rfl|(exfalso;omega)|(rw[bB];simp;done)|(rw[bB];simp;omega))
 refine ct c 10 (λm=>?_) (λm=>?_)
 all_goals
  first|(refine zW _ (ak (bl _ _)) ?_)|skip
  exact i6 rfl (by unfold tB;(repeat' split)<;>first|rfl|(exfalso;omega)|(rw[bB];simp;done)|(rw[bB];simp;omega))
def x6(a b:Nat)(h:a<=4294967295)(i:b<=4294967295):bw a*bw b=((a*b:Nat):Int)-4294967296*((if a>=2147483648 then(b:Int)else 0)+(if b>=2147483648 then(a:Int)else 0))+(if a>=2147483648/\b>=2147483648 then 18446744073709551616 else 0):=by
 have e:((a*b:Nat):Int)=(a:Int)*b:=Int.natCast_mul a b;rw[e];unfold bw;have c:((a:Int)-4294967296)*b=a*b-4294967296*b:=Int.sub_mul ..;have d:(a:Int)*(b-4294967296)=a*b-a*4294967296:=Int.mul_sub ..;have f:((a:Int)-4294967296)*(b-4294967296)=a*b-4294967296*b-(a*4294967296-18446744073709551616):=by rw[Int.mul_sub,Int.sub_mul,Int.sub_mul];omega
 (repeat' split)<;>first|(exfalso;omega)|(simp only[c,d,f];omega)|omega
def x7(a b:Nat)(d:a<=4294967295)(f:b<=4294967295):bw a*b=((a*b:Nat):Int)-4294967296*(if a>=2147483648 then(b:Int)else 0):=by
 have e:((a*b:Nat):Int)=(a:Int)*b:=Int.natCast_mul a b;rw[e];unfold bw;have c:((a:Int)-4294967296)*b=a*b-4294967296*b:=Int.sub_mul ..
 (repeat' split)<;>first|(exfalso;omega)|(simp only[c];omega)|omega
def nP(a b:Nat)(d:a<=4294967295)(e:b<=4294967295)(c:Int)(x:Int)(h:(c=38/\x=((a*b%4294967296:Nat):Int))\/(c=39/\x=(((a*b/4294967296:Nat):Int)-(if a>=2147483648 then(b:Int)else 0)-(if b>=2147483648 then(a:Int)else 0))%4294967296)\/(c=40/\x=(((a*b/4294967296:Nat):Int)-(if a>=2147483648 then(b:Int)else 0))%4294967296)\/
  (c=41/\x=((a*b/4294967296:Nat):Int))\/(¬c=38/\ ¬c=39/\ ¬c=40/\ ¬c=41/\x=0)):x=((hJ c a b:Nat):Int):=by
 have f:a*b<=4294967295*4294967295:=cJ d e;unfold hJ fi;rw[x6 a b d e,x7 a b d e];generalize a*b=p at *
 (repeat' split at h)<;>(repeat' split)<;>omega
def B_(c:Int)(a b:Nat)(d:a<=4294967295)(e:b<=4294967295):bI C0 62 [vI c,vU a,vU b] (.v (.int .u32 ((hJ c a b:Nat):Int))):=by
 refine bc func62 R ?_;have p:a*b/4294967296<=4294967295:=oH (cJ d e);refine zC (B7 a b d e)<|zV (vB (c==39)) ?_;refine aw (x:=vB (c==40)) R id R<|zN R (by simp)<|aw (x:=vB (decide (a>=2147483648))) R id (ak (im _ _))<|zN R (λh=>h) ?_;refine ci ((c=39\/c=40)/\a>=2147483648) (uA _ _ (wP _ _ bT bT) qW) (λm=>?_) (λm=>?_)
 all_goals
  first|(skip;have q:((a*b/4294967296)+4294967296-b)%4294967296<=4294967295:=aI (aQ _ dT);refine zW _ (ap (Gn e R)) ?_)|skip
  refine zV (vB (c==39))<|aw (x:=vB (decide (b>=2147483648))) R id (ak (im _ _))<|zN R (λh=>h) ?_;refine ci (c=39/\b>=2147483648) (uA _ _ bT qW) (λn=>?_) (λn=>?_)
  all_goals
   first
    |skip
     first|(have i:((((a*b/4294967296)+4294967296-b)%4294967296)+4294967296-a)%4294967296<=4294967295:=aI (aQ _ dT);refine zW _ (ap (Gn d R)) ?_)|(have i:((a*b/4294967296)+4294967296-a)%4294967296<=4294967295:=aI (aQ _ dT);refine zW _ (ap (Gn d R)) ?_)
    |skip
   refine zV (vB (c==39))<|aw (x:=vB (c==40)) R id R<|zN R (by simp)<|aw (x:=vB (c==41)) R id R<|zN R (by simp) ?_
   first
    |refine ci ((c=39\/c=40)\/c=41) (wP _ _ (wP _ _ bT bT) bT) (λf=>?_) (λf=>absurd f ad);exact fI R (nP a b d e c _ ad)
    |refine ci ((c=39\/c=40)\/c=41) (wP _ _ (wP _ _ bT bT) bT) (λf=>?_) (λf=>?_)
     .exact fI R (nP a b d e c _ ad)
     .refine ct c 38 (λo=>?_) (λo=>?_)
      .refine zW _ (ap (nJ d R))<|rW _ R (ap (nJ e R)) ?_;have j:a*b<=18446744065119617025:=cJ d e;refine rW _ R (ap (nJ j R)) ?_;have l:(a*b)%4294967296<=4294967295:=aI (aQ _ dT);refine nW (.v (.int .u64 (((a*b)%4294967296:Nat):Int))) R R dT<|zW _ (ap (nJ l R)) ?_;exact fI R (nP a b d e c _ ad)
      .exact fI R (nP a b d e c _ ad)
def B2(i:SI)(pc a b:Nat)(q:i.C<=4294967295)(m:pc<=4294967295)(j:a<=4294967295)(l:b<=4294967295):bI C0 44 [g9 i,.v (.int .u32 (pc:Int)),.v (.int .u32 (a:Int)),.v (.int .u32 (b:Int))] (.v (.int .u32 ((qP i.op i.C pc a b:Nat):Int))):=by
 refine bc func44 R ?_;refine ct i.op 4 (λf=>?_) (λf=>?_)
 .skip;have n:(a+i.C)%4294967296<=4294967295:=aI (aQ _ dT);refine zV (vU ((a+i.C)%4294967296)) ?_;have c:((a+i.C)%4294967296)%2<=1:=aI (aQ _ dT);refine nW (vU (((a+i.C)%4294967296)%2)) R R dT ?_;have o:(((a+i.C)%4294967296)+4294967296-(((a+i.C)%4294967296)%2))%4294967296<=4294967295:=aI (aQ _ dT);refine zW _ (ap (Gn c R)) ?_;exact fI R (by have t4:i.op=4->tB i.op a b=false:=(λe=>by rw[e];rfl);unfold qP;(repeat' split)<;>first|omega|(simp_all;done)|(simp_all;omega))
 refine zV (vB (i.op==3))<|zG rfl id<|jQ (args:=[vI i.op,vU a,vU b]) (x:=vB (tB i.op a b)) (g:= !(i.op==3)) R R R R b9 R R R (.inl R) R (λp=>zv i.op a b j l)<|zN R (by simp) ?_;refine ci (i.op=3\/(tB i.op a b)=true) (wP _ _ bT Iff.rfl) (λh=>?_) (λh=>?_)
 all_goals
  skip
  first|(have d:(pc+i.C)%4294967296<=4294967295:=aI (aQ _ dT);refine zV (vU ((pc+i.C)%4294967296)) ?_)|(have d:(pc+4)%4294967296<=4294967295:=aI (aQ _ dT);refine zV (vU ((pc+4)%4294967296)) ?_)
  exact fI R (by have t4:i.op=4->tB i.op a b=false:=(λe=>by rw[e];rfl);unfold qP;(repeat' split)<;>first|omega|(simp_all;done)|(simp_all;omega))
def Ek(a:Int)(x:Nat)(b:x<=4294967295):((cd a x:Nat):Int)=if a=42\/a=44 then(if bw x<0 then-bw x else bw x)else(x:Int):=by
 unfold cd bw
 (repeat' split)<;>omega
def FC(x:Nat)(a:x<=4294967295): -2147483648<=bw x/\bw x<=2147483647:=by unfold bw;split<;>omega
def Wg(b:Int)(a:Nat)(c:a<=4294967295):bI C0 68 [vI b,vU a] (.v (.int .i64 ((cd b a:Nat):Int))):=by
 refine bc func68 R ?_;refine zW (vI (a:Int)) (ap (dd ad ad))<|zV (vB (b==42)) ?_;refine aw (x:=vB (b==44)) R id R<|zN R (by simp) ?_;refine ci (b=42\/b=44) (wP _ _ bT bT) (λd=>?_) (λd=>?_)
 .refine zC (wL a c)<|zV (vB (decide ((bw a)<0))) ?_;refine ci ((bw a)<0) qW (λe=>?_) (λe=>?_)
  .refine zW (vI (-(bw a))) (ap (by rw[Int.zero_sub];exact dd (oH (FC a c)) (oH (FC a c)))) ?_;exact fI R (by rw[Ek b a c];(repeat' split)<;>omega)
  exact fI R (by rw[Ek b a c];(repeat' split)<;>omega)
 refine zV (vB (decide ((a:Int)<0))) ?_;refine ci ((a:Int)<0) qW (λf=>?_) (λf=>?_)
 .refine zW (vI (-(a:Int))) (ap (by rw[Int.zero_sub];exact dd (oH (FC a c)) (oH (FC a c)))) ?_;exact fI R (by rw[Ek b a c];(repeat' split)<;>omega)
 exact fI R (by rw[Ek b a c];(repeat' split)<;>omega)
def SF(n:Int)(h: ¬(Int.tmod n 4294967296<0)):IntKind.wrap .u32 (Int.tmod n 4294967296)=((fi n:Nat):Int):=by
 rw[tP];simp only[IntKind.wrap,IntKind.signed,IntKind.bits];have:=Int.mul_tdiv_add_tmod n 4294967296;simp;omega
def Po(n:Int)(h:Int.tmod n 4294967296<0):IntKind.wrap .u32 (Int.tmod n 4294967296+4294967296)=((fi n:Nat):Int):=by
 rw[tP];simp only[IntKind.wrap,IntKind.signed,IntKind.bits];have:=Int.mul_tdiv_add_tmod n 4294967296;simp;omega
def Vt(n:Int):bI C0 103 [vI n] (.v (.int .u32 ((fi n:Nat):Int))):=by
 refine bc func103 R ?_;refine zM (vI (Int.tmod n 4294967296)) R dT<|zV (vB (decide ((Int.tmod n 4294967296)<0))) ?_;refine ci ((Int.tmod n 4294967296)<0) qW (λa=>?_) (λa=>?_)
 .refine zW _ (ap (dd (by have:=Int.tmod_lt_of_pos n (dT:(0:Int)<4294967296);have:=Int.lt_tmod_of_pos n (dT:(0:Int)<4294967296);omega) (by have:=Int.tmod_lt_of_pos n (dT:(0:Int)<4294967296);omega)))<|zW _ (ap (Po n a)) ?_;exact fT R R
 refine zW _ (ap (SF n a)) ?_;exact fT R R
def ts(a b:Nat)(c:a<=4294967295)(d:b<=4294967295)(h: ¬b=0):bw b≠0:=by unfold bw;split<;>omega
def tu(a b:Nat)(c:a<=4294967295)(d:b<=4294967295)(h: ¬b=0):(b:Int)≠0:=oT
def SG(x y:Int)(a: -4294967295<=x)(b:x<=4294967295): -4294967295<=Int.tdiv x y/\Int.tdiv x y<=4294967295:=by
 have:=Int.natAbs_tdiv_le_natAbs x y;omega
def B'(a b:Nat)(c:a<=4294967295)(d:b<=4294967295):IntKind.wrap .i64 (Int.tdiv (bw a) (bw b))=Int.tdiv (bw a) (bw b):=by
 have:=FC a c;have:=SG (bw a) (bw b) ad ad;exact dd ad ad
def CX(a b:Nat)(d:a<=4294967295)(c:b<=4294967295):IntKind.wrap .i64 (Int.tdiv (a:Int) (b:Int))=Int.tdiv (a:Int) (b:Int):=by
 have:=SG (a:Int) (b:Int) ad ad;exact dd ad ad
def x8(a b:Nat)(d:a<=4294967295)(e:b<=4294967295):2147483648<=a^^^b↔ ¬(2147483648<=a↔2147483648<=b):=by
 have c:∀x:Nat,x<=4294967295->(2147483648<=x↔x.testBit 31=true):=by
  intro x f;rw[Nat.testBit_eq_decide_div_mod_eq];simp;omega
 have f:a^^^b<2 ^ 32:=iM (n:=32) ad ad;rw[c a d,c b e,c (a^^^b) ad,Nat.testBit_xor];cases a.testBit 31<;>cases b.testBit 31<;>simp
def B3(j:Int)(a b:Nat)(h:a<=4294967295)(i:b<=4294967295)(l: ¬b=0)(m:j=42):fi (Int.tdiv (bw a) (bw b))=ek j a b:=by
 subst m;unfold ek zI cd;simp only[l,eE,true_or,fD,true_and,x8 a b h i];unfold fi bw;have e:∀x y:Nat,(x:Int).tdiv (y:Int)=((x/y:Nat):Int):=λx y=>rfl;have f:∀x:Nat,2147483648<=x->x<=4294967295->(x:Int)-4294967296= -((4294967296-x:Nat):Int):=λx c d=>by omega
 by_cases c:2147483648<=a<;>by_cases d:2147483648<=b
 .rw[dZ ad,dZ ad,f a c h,f b d i,Int.neg_tdiv,Int.tdiv_neg,Int.neg_neg,e];have:=cO (4294967296-a) (4294967296-b);simp only[c,d,iff_self,not_true,eE,fD];generalize (4294967296-a)/(4294967296-b)=q at *;omega
 .rw[dZ ad,aa ad,f a c h,Int.neg_tdiv,e];have:=cO (4294967296-a) b;simp only[c,d,iff_false,not_true,not_false_iff,eE,fD];omega
 .rw[aa ad,dZ ad,f b d i,Int.tdiv_neg,e];have:=cO a (4294967296-b);simp only[c,d,pI,not_true,not_false_iff,eE,fD];omega
 rw[aa ad,aa ad,e];have:=cO a b;simp only[c,d,iff_self,not_true,eE];generalize a/b=q at *;omega
def B4(c:Int)(a b:Nat)(j:a<=4294967295)(i:b<=4294967295)(f: ¬b=0)(h:c=43):fi (Int.tdiv (a:Int) (b:Int))=ek c a b:=by
 subst h;have d:ek 43 a b=a/b:=by unfold ek zI cd;simp[f]
 rw[d];unfold fi;have e:(a:Int).tdiv (b:Int)=((a/b:Nat):Int):=rfl;rw[e];have:=cO a b;generalize a/b=q at *;omega
def B5(j:Int)(a b:Nat)(h:a<=4294967295)(i:b<=4294967295)(l: ¬b=0)(m:j=44):fi (Int.tmod (bw a) (bw b))=ek j a b:=by
 subst m;unfold ek zI cd;simp only[l,eE,or_true,true_or,fD,true_and,(dT:¬((44:Int)=42\/(44:Int)=43))];unfold fi bw;have e:∀x y:Nat,(x:Int).tmod (y:Int)=((x%y:Nat):Int):=λx y=>rfl;have f:∀x:Nat,2147483648<=x->x<=4294967295->(x:Int)-4294967296= -((4294967296-x:Nat):Int):=λx c d=>by omega
 by_cases c:2147483648<=a<;>by_cases d:2147483648<=b
 .rw[dZ ad,dZ ad,f a c h,f b d i,Int.neg_tmod,Int.tmod_neg,e];have:=gR (4294967296-a) (4294967296-b);simp only[c,d,fD];omega
 .rw[dZ ad,aa ad,f a c h,Int.neg_tmod,e];have:=gR (4294967296-a) b;simp only[c,d,eE,fD];omega
 .rw[aa ad,dZ ad,f b d i,Int.tmod_neg,e];have:=gR a (4294967296-b);simp only[c,d,eE,fD];omega
 rw[aa ad,aa ad,e];have:=gR a b;simp only[c,d,eE];omega
def B6(c:Int)(a b:Nat)(j:a<=4294967295)(i:b<=4294967295)(f: ¬b=0)(h:c=45):fi (Int.tmod (a:Int) (b:Int))=ek c a b:=by
 subst h;have d:ek 45 a b=a%b:=by unfold ek zI cd;simp[f]
 rw[d];unfold fi;have e:(a:Int).tmod (b:Int)=((a%b:Nat):Int):=rfl;rw[e];have:=gR a b;generalize a%b=q at *;omega
def C2(c:Int)(a b:Nat)(d:a<=4294967295)(e:b<=4294967295):bI C0 63 [vI c,vU a,vU b] (.v (.int .u32 ((ek c a b:Nat):Int))):=by
 refine bc func63 R ?_;refine zV (vB (decide (c<42)))<|aw (x:=vB (decide (c>45))) R id R<|zN R (by simp) ?_;refine ci (c<42\/c>45) (wP _ _ qW qW) (λh=>?_) (λh=>?_)
 .exact fI R (by unfold ek;(repeat' split)<;>omega)
 refine zV (vB (c==42))<|aw (x:=vB (c==43)) R id R<|zN R (by simp)<|zW _ (ak (ba _ _)) ?_;refine dx b 0 (λf=>?_) (λf=>?_)
 .skip
  refine ci (c=42\/c=43) (wP _ _ bT bT) (λi=>?_) (λi=>?_)
  .exact fI R (by unfold ek;(repeat' split)<;>omega)
  exact fI R (by unfold ek;(repeat' split)<;>omega)
 refine zW _ (ap (dd ad ad))<|zW _ (ap (dd ad ad)) ?_;refine zV (vB (c==42))<|aw (x:=vB (c==44)) R id R<|zN R (by simp) ?_;refine ci (c=42\/c=44) (wP _ _ bT bT) (λj=>?_) (λj=>?_)
 .refine zC (wL a d)<|zC (wL b e) ?_;refine ci (c=42\/c=43) (wP _ _ bT bT) (λl=>?_) (λl=>?_)
  .refine nW _ R (ij (B' a b d e)) (ts a b d e f)<|zC (Vt _) ?_;exact fN R (B3 c a b d e ad ad)
  refine nW (vI (Int.tmod (bw a) (bw b))) R R (ts a b d e f)<|zC (Vt _) ?_;exact fN R (B5 c a b d e ad ad)
 skip
 refine ci (c=42\/c=43) (wP _ _ bT bT) (λm=>?_) (λm=>?_)
 .refine nW _ R (ij (CX a b d e)) (tu a b d e f)<|zC (Vt _) ?_;exact fN R (B4 c a b d e ad ad)
 refine nW (vI (Int.tmod (a:Int) (b:Int))) R R (tu a b d e f)<|zC (Vt _) ?_;exact fN R (B6 c a b d e ad ad)
def ft:List Nat->Nat
 |[]=>0
 |b::l=>(2*ft l+b)%4294967296
theorem Jq:∀(l:List Nat),(∀b∈l,b<2)->l.length<=32->ft l=jp l
 |[],_,_=>rfl
 |b::l,a,e=>by
  have d:l.length<=31:=by simp at e;omega
  have ih:=Jq l (λx c=>a x (bY _ c)) oT;have f:=SM l (λx c=>a x (bY _ c));have h:=a b ce;have i:2 ^ l.length<=2 ^ 31:=bU dT d;show(2*ft l+b)%4294967296=2*jp l+b;rw[ih];omega
def c1{α:Type}(g:Nat->α)(k:Nat):List α:=(List.range k).map g
def ll{α:Type}(g:Nat->α)(k:Nat):(c1 g k).length=k:=by simp[c1]
def SH{α:Type}(g:Nat->α)(k:Nat):c1 g (k+1)=c1 g k++[g k]:=by simp[c1,gZ]
def Vu(g:Nat->Nat)(k j:Nat)(h:j<k):(c1 g k).getD j 0=g j:=by simp[c1,h]
def NZ{α:Type}{g:Nat->α}{k:Nat}{p:α->Prop}(h:∀i,i<k->p (g i)):∀b∈c1 g k,p b:=by
 intro b a;simp only[c1,pG,lI]at a;obtain⟨i,c,rfl⟩:=a;exact h i c
def kv(a i:Nat):a.testBit i=decide (a/2 ^ i%2=1):=Nat.testBit_eq_decide_div_mod_eq
def tg{a i:Nat}(b:a<4294967296)(c:32<=i):a.testBit i=false:=
 Nat.testBit_lt_two_pow (e5 b (bU (n:=2) dT c))
def Bc(g:Nat->Nat)(x:Nat)(e:∀i,i<32->g i<2)(d:x<4294967296)(h:∀i,i<32->(g i=1↔x.testBit i=true)):ft (c1 g 32)=x:=by
 have a:∀b∈c1 g 32,b<2:=NZ e;rw[Jq _ a (by rw[ll];exact aC _)];refine Nat.eq_of_testBit_eq λj=>?_;rw[Oc _ a];by_cases c:j<32
 .rw[Vu g 32 j c];have:=h j c;cases d:x.testBit j<;>simp_all
 rw[aR,bE (by rw[ll];omega),tg d oT];rfl
def uP(c:Int)(a b i:Nat):Nat:=if((c=1/\a/2 ^ i%2+b/2 ^ i%2=2)\/(c=2/\a/2 ^ i%2+b/2 ^ i%2>0))\/(c=3/\a/2 ^ i%2+b/2 ^ i%2=1)then 1 else 0
def El(c:Int)(a b i:Nat):uP c a b i<2:=by unfold uP;split<;>omega
def Oa(a b:Nat)(d:a<=4294967295)(c:b<=4294967295):ft (c1 (uP 1 a b) 32)=a&&&b:=by
 refine Bc _ _ (λi _=>El ..) (bL kE oT) λi _=>?_;rw[Nat.testBit_and,kv,kv];unfold uP;rcases lW (a/2 ^ i)with h1|h1<;>rcases lW (b/2 ^ i)with h2|h2<;>simp[h1,h2]
def SJ(a b:Nat)(c:a<=4294967295)(d:b<=4294967295):ft (c1 (uP 2 a b) 32)=a ||| b:=by
 refine Bc _ _ (λi _=>El ..) (kQ (n:=32) oT oT) λi _=>?_;rw[Nat.testBit_or,kv,kv];unfold uP;rcases lW (a/2 ^ i)with h1|h1<;>rcases lW (b/2 ^ i)with h2|h2<;>simp[h1,h2]
def Ob(a b:Nat)(c:a<=4294967295)(d:b<=4294967295):ft (c1 (uP 3 a b) 32)=a^^^b:=by
 refine Bc _ _ (λi _=>El ..) (iM (n:=32) oT oT) λi _=>?_;rw[Nat.testBit_xor,kv,kv];unfold uP;rcases lW (a/2 ^ i)with h1|h1<;>rcases lW (b/2 ^ i)with h2|h2<;>simp[h1,h2]
def it(a:Nat)(n:Int)(b i:Nat):Nat:=if((i:Int)-n<0\/(i:Int)-n>31)then b else a/2 ^ ((i:Int)-n).toNat%2
def CF(a:Nat)(n:Int){b:Nat}(c:b<2)(i:Nat):it a n b i<2:=by unfold it;split<;>omega
def La(a s:Nat)(b:a<=4294967295)(d:s<32):ft (c1 (it a (s:Int) 0) 32)=a*2 ^ s%4294967296:=by
 refine Bc _ _ (λi _=>CF _ _ dT _) (aQ _ dT) λi c=>?_;rw[show(4294967296:Nat)=2 ^ 32 from R,eB,fK];unfold it;by_cases h:i<s
 .rw[aa (.inl oT)];simp;omega
 rw[dZ oT,(oT:((i:Int)-(s:Int)).toNat=i-s),kv];simp;omega
def FD(a s:Nat)(c:a<=4294967295)(b:s<32):ft (c1 (it a (-(s:Int)) 0) 32)=a/2 ^ s:=by
 refine Bc _ _ (λi _=>CF _ _ dT _) (bL (cO _ _) oT) λi d=>?_;rw[Nat.testBit_div_two_pow];unfold it;by_cases h:i+s>31
 .rw[aa (.inr oT),tg oT oT];simp
 rw[dZ oT,(oT:((i:Int) - -(s:Int)).toNat=i+s),kv];simp
def xw(a s:Nat)(h:a<=4294967295)(j:s<32):fi (bw a/2 ^ s)=if a<2147483648 then a/2 ^ s else 2 ^ (32-s)*(2 ^ s-1)+a/2 ^ s:=by
 have hp:(2:Nat) ^ 32=2 ^ (32-s)*2 ^ s:=by rw[<-Nat.pow_add];congr 1;omega
 have i:a/2 ^ s<2 ^ (32-s):=fO (by rw[fR, <-hp];omega);have f:2 ^ (32-s)<=2 ^ 32:=bU dT oT;have d:0<2 ^ s:=eI s;unfold fi bw;have b:((2:Int) ^ s)=((2 ^ s:Nat):Int):=by simp
 split
 .rw[b];have e:((a:Int)/((2 ^ s:Nat):Int))=((a/2 ^ s:Nat):Int):=rfl;have:=cO a (2 ^ s);rw[e];generalize a/2 ^ s=q at *;omega
 have e:((a:Int)-4294967296)/2 ^ s=((a/2 ^ s:Nat):Int)-((2 ^ (32-s):Nat):Int):=by
  have c:(a:Int)-4294967296=(a:Int)+(-((2 ^ (32-s):Nat):Int))*((2 ^ s:Nat):Int):=by
   have:((2 ^ (32-s):Nat):Int)*((2 ^ s:Nat):Int)=4294967296:=by rw[<-Int.natCast_mul, <-hp];rfl
   rw[Int.neg_mul,this];omega
  rw[b,c,Int.add_mul_ediv_right _ _ oT];have e:((a:Int)/((2 ^ s:Nat):Int))=((a/2 ^ s:Nat):Int):=rfl;rw[e];omega
 rw[e,Nat.mul_sub, <-hp,iD];generalize a/2 ^ s=q at *;generalize 2 ^ (32-s)=K at *;omega
def Lb(a s:Nat)(c:a<=4294967295)(d:s<32):ft (c1 (it a (-(s:Int)) (a/2 ^ 31%2)) 32)=fi (bw a/2 ^ s):=by
 have hp:(2:Nat) ^ 32=2 ^ (32-s)*2 ^ s:=by rw[<-Nat.pow_add];congr 1;omega
 have e:a/2 ^ s<2 ^ (32-s):=fO (by rw[fR, <-hp];omega);rw[xw a s c d];by_cases b:a<2147483648
 .rw[aa b,(oT:a/2 ^ 31%2=0)];exact FD a s c d
 rw[dZ b,(oT:a/2 ^ 31%2=1)];have f:0<2 ^ s:=eI s;refine Bc _ _ (λi _=>CF _ _ dT _) (by rw[Nat.mul_sub, <-hp];have:2 ^ (32-s)<=2 ^ 32:=bU dT oT;omega) λi j=>?_;rw[Nat.testBit_two_pow_mul_add _ e];unfold it;by_cases h:i+s>31
 .rw[aa (.inr oT),dZ oT,dX];simp;omega
 rw[dZ oT,aa oT,Nat.testBit_div_two_pow,(oT:((i:Int) - -(s:Int)).toNat=i+s),kv];simp
theorem Lc:∀(l:List Int) (b:ByteArray),(l.foldl (λr m=>r.push (UInt8.ofNat m.toNat)) b).data.toList=b.data.toList++l.map λm=>UInt8.ofNat m.toNat
 |[],b=>by simp
 |m::l,b=>by
  rw[mK,Lc l];show(b.data.push (UInt8.ofNat m.toNat)).toList++_=_;simp
def xM(x i:Nat):UInt8:=UInt8.ofNat (ar x (8*i) 8)
def xx(j:Nat):256 ^ j=2 ^ (8*j):=by rw[Nat.pow_mul]
def SK(x n:Nat):(⟨(c1 (xM x) n).toArray⟩:ByteArray)=oF x n:=by
 have h:(oF x n).data.toList=c1 (xM x) n:=by
  unfold oF;rw[Lc];simp only[ByteArray.empty,c1,List.map_map];show []++_=_;rw[iA];refine iB λj _=>?_;simp only[Function.comp,xM,ar,Int.toNat_natCast];rw[xx]
 rw[<-h]
theorem FE(b:UInt8)(l:List UInt8):∀k,dl (b::l) (k+1)=b.toNat+256*dl l k
 |0=>by simp[dl]
 |k+1=>by
  show dl (b::l) (k+1)+256 ^ (k+1)*((b::l).getD (k+1) 0).toNat=b.toNat+256*(dl l k+256 ^ k*(l.getD k 0).toNat);rw[FE b l k,Nat.mul_add,show(b::l).getD (k+1) 0=l.getD k 0 from R,Nat.pow_succ, <-Nat.mul_assoc,fR 256 (256 ^ k)];omega
def SL(l:List UInt8)(k:Nat)(b:k<l.length):dl (l.drop (l.length-(k+1))) (k+1)=256*dl (l.drop (l.length-k)) k+(l.getD (l.length-1-k) 0).toNat:=by
 have a:l.length-(k+1)<l.length:=oT;rw[bF a,FE,(oT:l.length-(k+1)+1=l.length-k),(oT:l.length-1-k=l.length-(k+1)),aR,aA a];simp;omega
def uU(m b:ByteArray)(a i:Nat):UInt8:=if((i:Int)-(a:Int)>=0/\(i:Int)-(a:Int)<(b.size:Int))then b.data.toList.getD ((i:Int)-(a:Int)).toNat 0 else m.data.toList.getD i 0
def Ld(m b:ByteArray)(a:Nat)(h:a+b.size<=m.size):(⟨(c1 (uU m b a) m.size).toArray⟩:ByteArray)=DD m a b:=by
 unfold DD;congr 2;have j:m.data.toList.length=m.size:=cV;have f:b.data.toList.length=b.size:=cV;refine dD λi=>?_;unfold c1;rw[aX];by_cases c:i<m.size
 .rw[eZ c];simp only[dF,uU];by_cases d:i<a
  .rw[dZ oT,eD,cF (by rw[aM];omega),List.getElem?_take_of_lt d,aR,aA oT];rfl
  by_cases e:i<a+b.size
  .rw[aa oT,eD,bM (by rw[aM];omega),aM,cF oT,aR,(oT:((i:Int)-(a:Int)).toNat=i-min a m.data.toList.length),aA oT];rfl
  rw[dZ oT,bM (by rw[aU,aM];omega),aU,aM,cL,(oT:a+b.size+(i-(min a m.data.toList.length+b.data.toList.length))=i),aR,aA oT];rfl
 rw[bE (sU c),bE (by simp only[aU,aM,bD];omega)];rfl
abbrev Sx(b:UInt8):List AV:=[.v (.int .u8 (b.toNat:Int))]
section
variable {α:Type}{g:Nat->α}{row:α->List AV}{k:Nat}
def gT:List.take (k+1) (List.drop 0 ((c1 g (k+1)).map row))=(c1 g (k+1)).map row:=by
 rw[bS,aN (by rw[aH,ll];exact aC _)]
def gC{r:List AV}(h:k+2<=1000000):(List.take (k+1) (List.drop 0 ((c1 g (k+1)).map row))).length+([r]:List (List AV)).length<=jH:=by
 rw[gT,aH,ll];exact h
def gF:0+(k+1)=((c1 g (k+1)).map row).length:=by rw[aH,ll];omega
def gL{r:List AV}:(List.take (k+1) (List.drop 0 ((c1 g (k+1)).map row))).length+([r]:List (List AV)).length=k+1+1:=by rw[gT,aH,ll];rfl
def Jp{x:α}(h:x=g 0):[row x]=(c1 g (0+1)).map row:=by rw[h];rfl
def Gh{x:α}(h:x=g (k+1)):List.take (k+1) (List.drop 0 ((c1 g (k+1)).map row))++[row x]=(c1 g (k+1+1)).map row:=by
 rw[gT,h,SH g (k+1),dH];rfl
end
def gk{x y:Int}{k:IntKind}(h:x=y):b1.ok (.v (.int k x))=.ok (.v (.int k y)):=by rw[h]
def Pu(a i:Nat)(b:a<=4294967295)(c:i<=1000):bI C0 106 [vU a,vN i] (.v (.int .u32 ((a/2 ^ i%2:Nat):Int))):=by
 refine bc func106 R ?_;refine rW _ R (ap (nJ c R)) ?_;have d:a/2 ^ i<=4294967295:=aL (cO _ _) b;refine nW _ R (ij (xS i b R)) (aG _) ?_;have e:(a/2 ^ i)%2<=1:=aI (aQ _ dT);refine zM (vU ((a/2 ^ i)%2)) R dT ?_;exact fT R R
def Sy(l:List Nat)(k:Nat)(b:k<l.length):l.drop (l.length-(k+1))=l.getD (l.length-1-k) 0::l.drop (l.length-k):=by
 have a:l.length-(k+1)<l.length:=oT;rw[bF a,(oT:l.length-(k+1)+1=l.length-k),(oT:l.length-1-k=l.length-(k+1)),aR,aA a];rfl
def Yv{l:List Nat}{B:Nat}(h:∀n∈l,n<=B)(i:Nat):l.getD i 0<=B:=by
 rw[aR];rcases fb i l.length with k|k
 .rw[aA k];exact h _ (jO k)
 rw[bE k];exact aE _
def T1(l:List Nat)(b:∀n∈l,n<=4294967295)(h:l.length<=1000000):bI C0 109 [.Y 1 (l.map dU) false] (.v (.int .u32 ((ft l:Nat):Int))):=by
 refine bc func109 R ?_;refine rV (vI ((l.map dU).length:Int)) R<|zV (vI (IntKind.wrap .i64 (((l.map dU).length:Int)-1))) ?_;refine dk (κ:=Nat) (λk=>⟨a6 [(0,.Y 1 (l.map dU) false),(3,vU (ft (l.drop (l.length-k)))),(4,vI ((l.length:Int)-1-(k:Int)))],aq [],6⟩) (λk=>k<=l.length) (λk=>l.length-k) 0 (λs=>s) (au (λs=>s) ⟨⟨R,R⟩,⟨by show AV.v (.int .u32 0)=.v (.int .u32 ((ft (l.drop (l.length-0)):Nat):Int));simp[ft],R⟩,⟨by show AV.v (.int .i64 (IntKind.wrap .i64 (((l.map dU).length:Int)-1)))=.v (.int .i64 ((l.length:Int)-1-((0:Nat):Int)));rw[aH,dd ad ad];simp,R⟩,tr⟩ tr R) (aE _) ?_;intro k f;have e:l.getD (l.length-1-k) 0<=4294967295:=Yv b _;refine zV (vB (decide (((l.length:Int)-1-(k:Int))>=0))) ?_;refine ci (((l.length:Int)-1-(k:Int))>=0) qW (λa=>?_) (λa=>?_)
 .skip
  have c:(2*(ft (l.drop (l.length-k))))%4294967296<=4294967295:=aI (aQ _ dT);refine zV (vU ((2*(ft (l.drop (l.length-k))))%4294967296)) ?_;refine FO (dU (l.getD (l.length-1-k) 0)) (x:=.k 1 0 (dU (l.getD (l.length-1-k) 0))) R R R (⟨oT,by rw[(oT:((l.length:Int)-1-(k:Int)).toNat=l.length-1-k),aX,aA ad,aR,aA ad];rfl⟩) R ?_;have d:(((2*(ft (l.drop (l.length-k))))%4294967296)+(l.getD (l.length-1-k) 0))%4294967296<=4294967295:=aI (aQ _ dT);refine qR 0 R<|zV (vU ((((2*(ft (l.drop (l.length-k))))%4294967296)+(l.getD (l.length-1-k) 0))%4294967296))<|zV (vI (IntKind.wrap .i64 (((l.length:Int)-1-(k:Int))-1))) ?_;refine⟨k+1,λs=>s,au (λs=>s) ⟨⟨R,R⟩,⟨py (by rw[Sy l k ad];simp only[ft];omega),R⟩,⟨by show AV.v (.int .i64 (IntKind.wrap .i64 ((l.length:Int)-1-(k:Int)-1)))=.v (.int .i64 ((l.length:Int)-1-((k+1:Nat):Int)));rw[dd ad ad];congr 2;omega,R⟩,tr⟩ tr R,ad,ad⟩
 exact fN R (by rw[(oT:l.length-k=0)];simp)
def td(a:Nat)(z:Int)(c:a<=4294967295)(b:0<=z)(d:z<=31):bI C0 106 [.v (.int .u32 (a:Int)),.v (.int .i64 z)] (.v (.int .u32 ((a/2 ^ z.toNat%2:Nat):Int))):=by
 have e:((z.toNat:Nat):Int)=z:=lU b;have:bI C0 106 [.v (.int .u32 (a:Int)),.v (.int .i64 ((z.toNat:Nat):Int))] (.v (.int .u32 ((a/2 ^ z.toNat%2:Nat):Int))):=Pu a z.toNat c ad
 rwa [e]at this
def px(n:Nat){g:Nat->Nat}{k:Nat}(a:∀i,g i<=4294967295)(b:k+1=n/\n<=32):bI C0 109 [.Y 1 (List.take (k+1) (List.drop 0 ((c1 g (k+1)).map dU))) false] (.v (.int .u32 ((ft (c1 g n):Nat):Int))):=by
 rw[gT,b.1];exact T1 _ (NZ λi _=>a i) (by rw[ll];omega)
def tq{g:Nat->Nat}{k:Nat}(a:∀i,g i<=4294967295)(b:k+1=32):bI C0 109 [.Y 1 (List.take (k+1) (List.drop 0 ((c1 g (k+1)).map dU))) false] (.v (.int .u32 ((ft (c1 g 32):Nat):Int))):=px 32 a ⟨b,dT⟩
def o9{h:AH}{k:Nat}{g:Nat->Nat}(e:h 0=some (.arr ((c1 g (k+1)).map dU) 1)):jV h [.X 0 0 (k+1) false]:=by
 show(match h 0 with|some (.arr rows _)=>0+(k+1)<=rows.length|_=>False)/\True;rw[e];exact⟨Nat.le_of_eq gF,tr⟩
def B1(a n:Nat)(b:1<=n)(e:a+n<=32):bI C0 108 [vN a,vN n] (.v (.bool true)):=by
 refine bc func108 R ?_;refine zW _ (ak (im _ _))<|aw (x:=vB (decide (a<=31))) R id (ak (ju _ _))<|zN R (λh=>h)<|aw (x:=vB (decide (n>=1))) R id (ak (im _ _)) ?_;refine zN R (λh=>h)<|aw (x:=vI ((32:Int)-a)) R id (gk (dd ad ad))<|aw (x:=vB (decide ((n:Int)<=((32:Int)-a)))) R b9 R<|zN R (λh=>h) ?_;exact i6 R (by have c:a<=31:=ad;have d:(n:Int)<=32-a:=ad;simp[cE,b,c,d])
def Sz(x a n:Nat)(h:n<=32):ft (c1 (λi=>x/2 ^ (a+i)%2) n)=ar x a n:=by
 rw[<-xy];exact Jq _ (Od x a n) (by simp[c1];omega)
def zt(x n:Nat)(a:1<=n)(b:n<=32):ft (c1 (yN x n) 32)=cv x n:=by
 rw[<-xz x n a b];exact Jq _ (Js x n 32) (by simp[c1])
def SB(x a i:Nat):x/2 ^ (a+i)%2<=4294967295:=oT
def Vq(x n i:Nat):yN x n i<=4294967295:=oH (Oe x n i)
def i7(x a n k:Nat)(h:2 ^ n=k+1):ar x a n<=k:=by have:=iR x a n;rw[h]at this;exact aI this
def gQ{x a n k:Nat}(h:2 ^ n=k+1):ar x a n<=k:=by have:=iR x a n;rw[h]at this;exact aI this
def SC(x a n:Nat)(c:x<=4294967295)(j:1<=n)(l:a+n<=32):bI C0 65 [vU x,vN a,vN n] (.v (.int .u32 ((ar x a n:Nat):Int))):=by
 refine bc func65 R ?_;refine aW R (B1 a n j l) ?_;refine qR 1 R<|zV (.Y 1 ([]) true)<|jR (κ:=Nat) (λk=>match k with|0=>⟨a6 [(0,vU x),(1,vN a),(2,vN n),(7,.Y 1 ([]) true),(8,vN 0)],aq [],8⟩|k+1=>⟨a6 [(0,vU x),(1,vN a),(2,vN n),(7,.X 0 0 (k+1) false),(8,vN (k+1))],aq [(0,.arr ((c1 (λi=>x/2 ^ (a+i)%2) (k+1)).map dU) 1)],8⟩) (λk=>k<=n) (λk=>n-k) 0 (λs=>s) (au (λs=>s) wT tr R) (aE _) ?_;intro k p;rcases k with _|k
 .have b:0<=1000000:=dT;refine qS 0 R<|zW _ (ak (bl _ _)) ?_;refine ci (0<n) qW (λm=>?_) (λm=>by omega);have d:a+0<=1000032:=aD ad b;refine rW _ R (ap (bH d R))<|aW R (Pu x (a+0) c ad)<|rV (.Y 1 ([[vU (x/2 ^ (a+0)%2)]]) true) R<|zF (x:=.X 18 0 1 false) (h':=an _ 18 (some (.arr (([])++([[vU (x/2 ^ (a+0)%2)]])) 1))) (rfl) (⟨by exact aJ R,by exact aJ R,tr,tr⟩) ?_;have e:0+1<=1000001:=aD b (aC 1);refine zW _ (ap (bH e R)) ?_;refine⟨0+1,λs=>match s with|0=>18|s=>s,au (λs=>match s with|0=>18|s=>s) wT ⟨⟨R,am (λz=>some (a'.arr z 1)) (Jp (g:=λi=>x/2 ^ (a+i)%2) (row:=dU) (x:=x/2 ^ (a+0)%2) (rfl)),R⟩,tr⟩ R,ad,ad⟩
 have b:k+1<=1000000:=oT;refine qS 0 R<|zW _ (ak (bl _ _)) ?_;refine ci ((k+1)<n) qW (λo=>?_) (λo=>?_)
 .skip
  have f:a+(k+1)<=1000032:=aD ad b;refine rW _ R (ap (bH f R))<|aW R (Pu x (a+(k+1)) c ad)<|rV (.Y 1 ([[vU (x/2 ^ (a+(k+1))%2)]]) true) R ?_;refine zF (x:=.X 18 0 ((List.take (k+1) (List.drop 0 ((c1 (λi=>x/2 ^ (a+i)%2) (k+1)).map dU))).length+([[vU (x/2 ^ (a+(k+1))%2)]]:List (List AV)).length) false) (h':=an (an _ 0 none) 18 (some (.arr (List.take (k+1) (List.drop 0 ((c1 (λi=>x/2 ^ (a+i)%2) (k+1)).map dU))++[[vU (x/2 ^ (a+(k+1))%2)]]) 1))) (rfl) (⟨gC ad,gF,tr⟩) ?_;have h:(k+1)+1<=1000001:=aD b (aC 1);refine zW _ (ap (bH h R)) ?_;refine⟨(k+1)+1,λs=>match s with|0=>18|s=>s,au (λs=>match s with|0=>18|s=>s) ⟨⟨R,R⟩,⟨R,R⟩,⟨R,R⟩,⟨am (λz=>AV.X 18 0 z false) gL,R⟩,⟨R,R⟩,tr⟩ ⟨⟨R,am (λz=>some (a'.arr z 1)) (Gh (g:=λi=>x/2 ^ (a+i)%2) (row:=dU) (x:=x/2 ^ (a+(k+1))%2) (rfl)),R⟩,tr⟩ R,ad,ad⟩
 refine qX 0 R<|zL R (.inr ⟨R,o9 (g:=λi=>x/2 ^ (a+i)%2) R⟩) (px n (g:=λi=>x/2 ^ (a+i)%2) (SB x a) ad) ?_;exact fN R (Sz x a n ad)
def Pm(x n:Nat)(c:x<=4294967295)(h:1<=n)(i:n<=32):bI C0 66 [vU x,vN n] (.v (.int .u32 ((cv x n:Nat):Int))):=by
 refine bc func66 R ?_;refine zW _ (ak (bl _ _))<|aw (x:=vB (decide (n>32))) R id (ak (fq _ _))<|zN R (by simp) ?_;refine ci (n<1\/n>32) (wP _ _ qW qW) (λj=>by omega) (λj=>?_);refine zV (.Y 1 ([]) true)<|jR (κ:=Nat) (λk=>match k with|0=>⟨a6 [(0,vU x),(1,vN n),(5,.Y 1 ([]) true),(6,vN 0)],aq [],10⟩|k+1=>⟨a6 [(0,vU x),(1,vN n),(5,.X 0 0 (k+1) false),(6,vN (k+1))],aq [(0,.arr ((c1 (yN x n) (k+1)).map dU) 1)],10⟩) (λk=>k<=32) (λk=>32-k) 0 (λs=>s) (au (λs=>s) wT tr R) (aE _) ?_;intro k p;rcases k with _|k
 .have a:0<=1000000:=dT;refine qS 0 R<|zW _ (ak (bl _ _)) ?_;refine ci (0<32) qW (λl=>?_) (λl=>by omega);refine zW _ (ak (bl _ _)) ?_;refine ci (0<n) qW (λm=>?_) (λm=>by omega);refine aW R (Pu x 0 c ad)<|rV (.Y 1 ([[vU (x/2 ^ 0%2)]]) true) R<|zF (x:=.X 20 0 1 false) (h':=an _ 20 (some (.arr (([])++([[vU (x/2 ^ 0%2)]])) 1))) (rfl) (⟨by exact aJ R,by exact aJ R,tr,tr⟩) ?_;have d:0+1<=1000001:=aD a (aC 1);refine zW _ (ap (bH d R)) ?_;refine⟨0+1,λs=>match s with|0=>20|s=>s,au (λs=>match s with|0=>20|s=>s) wT ⟨⟨R,am (λz=>some (a'.arr z 1)) (Jp (g:=yN x n) (row:=dU) (x:=x/2 ^ 0%2) (by unfold yN;rw[aa ad])),R⟩,tr⟩ R,ad,ad⟩
 have a:k+1<=1000000:=oT;refine qS 0 R<|zW _ (ak (bl _ _)) ?_;refine ci ((k+1)<32) qW (λo=>?_) (λo=>?_)
 .refine zW _ (ak (bl _ _)) ?_;refine ci ((k+1)<n) qW (λb=>?_) (λb=>?_)
  .refine aW R (Pu x (k+1) c ad)<|rV (.Y 1 ([[vU (x/2 ^ (k+1)%2)]]) true) R ?_;refine zF (x:=.X 20 0 ((List.take (k+1) (List.drop 0 ((c1 (yN x n) (k+1)).map dU))).length+([[vU (x/2 ^ (k+1)%2)]]:List (List AV)).length) false) (h':=an (an _ 0 none) 20 (some (.arr (List.take (k+1) (List.drop 0 ((c1 (yN x n) (k+1)).map dU))++[[vU (x/2 ^ (k+1)%2)]]) 1))) (rfl) (⟨gC ad,gF,tr⟩) ?_;have e:(k+1)+1<=1000001:=aD a (aC 1);refine zW _ (ap (bH e R)) ?_;refine⟨(k+1)+1,λs=>match s with|0=>20|s=>s,au (λs=>match s with|0=>20|s=>s) ⟨⟨R,R⟩,⟨R,R⟩,⟨am (λz=>AV.X 20 0 z false) gL,R⟩,⟨R,R⟩,tr⟩ ⟨⟨R,am (λz=>some (a'.arr z 1)) (Gh (g:=yN x n) (row:=dU) (x:=x/2 ^ (k+1)%2) (by unfold yN;rw[aa b])),R⟩,tr⟩ R,ad,ad⟩
  refine rW _ R (gk (by rw[dd ad ad];omega))<|aW R (Pu x (n-1) c ad)<|rV (.Y 1 ([[vU (x/2 ^ (n-1)%2)]]) true) R ?_;refine zF (x:=.X 21 0 ((List.take (k+1) (List.drop 0 ((c1 (yN x n) (k+1)).map dU))).length+([[vU (x/2 ^ (n-1)%2)]]:List (List AV)).length) false) (h':=an (an _ 0 none) 21 (some (.arr (List.take (k+1) (List.drop 0 ((c1 (yN x n) (k+1)).map dU))++[[vU (x/2 ^ (n-1)%2)]]) 1))) (rfl) (⟨gC ad,gF,tr⟩) ?_;have f:(k+1)+1<=1000001:=aD a (aC 1);refine zW _ (ap (bH f R)) ?_;refine⟨(k+1)+1,λs=>match s with|0=>21|s=>s,au (λs=>match s with|0=>21|s=>s) ⟨⟨R,R⟩,⟨R,R⟩,⟨am (λz=>AV.X 21 0 z false) gL,R⟩,⟨R,R⟩,tr⟩ ⟨⟨R,am (λz=>some (a'.arr z 1)) (Gh (g:=yN x n) (row:=dU) (x:=x/2 ^ (n-1)%2) (by unfold yN;rw[dZ b])),R⟩,tr⟩ R,ad,ad⟩
 refine qX 0 R<|zL R (.inr ⟨R,o9 (g:=yN x n) R⟩) (px 32 (g:=yN x n) (Vq x n) ad) ?_;exact fN R (zt x n h i)
def Vr(c:Int)(a b i:Nat):uP c a b i<=4294967295:=oH (El c a b i)
def SD(a:Nat)(n:Int){b:Nat}(c:b<2)(i:Nat):it a n b i<=4294967295:=oH (CF a n c i)
def Pn(c:Int)(a b:Nat)(l:a<=4294967295)(m:b<=4294967295):bI C0 104 [vI c,vU a,vU b] (.v (.int .u32 ((ft (c1 (uP c a b) 32):Nat):Int))):=by
 refine bc func104 R ?_;refine zV (.Y 1 ([]) true) ?_;refine jR (κ:=Nat) (λk=>match k with|0=>⟨a6 [(0,vI c),(1,vU a),(2,vU b),(7,.Y 1 ([]) true),(8,vN 0)],aq [],4⟩|k+1=>⟨a6 [(0,vI c),(1,vU a),(2,vU b),(7,.X 0 0 (k+1) false),(8,vN (k+1))],aq [(0,.arr ((c1 (uP c a b) (k+1)).map dU) 1)],4⟩) (λk=>k<=32) (λk=>32-k) 0 (λs=>s) (au (λs=>s) wT tr R) (aE _) ?_;intro k w;rcases k with _|k
 .have d:0<=1000000:=dT;refine qS 0 R<|zW _ (ak (bl _ _)) ?_;refine ci (0<32) qW (λu=>?_) (λu=>by omega);refine zC (Pu a 0 l ad)<|aW R (Pu b 0 m ad) ?_;have n:(a/2 ^ 0%2)+(b/2 ^ 0%2)<=2:=aD (aI (aQ _ dT)) (aI (aQ _ dT));refine zW _ (ap (nJ n R))<|zV (vB (c==1))<|aw (x:=vB (((a/2 ^ 0%2)+(b/2 ^ 0%2))==2)) R id (ak (ba _ _))<|zN R (λh=>h)<|aw (x:=vB (c==2)) R id R<|zG R id ?_;refine aw (x:=vB (decide (((a/2 ^ 0%2)+(b/2 ^ 0%2))>0))) R id (ak (fq _ _))<|pB (x:=vB (cE (c==2) (decide (((a/2 ^ 0%2)+(b/2 ^ 0%2))>0)) false)) (g:= !(cE (c==1) (((a/2 ^ 0%2)+(b/2 ^ 0%2))==2) false)) R R R R (λh=>h) R R (λf e=>by first|(rw[f,e];rfl)|simp_all)<|zN rfl (by simp)<|aw (x:=vB (c==3)) R id R<|zG R id<|aw (x:=vB (((a/2 ^ 0%2)+(b/2 ^ 0%2))==1)) R id (ak (ba _ _))<|pB (x:=vB (cE (c==3) (((a/2 ^ 0%2)+(b/2 ^ 0%2))==1) false)) (g:= !(cE (cE (c==1) (((a/2 ^ 0%2)+(b/2 ^ 0%2))==2) false) true (cE (c==2) (decide (((a/2 ^ 0%2)+(b/2 ^ 0%2))>0)) false))) R R R R (λh=>h) R R (λf e=>by first|(rw[f,e];rfl)|simp_all)<|zN rfl (by simp) ?_;refine ci (((c=1/\((a/2 ^ 0%2)+(b/2 ^ 0%2))=2)\/(c=2/\((a/2 ^ 0%2)+(b/2 ^ 0%2))>0))\/(c=3/\((a/2 ^ 0%2)+(b/2 ^ 0%2))=1)) (wP _ _ (wP _ _ (uA _ _ bT bT) (uA _ _ bT qW)) (uA _ _ bT bT)) (λi=>?_) (λi=>?_)
  .refine rV (.Y 1 ([[.v (.int .u32 1)]]) true) R<|zF (x:=.X 40 0 1 false) (h':=an _ 40 (some (.arr (([])++([[.v (.int .u32 1)]])) 1))) (rfl) (⟨dT,dT,tr,tr⟩) ?_;have o:0+1<=1000001:=aD d (aC 1);refine zW _ (ap (bH o R)) ?_;refine⟨0+1,λs=>match s with|0=>40|s=>s,au (λs=>match s with|0=>40|s=>s) wT ⟨⟨R,am (λz=>some (a'.arr z 1)) (Jp (g:=uP c a b) (row:=dU) (x:=1) (by unfold uP;rw[aa i])),R⟩,tr⟩ R,ad,ad⟩
  refine rV (.Y 1 ([[.v (.int .u32 0)]]) true) R<|zF (x:=.X 40 0 1 false) (h':=an _ 40 (some (.arr (([])++([[.v (.int .u32 0)]])) 1))) (rfl) (⟨dT,dT,tr,tr⟩) ?_;have p:0+1<=1000001:=aD d (aC 1);refine zW _ (ap (bH p R)) ?_;refine⟨0+1,λs=>match s with|0=>40|s=>s,au (λs=>match s with|0=>40|s=>s) wT ⟨⟨R,am (λz=>some (a'.arr z 1)) (Jp (g:=uP c a b) (row:=dU) (x:=0) (by unfold uP;rw[dZ i])),R⟩,tr⟩ R,ad,ad⟩
 have d:k+1<=1000000:=oT;refine qS 0 R<|zW _ (ak (bl _ _)) ?_;refine ci ((k+1)<32) qW (λv=>?_) (λv=>?_)
 .refine zC (Pu a (k+1) l ad)<|aW R (Pu b (k+1) m ad) ?_;have q:(a/2 ^ (k+1)%2)+(b/2 ^ (k+1)%2)<=2:=aD (aI (aQ _ dT)) (aI (aQ _ dT));refine zW _ (ap (nJ q R))<|zV (vB (c==1))<|aw (x:=vB (((a/2 ^ (k+1)%2)+(b/2 ^ (k+1)%2))==2)) R id (ak (ba _ _))<|zN R (λh=>h)<|aw (x:=vB (c==2)) R id R<|zG R id ?_;refine aw (x:=vB (decide (((a/2 ^ (k+1)%2)+(b/2 ^ (k+1)%2))>0))) R id (ak (fq _ _))<|pB (x:=vB (cE (c==2) (decide (((a/2 ^ (k+1)%2)+(b/2 ^ (k+1)%2))>0)) false)) (g:= !(cE (c==1) (((a/2 ^ (k+1)%2)+(b/2 ^ (k+1)%2))==2) false)) R R R R (λh=>h) R R (λf e=>by first|(rw[f,e];rfl)|simp_all)<|zN rfl (by simp)<|aw (x:=vB (c==3)) R id R<|zG R id<|aw (x:=vB (((a/2 ^ (k+1)%2)+(b/2 ^ (k+1)%2))==1)) R id (ak (ba _ _))<|pB (x:=vB (cE (c==3) (((a/2 ^ (k+1)%2)+(b/2 ^ (k+1)%2))==1) false)) (g:= !(cE (cE (c==1) (((a/2 ^ (k+1)%2)+(b/2 ^ (k+1)%2))==2) false) true (cE (c==2) (decide (((a/2 ^ (k+1)%2)+(b/2 ^ (k+1)%2))>0)) false))) R R R R (λh=>h) R R (λf e=>by first|(rw[f,e];rfl)|simp_all)<|zN rfl (by simp) ?_;refine ci (((c=1/\((a/2 ^ (k+1)%2)+(b/2 ^ (k+1)%2))=2)\/(c=2/\((a/2 ^ (k+1)%2)+(b/2 ^ (k+1)%2))>0))\/(c=3/\((a/2 ^ (k+1)%2)+(b/2 ^ (k+1)%2))=1)) (wP _ _ (wP _ _ (uA _ _ bT bT) (uA _ _ bT qW)) (uA _ _ bT bT)) (λj=>?_) (λj=>?_)
  .refine rV (.Y 1 ([[.v (.int .u32 1)]]) true) R ?_;refine zF (x:=.X 40 0 ((List.take (k+1) (List.drop 0 ((c1 (uP c a b) (k+1)).map dU))).length+([[.v (.int .u32 1)]]:List (List AV)).length) false) (h':=an (an _ 0 none) 40 (some (.arr (List.take (k+1) (List.drop 0 ((c1 (uP c a b) (k+1)).map dU))++[[.v (.int .u32 1)]]) 1))) (rfl) (⟨gC ad,gF,tr⟩) ?_;have r:(k+1)+1<=1000001:=aD d (aC 1);refine zW _ (ap (bH r R)) ?_;refine⟨(k+1)+1,λs=>match s with|0=>40|s=>s,au (λs=>match s with|0=>40|s=>s) ⟨⟨R,R⟩,⟨R,R⟩,⟨R,R⟩,⟨am (λz=>AV.X 40 0 z false) gL,R⟩,⟨R,R⟩,tr⟩ ⟨⟨R,am (λz=>some (a'.arr z 1)) (Gh (g:=uP c a b) (row:=dU) (x:=1) (by unfold uP;rw[aa j])),R⟩,tr⟩ R,ad,ad⟩
  refine rV (.Y 1 ([[.v (.int .u32 0)]]) true) R ?_;refine zF (x:=.X 40 0 ((List.take (k+1) (List.drop 0 ((c1 (uP c a b) (k+1)).map dU))).length+([[.v (.int .u32 0)]]:List (List AV)).length) false) (h':=an (an _ 0 none) 40 (some (.arr (List.take (k+1) (List.drop 0 ((c1 (uP c a b) (k+1)).map dU))++[[.v (.int .u32 0)]]) 1))) (rfl) (⟨gC ad,gF,tr⟩) ?_;have t:(k+1)+1<=1000001:=aD d (aC 1);refine zW _ (ap (bH t R)) ?_;refine⟨(k+1)+1,λs=>match s with|0=>40|s=>s,au (λs=>match s with|0=>40|s=>s) ⟨⟨R,R⟩,⟨R,R⟩,⟨R,R⟩,⟨am (λz=>AV.X 40 0 z false) gL,R⟩,⟨R,R⟩,tr⟩ ⟨⟨R,am (λz=>some (a'.arr z 1)) (Gh (g:=uP c a b) (row:=dU) (x:=0) (by unfold uP;rw[dZ j])),R⟩,tr⟩ R,ad,ad⟩
 refine qX 0 R<|zL R (.inr ⟨R,o9 (g:=uP c a b) R⟩) (tq (g:=uP c a b) (Vr c a b) ad) ?_;exact fT R R
def Hg(a:Nat)(n:Int)(b:Nat)(f:a<=4294967295)(q: -32<=n)(r:n<=32)(p:b<2):bI C0 105 [vU a,vI n,vU b] (.v (.int .u32 ((ft (c1 (it a n b) 32):Nat):Int))):=by
 refine bc func105 R ?_;refine zV (.Y 1 ([]) true) ?_;refine jR (κ:=Nat) (λk=>match k with|0=>⟨a6 [(0,vU a),(1,vI n),(2,vU b),(7,.Y 1 ([]) true),(8,vN 0)],aq [],4⟩|k+1=>⟨a6 [(0,vU a),(1,vI n),(2,vU b),(7,.X 0 0 (k+1) false),(8,vN (k+1))],aq [(0,.arr ((c1 (it a n b) (k+1)).map dU) 1)],4⟩) (λk=>k<=32) (λk=>32-k) 0 (λs=>s) (au (λs=>s) wT tr R) (aE _) ?_;intro k t;rcases k with _|k
 .have c:0<=1000000:=dT;refine qS 0 R<|zW _ (ak (bl _ _)) ?_;refine ci (0<32) qW (λm=>?_) (λm=>by omega);refine rW _ R (gk (dd ad ad))<|zV (vB (decide ((((0:Nat):Int)-n)<0)))<|aw (x:=vI (((0:Nat):Int)-n)) R b9 (gk (dd ad ad))<|aw (x:=vB (decide ((((0:Nat):Int)-n)>31))) R id R<|zN R (by simp) ?_;refine ci ((((0:Nat):Int)-n)<0\/(((0:Nat):Int)-n)>31) (wP _ _ qW qW) (λd=>?_) (λd=>?_)
  .refine rV (.Y 1 ([[vU b]]) true) R<|zF (x:=.X 19 0 1 false) (h':=an _ 19 (some (.arr (([])++([[vU b]])) 1))) (rfl) (⟨by exact aJ R,by exact aJ R,tr,tr⟩) ?_;have h:0+1<=1000001:=aD c (aC 1);refine zW _ (ap (bH h R)) ?_;refine⟨0+1,λs=>match s with|0=>19|s=>s,au (λs=>match s with|0=>19|s=>s) wT ⟨⟨R,am (λz=>some (a'.arr z 1)) (Jp (g:=it a n b) (row:=dU) (x:=b) (by unfold it;rw[aa d])),R⟩,tr⟩ R,ad,ad⟩
  refine rW _ R (gk (dd ad ad))<|aW R (td a _ f ad ad)<|rV (.Y 1 ([[vU (a/2 ^ (((0:Nat):Int)-n).toNat%2)]]) true) R<|zF (x:=.X 23 0 1 false) (h':=an _ 23 (some (.arr (([])++([[vU (a/2 ^ (((0:Nat):Int)-n).toNat%2)]])) 1))) (rfl) (⟨by exact aJ R,by exact aJ R,tr,tr⟩) ?_;have i:0+1<=1000001:=aD c (aC 1);refine zW _ (ap (bH i R)) ?_;refine⟨0+1,λs=>match s with|0=>23|s=>s,au (λs=>match s with|0=>23|s=>s) wT ⟨⟨R,am (λz=>some (a'.arr z 1)) (Jp (g:=it a n b) (row:=dU) (x:=a/2 ^ (((0:Nat):Int)-n).toNat%2) (by unfold it;rw[dZ d])),R⟩,tr⟩ R,ad,ad⟩
 have c:k+1<=1000000:=oT;refine qS 0 R<|zW _ (ak (bl _ _)) ?_;refine ci ((k+1)<32) qW (λo=>?_) (λo=>?_)
 .refine rW _ R (gk (dd ad ad))<|zV (vB (decide (((((k+1):Nat):Int)-n)<0)))<|aw (x:=vI ((((k+1):Nat):Int)-n)) R b9 (gk (dd ad ad))<|aw (x:=vB (decide (((((k+1):Nat):Int)-n)>31))) R id R<|zN R (by simp) ?_;refine ci (((((k+1):Nat):Int)-n)<0\/((((k+1):Nat):Int)-n)>31) (wP _ _ qW qW) (λe=>?_) (λe=>?_)
  .refine rV (.Y 1 ([[vU b]]) true) R ?_;refine zF (x:=.X 19 0 ((List.take (k+1) (List.drop 0 ((c1 (it a n b) (k+1)).map dU))).length+([[vU b]]:List (List AV)).length) false) (h':=an (an _ 0 none) 19 (some (.arr (List.take (k+1) (List.drop 0 ((c1 (it a n b) (k+1)).map dU))++[[vU b]]) 1))) (rfl) (⟨gC ad,gF,tr⟩) ?_;have j:(k+1)+1<=1000001:=aD c (aC 1);refine zW _ (ap (bH j R)) ?_;refine⟨(k+1)+1,λs=>match s with|0=>19|s=>s,au (λs=>match s with|0=>19|s=>s) ⟨⟨R,R⟩,⟨R,R⟩,⟨R,R⟩,⟨am (λz=>AV.X 19 0 z false) gL,R⟩,⟨R,R⟩,tr⟩ ⟨⟨R,am (λz=>some (a'.arr z 1)) (Gh (g:=it a n b) (row:=dU) (x:=b) (by unfold it;rw[aa e])),R⟩,tr⟩ R,ad,ad⟩
  refine rW _ R (gk (dd ad ad))<|aW R (td a _ f ad ad)<|rV (.Y 1 ([[vU (a/2 ^ ((((k+1):Nat):Int)-n).toNat%2)]]) true) R ?_;refine zF (x:=.X 23 0 ((List.take (k+1) (List.drop 0 ((c1 (it a n b) (k+1)).map dU))).length+([[vU (a/2 ^ ((((k+1):Nat):Int)-n).toNat%2)]]:List (List AV)).length) false) (h':=an (an _ 0 none) 23 (some (.arr (List.take (k+1) (List.drop 0 ((c1 (it a n b) (k+1)).map dU))++[[vU (a/2 ^ ((((k+1):Nat):Int)-n).toNat%2)]]) 1))) (rfl) (⟨gC ad,gF,tr⟩) ?_;have l:(k+1)+1<=1000001:=aD c (aC 1);refine zW _ (ap (bH l R)) ?_;refine⟨(k+1)+1,λs=>match s with|0=>23|s=>s,au (λs=>match s with|0=>23|s=>s) ⟨⟨R,R⟩,⟨R,R⟩,⟨R,R⟩,⟨am (λz=>AV.X 23 0 z false) gL,R⟩,⟨R,R⟩,tr⟩ ⟨⟨R,am (λz=>some (a'.arr z 1)) (Gh (g:=it a n b) (row:=dU) (x:=a/2 ^ ((((k+1):Nat):Int)-n).toNat%2) (by unfold it;rw[dZ e])),R⟩,tr⟩ R,ad,ad⟩
 refine qX 0 R<|zL R (.inr ⟨R,o9 (g:=it a n b) R⟩) (tq (g:=it a n b) (SD a n p) ad) ?_;exact fT R R
def te(x i:Nat):IntKind.wrap .u8 ((ar x (8*i) 8:Nat):Int)=(((xM x i).toNat:Nat):Int):=by
 simp only[IntKind.wrap,IntKind.signed,IntKind.bits,xM,ar];simp
def zu(x n:Nat)(b:x<=4294967295)(m:n<=4):bI C0 39 [vU x,vN n] (.F [.v (.string (oF x n)),.v (.int .i64 0)]):=by
 refine bc func39 R ?_;refine zW _ (ak (bl _ _))<|aw (x:=vB (decide (n>4))) R id (ak (fq _ _))<|zN R (by simp) ?_;refine ci (n<0\/n>4) (wP _ _ qW qW) (λh=>by omega) (λh=>?_);refine zV (.Y 1 ([]) true)<|jR (κ:=Nat) (λk=>match k with|0=>⟨a6 [(0,vU x),(1,vN n),(6,.Y 1 ([]) true),(7,vN 0)],aq [],11⟩|k+1=>⟨a6 [(0,vU x),(1,vN n),(6,.X 0 0 (k+1) false),(7,vN (k+1))],aq [(0,.arr ((c1 (xM x) (k+1)).map Sx) 1)],11⟩) (λk=>k<=n) (λk=>n-k) 0 (λs=>s) (au (λs=>s) wT tr R) (aE _) ?_;intro k l;rcases k with _|k
 .have a:0<=1000000:=dT;refine qS 0 R<|zW _ (ak (bl _ _)) ?_;refine ci (0<n) qW (λi=>?_) (λi=>?_)
  .skip
   have c:8*0<=8000000:=cJ (aC 8) a;refine rW _ R (ap (bH c R))<|aW R (SC x (8*0) 8 b dT ad)<|rW _ R (gk (te x 0))<|rV (.Y 1 ([[.v (.int .u8 (((xM x 0).toNat:Nat):Int))]]) true) R<|zF (x:=.X 21 0 1 false) (h':=an _ 21 (some (.arr (([])++([[.v (.int .u8 (((xM x 0).toNat:Nat):Int))]])) 1))) (rfl) (⟨by exact aJ R,by exact aJ R,tr,tr⟩) ?_;have d:0+1<=1000001:=aD a (aC 1);refine zW _ (ap (bH d R)) ?_;refine⟨0+1,λs=>match s with|0=>21|s=>s,au (λs=>match s with|0=>21|s=>s) wT ⟨⟨R,am (λz=>some (a'.arr z 1)) (Jp (g:=xM x) (row:=Sx) (x:=xM x 0) (rfl)),R⟩,tr⟩ R,ad,ad⟩
  refine qX 0 R<|SV (([]:List UInt8)) (d:=29) R R R (trivial) (rfl)<|cg 0 R ?_;exact fT R (by rw[(oT:n=0)];rfl)
 have a:k+1<=1000000:=oT;refine qS 0 R<|zW _ (ak (bl _ _)) ?_;refine ci ((k+1)<n) qW (λj=>?_) (λj=>?_)
 .skip
  have e:8*(k+1)<=8000000:=cJ (aC 8) a;refine rW _ R (ap (bH e R))<|aW R (SC x (8*(k+1)) 8 b dT ad)<|rW _ R (gk (te x (k+1)))<|rV (.Y 1 ([[.v (.int .u8 (((xM x (k+1)).toNat:Nat):Int))]]) true) R ?_;refine zF (x:=.X 21 0 ((List.take (k+1) (List.drop 0 ((c1 (xM x) (k+1)).map Sx))).length+([[.v (.int .u8 (((xM x (k+1)).toNat:Nat):Int))]]:List (List AV)).length) false) (h':=an (an _ 0 none) 21 (some (.arr (List.take (k+1) (List.drop 0 ((c1 (xM x) (k+1)).map Sx))++[[.v (.int .u8 (((xM x (k+1)).toNat:Nat):Int))]]) 1))) (rfl) (⟨gC ad,gF,tr⟩) ?_;have f:(k+1)+1<=1000001:=aD a (aC 1);refine zW _ (ap (bH f R)) ?_;refine⟨(k+1)+1,λs=>match s with|0=>21|s=>s,au (λs=>match s with|0=>21|s=>s) ⟨⟨R,R⟩,⟨R,R⟩,⟨am (λz=>AV.X 21 0 z false) gL,R⟩,⟨R,R⟩,tr⟩ ⟨⟨R,am (λz=>some (a'.arr z 1)) (Gh (g:=xM x) (row:=Sx) (x:=xM x (k+1)) (rfl)),R⟩,tr⟩ R,ad,ad⟩
 refine qX 0 R<|SV (c1 (xM x) (k+1)) (d:=29) R R R (Nat.le_of_eq gF) (by rw[gT];exact lN _)<|cg 0 R ?_;exact fT R (by rw[show oF x n=(⟨(c1 (xM x) (k+1)).toArray⟩:ByteArray) by rw[(oT:k+1=n)];exact(SK x n).symm];rfl)
end Go.Proofs.YtiaekocjeinkjaaGreatDoor
