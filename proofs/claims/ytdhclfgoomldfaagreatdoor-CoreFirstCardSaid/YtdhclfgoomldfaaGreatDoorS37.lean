/- Lemmas. -/
import Derived.Test.YtdhclfgoomldfaaGreatDoorS1
import Derived.Test.YtdhclfgoomldfaaGreatDoorS30
import Derived.Test.YtdhclfgoomldfaaGreatDoorS31
import Derived.Test.YtdhclfgoomldfaaGreatDoorS33
import Derived.Test.YtdhclfgoomldfaaGreatDoorS36
set_option linter.all false
namespace Go.Proofs.YtdhclfgoomldfaaGreatDoor
open Go.Proofs.Tryz
set_option maxRecDepth 100000
set_option maxHeartbeats 4000000
open Go.RowKit
def hv(x a t)(b:x<=4294967295)(c:a<=t)(d:t<32):bI C0 49 [vU x,vN a,vN t] (.v (.int .u32 ((an x a (t+1-a):Nat):Int))):=by
 refine bk func49 rfl ?_;exact rW _ rfl (fy (c4 ad ad))<|rW _ rfl (fy (by rw[c4 ad ad];omega))<|zC (SC x a (t+1-a) b ad ad)<|fT rfl rfl
abbrev qg(n:Nat):List AV:=[.v (.int .i64 (n:Int))]
def Mr(l)(f)(b:f<=7):bI C0 102 [.X 1 (l.map qg) true,vU f] (.v (.int .i64 ((g6 l f:Nat):Int))):=by
 refine bk func102 rfl ?_;refine zW _ (ar (bH b rfl))<|rW _ rfl (az (λn:Nat=>bw.ok (.v (.int .i64 (n:Int)))) (aH ..))<|zW _ (am (bz _ _)) ?_;refine cb (f<l.length) qW (λa=>?_) (λa=>?_)
 ·skip
  exact zX (qg (l.getD f 0)) (.dp 1 0 (qg (l.getD f 0))) rfl (by rw[Int.toNat_natCast,aX,aA ad,aR,aA ad];rfl)<|fI rfl (rfl)
 exact fN rfl (by show 0=l.getD f 0;rw[aR,bE ad];rfl)
def AB(f g)(h:f<=7)(i:g<=127):bI C0 103 [vU f,vU g] (.v (.int .i64 ((kj f g:Nat):Int))):=by
 refine bk func103 rfl ?_;refine zW _ (am (a6 _ _)) ?_;refine dt f 1 (λa=>?_) (λa=>?_)
 ·refine zW _ (am (a6 _ _)) ?_;refine dt g 0 (λd=>?_) (λd=>?_)
  ·exact fN rfl (by unfold kj;simp[a,d])
  exact fN rfl (by unfold kj;simp[a,d])
 refine zW _ (am (a6 _ _)) ?_;refine dt f 5 (λb=>?_) (λb=>?_)
 ·refine zW _ (am (a6 _ _)) ?_;refine dt g 0 (λc=>?_) (λc=>?_)
  ·exact fN rfl (by unfold kj;simp[a,b,c])
  refine zW _ (am (a6 _ _)) ?_;refine dt g 32 (λe=>?_) (λe=>?_)
  ·exact fN rfl (by unfold kj;simp[a,b,c,e])
  exact fN rfl (by unfold kj;simp[a,b,c,e])
 exact zV (.X 1 ([[vI 19],[vI 0],[vI 20],[vI 21],[vI 22],[vI 0],[vI 23],[vI 24]]) true)<|zC (Mr [19,0,20,21,22,0,23,24] f h)<|fN rfl (by unfold kj;simp[a,b])
def AI(f g)(e:f<=7)(i:g<=127):bI C0 104 [vU f,vU g] (.v (.int .i64 ((kT f g:Nat):Int))):=by
 refine bk func104 rfl ?_;refine zW _ (am (a6 _ _)) ?_;refine dt g 0 (λa=>?_) (λa=>?_)
 ·exact zV (.X 1 ([[vI 28],[vI 30],[vI 31],[vI 32],[vI 33],[vI 34],[vI 36],[vI 37]]) true)<|zC (Mr [28,30,31,32,33,34,36,37] f e)<|fN rfl (by unfold kT;simp[a])
 refine zW _ (am (a6 _ _)) ?_;refine dt g 1 (λb=>?_) (λb=>?_)
 ·exact zV (.X 1 ([[vI 38],[vI 39],[vI 40],[vI 41],[vI 42],[vI 43],[vI 44],[vI 45]]) true)<|zC (Mr [38,39,40,41,42,43,44,45] f e)<|fN rfl (by unfold kT;simp[a,b])
 refine zW _ (am (a6 _ _))<|ay rfl id (am (a6 _ _))<|zN rfl (λh=>h) ?_;refine cb (g=32∧f=0) (uA _ _ bv bv) (λc=>?_) (λc=>?_)
 ·exact fN rfl (by unfold kT;simp[a,b,c])
 refine zW _ (am (a6 _ _))<|ay rfl id (am (a6 _ _))<|zN rfl (λh=>h) ?_;refine cb (g=32∧f=5) (uA _ _ bv bv) (λd=>?_) (λd=>?_)
 ·exact fN rfl (by unfold kT;simp[a,b,c,d])
 exact fN rfl (by unfold kT;simp[a,b,c,d])
def Dk(x)(m:x<=4294967295):bI C0 46 [vU x] (.v (.int .i64 ((b3 x:Nat):Int))):=by
 refine bk func46 rfl ?_;refine zC (hv x 12 14 m dT dT)<|zC (hv x 25 31 m dT dT) ?_;refine zW _ (am (a6 _ _)) ?_;refine dt x 15 (λa=>?_) (λa=>?_)
 ·exact fN rfl (by unfold b3 fQ;simp[a])
 refine zW _ (am (a6 _ _)) ?_;refine dt x 115 (λb=>?_) (λb=>?_)
 ·exact fN rfl (by unfold b3 fQ;simp[a,b])
 refine zW _ (am (a6 _ _)) ?_;refine dt x 1048691 (λc=>?_) (λc=>?_)
 ·exact fN rfl (by unfold b3 fQ;simp[a,b,c])
 refine zC (hv x 0 6 m dT dT)<|zW _ (am (a6 _ _)) ?_;refine dt (an x 0 7) 55 (λd=>?_) (λd=>?_)
 ·exact fN rfl (by unfold b3 fQ;simp[a,b,c,d])
 refine zW _ (am (a6 _ _)) ?_;refine dt (an x 0 7) 23 (λe=>?_) (λe=>?_)
 ·exact fN rfl (by unfold b3 fQ;simp[a,b,c,d,e])
 refine zW _ (am (a6 _ _)) ?_;refine dt (an x 0 7) 111 (λf=>?_) (λf=>?_)
 ·exact fN rfl (by unfold b3 fQ;simp[a,b,c,d,e,f])
 refine zW _ (am (a6 _ _)) ?_;refine dt (an x 0 7) 103 (λh=>?_) (λh=>?_)
 ·exact zV (.X 1 ([[vI 4]]) true)<|zC (Mr [4] (an x 12 3) (gQ rfl))<|fN rfl (by unfold b3 fQ;simp[a,b,c,d,e,f,h])
 refine zW _ (am (a6 _ _)) ?_;refine dt (an x 0 7) 99 (λi=>?_) (λi=>?_)
 ·exact zV (.X 1 ([[vI 5],[vI 6],[vI 0],[vI 0],[vI 7],[vI 8],[vI 9],[vI 10]]) true)<|zC (Mr [5,6,0,0,7,8,9,10] (an x 12 3) (gQ rfl))<|fN rfl (by unfold b3 fQ;simp[a,b,c,d,e,f,h,i])
 refine zW _ (am (a6 _ _)) ?_;refine dt (an x 0 7) 3 (λk=>?_) (λk=>?_)
 ·exact zV (.X 1 ([[vI 11],[vI 12],[vI 13],[vI 0],[vI 14],[vI 15]]) true)<|zC (Mr [11,12,13,0,14,15] (an x 12 3) (gQ rfl))<|fN rfl (by unfold b3 fQ;simp[a,b,c,d,e,f,h,i,k])
 refine zW _ (am (a6 _ _)) ?_;refine dt (an x 0 7) 35 (λg=>?_) (λg=>?_)
 ·exact zV (.X 1 ([[vI 16],[vI 17],[vI 18]]) true)<|zC (Mr [16,17,18] (an x 12 3) (gQ rfl))<|fN rfl (by unfold b3 fQ;simp[a,b,c,d,e,f,h,i,k,g])
 refine zW _ (am (a6 _ _)) ?_;refine dt (an x 0 7) 19 (λj=>?_) (λj=>?_)
 ·exact zC (AB _ _ (gQ rfl) (gQ rfl))<|fN rfl (by unfold b3 fQ;simp[a,b,c,d,e,f,h,i,k,g,j])
 refine zW _ (am (a6 _ _)) ?_;refine dt (an x 0 7) 51 (λl=>?_) (λl=>?_)
 ·exact zC (AI _ _ (gQ rfl) (gQ rfl))<|fN rfl (by unfold b3 fQ;simp[a,b,c,d,e,f,h,i,k,g,j,l])
 exact fN rfl (by unfold b3 fQ;simp[a,b,c,d,e,f,h,i,k,g,j,l])
def gv(x L:Nat):Nat:=
 if L=73 then cp (an x 20 12) 12 else if L=83 then cp (an x 7 5+32*an x 25 7) 12
 else if L=66 then cp (2*an x 8 4+32*an x 25 6+2048*an x 7 1+4096*an x 31 1) 13 else if L=85 then 4096*an x 12 20
 else if L=74 then cp (2*an x 21 10+2048*an x 20 1+4096*an x 12 8+1048576*an x 31 1) 21 else if L=84 then an x 20 5 else 0
def B'(a):bx a<=255:=by unfold bx;(repeat' split)<;>decide
def lf(a):(cW a,bx a)∈[(0,0),(6,85),(7,74),(2,73),(5,66),(4,83),(3,84),(1,82),(8,87)]:=by
 unfold cW bx;(repeat' split)<;>first|decide|(exfalso;omega)
def xS(a){p:Nat->Nat->Prop}(b:p 0 0)(i:p 6 85)(j:p 7 74)(d:p 2 73)(g:p 5 66)(f:p 4 83)(e:p 3 84)(c:p 1 82)(k:p 8 87):p (cW a) (bx a):=by
 have h:=lf a;simp[dk,Prod.mk.injEq,List.not_mem_nil,or_false]at h;rcases h with h|h|h|h|h|h|h|h|h<;>rw[h.1,h.2]<;>assumption
def AS(x)(a):gv x (bx a)=EG (cW a) x:=by
 rw[z6 x _ (sB a)];exact xS a (p:=λf L=>gv x L=qe x f) rfl rfl rfl rfl rfl rfl rfl rfl rfl
def DY(x L:Nat)(a:x<=4294967295)(y:L<=255):bI C0 48 [vU x,.v (.int .u8 (L:Int))] (.v (.int .u32 ((gv x L:Nat):Int))):=by
 refine bk func48 rfl ?_;refine zC (hv x 31 31 a dT dT) ?_;refine zW _ (am (a6 _ _)) ?_;refine dt L 73 (λb=>?_) (λb=>?_)
 ·exact a1 rfl (hv x 20 31 a dT dT)<|zC (Pm (an x 20 12) 12 (aL ((ij x 20 12 4095 rfl)) dT) dT dT)<|fN rfl (by unfold gv;simp[b])
 refine zW _ (am (a6 _ _)) ?_;refine dt L 83 (λc=>?_) (λc=>?_)
 ·refine zC (hv x 7 11 a dT dT)<|a1 rfl (hv x 25 31 a dT dT) ?_;have o:32*(an x 25 7)<=4064:=cJ (aC 32) (ij x 25 7 127 rfl);refine rW _ rfl (ar (nJ o rfl)) ?_;have p:(an x 7 5)+(32*(an x 25 7))<=4095:=aD (ij x 7 5 31 rfl) o;exact rW _ rfl (ar (nJ p rfl))<|zC (Pm ((an x 7 5)+(32*(an x 25 7))) 12 (aL (p) dT) dT dT)<|fN rfl (by unfold gv;simp[b,c])
 refine zW _ (am (a6 _ _)) ?_;refine dt L 66 (λd=>?_) (λd=>?_)
 ·refine a1 rfl (hv x 8 11 a dT dT) ?_;have q:2*(an x 8 4)<=30:=cJ (aC 2) (ij x 8 4 15 rfl);refine zW _ (ar (nJ q rfl))<|a1 rfl (hv x 25 30 a dT dT) ?_;have r:32*(an x 25 6)<=2016:=cJ (aC 32) (ij x 25 6 63 rfl);refine rW _ rfl (ar (nJ r rfl)) ?_;have s:(2*(an x 8 4))+(32*(an x 25 6))<=2046:=aD q r;refine zW _ (ar (nJ s rfl))<|a1 rfl (hv x 7 7 a dT dT) ?_;have t:2048*(an x 7 1)<=2048:=cJ (aC 2048) (ij x 7 1 1 rfl);refine rW _ rfl (ar (nJ t rfl)) ?_;have u:((2*(an x 8 4))+(32*(an x 25 6)))+(2048*(an x 7 1))<=4094:=aD s t;refine zW _ (ar (nJ u rfl)) ?_;have v:4096*(an x 31 1)<=4096:=cJ (aC 4096) (ij x 31 1 1 rfl);refine rW _ rfl (ar (nJ v rfl)) ?_;have w:(((2*(an x 8 4))+(32*(an x 25 6)))+(2048*(an x 7 1)))+(4096*(an x 31 1))<=8190:=aD u v;exact rW _ rfl (ar (nJ w rfl))<|zC (Pm ((((2*(an x 8 4))+(32*(an x 25 6)))+(2048*(an x 7 1)))+(4096*(an x 31 1))) 13 (aL (w) dT) dT dT)<|fN rfl (by unfold gv;simp[b,c,d])
 refine zW _ (am (a6 _ _)) ?_;refine dt L 85 (λe=>?_) (λe=>?_)
 ·refine a1 rfl (hv x 12 31 a dT dT) ?_;exact zW _ (ar (nJ (cJ (aC 4096) (ij x 12 20 1048575 rfl)) rfl))<|fN rfl (by unfold gv;simp[b,c,d,e])
 refine zW _ (am (a6 _ _)) ?_;refine dt L 74 (λf=>?_) (λf=>?_)
 ·refine a1 rfl (hv x 21 30 a dT dT) ?_;have g:2*(an x 21 10)<=2046:=cJ (aC 2) (ij x 21 10 1023 rfl);refine zW _ (ar (nJ g rfl))<|a1 rfl (hv x 20 20 a dT dT) ?_;have h:2048*(an x 20 1)<=2048:=cJ (aC 2048) (ij x 20 1 1 rfl);refine rW _ rfl (ar (nJ h rfl)) ?_;have i:(2*(an x 21 10))+(2048*(an x 20 1))<=4094:=aD g h;refine zW _ (ar (nJ i rfl))<|a1 rfl (hv x 12 19 a dT dT) ?_;have j:4096*(an x 12 8)<=1044480:=cJ (aC 4096) (ij x 12 8 255 rfl);refine rW _ rfl (ar (nJ j rfl)) ?_;have k:((2*(an x 21 10))+(2048*(an x 20 1)))+(4096*(an x 12 8))<=1048574:=aD i j;refine zW _ (ar (nJ k rfl)) ?_;have l:1048576*(an x 31 1)<=1048576:=cJ (aC 1048576) (ij x 31 1 1 rfl);refine rW _ rfl (ar (nJ l rfl)) ?_;have m:(((2*(an x 21 10))+(2048*(an x 20 1)))+(4096*(an x 12 8)))+(1048576*(an x 31 1))<=2097150:=aD k l;exact rW _ rfl (ar (nJ m rfl))<|zC (Pm ((((2*(an x 21 10))+(2048*(an x 20 1)))+(4096*(an x 12 8)))+(1048576*(an x 31 1))) 21 (aL (m) dT) dT dT)<|fN rfl (by unfold gv;simp[b,c,d,e,f])
 refine zW _ (am (a6 _ _)) ?_;refine dt L 84 (λn=>?_) (λn=>?_)
 ·exact zC (hv x 20 24 a dT dT)<|fN rfl (by unfold gv;simp[b,c,d,e,f,n])
 exact fN rfl (by unfold gv;simp[b,c,d,e,f,n])
def Pl(x:Nat)(k:Nat):SI:=
 if b3 x=0 then MG else⟨k,if bx k=83∨bx k=66∨bx k=87 then 0 else(an x 7 5:Nat),if bx k=85∨bx k=74∨bx k=87 then 0 else(an x 15 5:Nat),
  if bx k=82∨bx k=83∨bx k=66 then(an x 20 5:Nat)else 0,gv x (bx k)⟩
def yk(x)(a:x<4294967296):Pl x (b3 x)=bm x:=by
 unfold Pl bm;rw[<-Wi x a];by_cases h:dw x=0
 ·rw[aa h,aa h]
 rw[dZ h,dZ h,AS];unfold xW;have b:=Fp x h;have f1:=AY (dw x:Int) ⟨oT,oT⟩;generalize EG _ _=z;revert f1;exact xS (dw x) (p:=λf L=>1<=f->SI.mk (dw x) (if L=83∨L=66∨L=87 then 0 else(an x 7 5:Nat)) (if L=85∨L=74∨L=87 then 0 else(an x 15 5:Nat)) (if L=82∨L=83∨L=66 then(an x 20 5:Nat)else 0) z=⟨dw x,if yW f then(an x 7 5:Nat)else 0,if uS f then(an x 15 5:Nat)else 0,if vS f then(an x 20 5:Nat)else 0,z⟩) (λh=>absurd h dT) (λ_=>rfl) (λ_=>rfl) (λ_=>rfl) (λ_=>rfl) (λ_=>rfl) (λ_=>rfl) (λ_=>rfl) (λ_=>rfl)
def AT(x)(b:x<=4294967295):bI C0 18 [vU x] (.E [hC (Pl x (b3 x)),.v (.int .i64 ((if b3 x=0 then 20 else 0:Nat):Int))]):=by
 refine bk func18 rfl ?_;refine zC (Dk x b) ?_;refine zW _ (am (a6 _ _)) ?_;refine dt (b3 x) 0 (λa=>?_) (λa=>?_)
 ·exact zV (.agg [vI 0,vI 0,vI 0,vI 0,.v (.int .u32 0)])<|fT rfl (by rw[show Pl x (b3 x)=⟨0,0,0,0,0⟩from by unfold Pl;rw[aa a];rfl,aa a];rfl)
 refine zC (Vs _)<|a1 rfl (DY x _ b (B' _))<|zV (.agg [vN (b3 x),vI 0,vI 0,vI 0,vU (gv x (bx (b3 x)))]) ?_;refine zW _ (am (a6 _ _)) ?_;refine dt (bx (b3 x)) 87 (λc=>?_) (λc=>?_)
 ·exact fT rfl (by rw[show Pl x (b3 x)=⟨((b3 x:Nat):Int),0,0,0,(gv x (bx (b3 x)))⟩from by unfold Pl;rw[dZ a];congr 1<;>split<;>first|rfl|(exfalso;omega),dZ a];rfl)
 refine zW _ (am (db _ _))<|ay rfl id (am (db _ _))<|zN rfl (λh=>h) ?_;refine cb (¬(bx (b3 x))=83∧ ¬(bx (b3 x))=66) (uA _ _ iw iw) (λd=>?_) (λd=>?_)
 all_goals
  first|(refine a1 rfl (hv x 7 11 b dT dT) ?_;refine zW _ (ar (bH (ij x 7 5 31 rfl) rfl)) ?_)|skip
  refine zW _ (am (db _ _))<|ay rfl id (am (db _ _))<|zN rfl (λh=>h) ?_;refine cb (¬(bx (b3 x))=85∧ ¬(bx (b3 x))=74) (uA _ _ iw iw) (λe=>?_) (λe=>?_)
  all_goals
   first|(refine a1 rfl (hv x 15 19 b dT dT) ?_;refine zW _ (ar (bH (ij x 15 5 31 rfl) rfl)) ?_)|skip
   refine zW _ (am (a6 _ _))<|ay rfl id (am (a6 _ _))<|zN rfl (by simp) ?_;refine ay rfl id (am (a6 _ _))<|zN rfl (by simp) ?_;refine cb (((bx (b3 x))=82∨(bx (b3 x))=83)∨(bx (b3 x))=66) (wP _ _ (wP _ _ bv bv) bv) (λf=>?_) (λf=>?_)
   ·refine a1 rfl (hv x 20 24 b dT dT)<|zW _ (ar (bH (ij x 20 5 31 rfl) rfl)) ?_
    first|(exact fT rfl (by rw[show Pl x (b3 x)=⟨((b3 x:Nat):Int),((an x 7 5:Nat):Int),((an x 15 5:Nat):Int),((an x 20 5:Nat):Int),(gv x (bx (b3 x)))⟩from by unfold Pl;rw[dZ a];congr 1<;>split<;>first|rfl|(exfalso;omega),dZ a];rfl))|(exact fT rfl (by rw[show Pl x (b3 x)=⟨((b3 x:Nat):Int),0,((an x 15 5:Nat):Int),((an x 20 5:Nat):Int),(gv x (bx (b3 x)))⟩from by unfold Pl;rw[dZ a];congr 1<;>split<;>first|rfl|(exfalso;omega),dZ a];rfl))|(exact fT rfl (by rw[show Pl x (b3 x)=⟨((b3 x:Nat):Int),((an x 7 5:Nat):Int),0,((an x 20 5:Nat):Int),(gv x (bx (b3 x)))⟩from by unfold Pl;rw[dZ a];congr 1<;>split<;>first|rfl|(exfalso;omega),dZ a];rfl))|(exact fT rfl (by rw[show Pl x (b3 x)=⟨((b3 x:Nat):Int),0,0,((an x 20 5:Nat):Int),(gv x (bx (b3 x)))⟩from by unfold Pl;rw[dZ a];congr 1<;>split<;>first|rfl|(exfalso;omega),dZ a];rfl))
   first|(exact fT rfl (by rw[show Pl x (b3 x)=⟨((b3 x:Nat):Int),((an x 7 5:Nat):Int),((an x 15 5:Nat):Int),0,(gv x (bx (b3 x)))⟩from by unfold Pl;rw[dZ a];congr 1<;>split<;>first|rfl|(exfalso;omega),dZ a];rfl))|(exact fT rfl (by rw[show Pl x (b3 x)=⟨((b3 x:Nat):Int),0,((an x 15 5:Nat):Int),0,(gv x (bx (b3 x)))⟩from by unfold Pl;rw[dZ a];congr 1<;>split<;>first|rfl|(exfalso;omega),dZ a];rfl))|(exact fT rfl (by rw[show Pl x (b3 x)=⟨((b3 x:Nat):Int),((an x 7 5:Nat):Int),0,0,(gv x (bx (b3 x)))⟩from by unfold Pl;rw[dZ a];congr 1<;>split<;>first|rfl|(exfalso;omega),dZ a];rfl))|(exact fT rfl (by rw[show Pl x (b3 x)=⟨((b3 x:Nat):Int),0,0,0,(gv x (bx (b3 x)))⟩from by unfold Pl;rw[dZ a];congr 1<;>split<;>first|rfl|(exfalso;omega),dZ a];rfl))
def DZ(x:Nat)(a:x<4294967296):bI C0 18 [.v (.int .u32 (x:Int))] (.E [hC (bm x),.v (.int .i64 ((he x:Nat):Int))]):=by
 have h:=AT x (aI a);rw[yk x a]at h;unfold he;rw[Wi x a];exact h
def Yr(s:ByteArray)(b:s.size<=4)(k)(a:k<=s.size):c6 (s.data.toList.drop (s.size-k)) k<=4294967295:=by
 have h:=yK (s.data.toList.drop (s.size-k)) k;have:256 ^ k<=256 ^ 4:=bU dT ad;omega
def uk(s:ByteArray)(a:s.size<=4):c6 s.data.toList s.size<=4294967295:=by
 have h:=Yr s a s.size (aC _)
 rwa [eK,bS]at h
def ud(s:ByteArray):s.data.toList.length=s.size:=cV
def yj(s:ByteArray)(c:s.size<=4)(k)(a:k<s.size):(256*c6 (s.data.toList.drop (s.size-k)) k%4294967296+(s.data.toList.getD (((s.size:Int)-1-(k:Int))).toNat 0).toNat)%4294967296=c6 (s.data.toList.drop (s.size-(k+1))) (k+1):=by
 have h:=SL s.data.toList k (by rw[ud];exact a);rw[ud]at h;have b:=Yr s c (k+1) a;rw[(oT:(((s.size:Int)-1-(k:Int))).toNat=s.size-1-k),h];rw[h]at b;omega
def P9(b:UInt8):IntKind.wrap .u32 ((b.toNat:Nat):Int)=((b.toNat:Nat):Int):=by
 have:=UInt8.toNat_lt b;simp only[IntKind.wrap,IntKind.signed,IntKind.bits];simp;omega
def zl(n:Nat):IntKind.wrap .u32 (n:Int)=((n%4294967296:Nat):Int):=by
 simp only[IntKind.wrap,IntKind.signed,IntKind.bits];simp
def s'(s)(c:s.size<=4):bI C0 26 [.v (.string s)] (.E [.v (.int .u32 ((c6 s.data.toList s.size:Nat):Int)),.v (.int .i64 0)]):=by
 refine bk func26 rfl ?_;refine rV (vN s.size) rfl<|zW (vB (decide (s.size>4))) (am (fw _ _)) ?_;refine cb (s.size>4) qW (λa=>by omega) (λa=>?_);refine rV (vN s.size) rfl<|zW (vI ((s.size:Int)-1)) (fy (c4 ad ad))<|eh (λk=>⟨be [(0,.v (.string s)),(4,vU (c6 (s.data.toList.drop (s.size-k)) k)),(5,vI ((s.size:Int)-1-(k:Int)))],ap [],10⟩) (λk=>k<=s.size) (λk=>s.size-k) 0 (λs=>s) (av (λs=>s) ⟨⟨rfl,rfl⟩,⟨rfl,rfl⟩,⟨az (λn:Int=>AV.v (.int .i64 n)) (by simp),rfl⟩,trivial⟩ trivial rfl) (aE _) ?_;intro k f;refine zV (vB (decide (((s.size:Int)-1-(k:Int))>=0))) ?_;refine cb (((s.size:Int)-1-(k:Int))>=0) qW (λb=>?_) (λb=>?_)
 ·skip
  have d:(256*(c6 (s.data.toList.drop (s.size-k)) k))%4294967296<=4294967295:=aI (aQ _ dT);refine zV (vU ((256*(c6 (s.data.toList.drop (s.size-k)) k))%4294967296))<|nW (.v (.int .u8 (((s.data.toList.getD ((s.size:Int)-1-(k:Int)).toNat 0).toNat:Nat):Int))) rfl rfl (⟨oT,oT⟩)<|rW (vU ((s.data.toList.getD ((s.size:Int)-1-(k:Int)).toNat 0).toNat)) rfl (fy (P9 _))<|zW (vU (c6 (s.data.toList.drop (s.size-(k+1))) (k+1))) (ar (by rw[<-yj s c k ad];exact zl _))<|zW (vI ((s.size:Int)-1-((k+1:Nat):Int))) (fy (by rw[c4 ad ad];omega)) ?_;refine⟨k+1,λs=>s,av (λs=>s) wT trivial rfl,ad,ad⟩
 have e:k=s.size:=oT;subst e;exact fT rfl (by rw[eK,bS];rfl)
def Su(x k)(a:x<=4294967295)(h:x/2 ^ k>0):g0 (x/2 ^ k)=1+g0 (x/2 ^ (k+1)):=by
 have:x/2 ^ k<=x:=cO _ _;unfold g0;rw[Lib.bitLen_half _ ad ad,Nat.div_div_eq_div_mul, <-Nat.pow_succ]
def Sv(x k)(b:x<=4294967295)(h:x/2 ^ k>0):k<32:=by
 refine Nat.lt_of_not_le λa=>?_;have:(2:Nat) ^ 32<=2 ^ k:=bU dT a;rw[Nat.div_eq_of_lt ad]at h;omega
def zy:g0 0=0:=dT
def tl(x)(b:x<=4294967295):bI C0 58 [vU x] (.v (.int .i64 ((g0 x:Nat):Int))):=by
 refine bk func58 rfl ?_;refine eh (λk=>⟨be [(0,vU (x/2 ^ k)),(3,vN k)],ap [],2⟩) (λk=>k<=32∧g0 x=k+g0 (x/2 ^ k)) (λk=>33-k) 0 (λs=>s) (av (λs=>s) ⟨⟨qb (by simp),rfl⟩,⟨rfl,rfl⟩,trivial⟩ trivial rfl) (⟨dT,by simp⟩) ?_;intro k c;refine zW (vB (decide ((x/2 ^ k)>0))) (am (fw _ _)) ?_;refine cb ((x/2 ^ k)>0) qW (λa=>?_) (λa=>?_)
 ·skip
  refine zW (vN (k+1)) (ar (bH (aD c.1 (aC 1)) rfl))<|zM (vU (x/2 ^ (k+1))) (hW (by rw[Nat.pow_succ, <-Nat.div_div_eq_div_mul];exact nJ (aL (cO _ _) (aL (cO _ _) b)) rfl)) dT ?_;refine⟨k+1,λs=>s,av (λs=>s) wT trivial rfl,⟨Sv x k b a,by rw[c.2,Su x k b a];omega⟩,(oH (Sv x k b a))⟩
 exact fN rfl (by rw[c.2,show x/2 ^ k=0 from Nat.eq_zero_of_not_pos a,zy];rfl)
def zz(m)(a)(b)(g:a+b.size<=m.size)(o:m.size<=256)(f:a<=4294967295)(l:b.size<=4):bI C0 25 [.v (.string m),vU a,.v (.string b)] (.v (.string (DD m a b))):=by
 refine bk func25 rfl ?_;refine zV (.X 1 ([]) true) ?_;refine jR (λk=>match k with|0=>⟨be [(0,.v (.string m)),(1,vU a),(2,.v (.string b)),(7,.X 1 ([]) true),(8,vN 0)],ap [],4⟩|k+1=>⟨be [(0,.v (.string m)),(1,vU a),(2,.v (.string b)),(7,.S 0 0 (k+1) false),(8,vN (k+1))],ap [(0,.arr ((cr (uU m b a) (k+1)).map Sx) 1)],4⟩) (λk=>k<=m.size) (λk=>m.size-k) 0 (λs=>s) (av (λs=>s) wT trivial rfl) (aE _) ?_;intro k n;rcases k with _|k
 ·have c:0<=1000000:=dT;refine qS 0 rfl<|rV (vN m.size) rfl<|zW _ (am (bz _ _)) ?_;refine cb (0<m.size) qW (λi=>?_) (λi=>?_)
  ·refine rW _ rfl (ar (bH f rfl))<|zW _ (fy (c4 ad ad))<|zV (vB (decide ((((0:Nat):Int)-(a:Int))>=0))) ?_;refine ay rfl id rfl<|ay rfl cn rfl<|zN rfl (λh=>h) ?_;refine cb ((((0:Nat):Int)-(a:Int))>=0∧(((0:Nat):Int)-(a:Int))<((b.size:Nat):Int)) (uA _ _ qW qW) (λd=>?_) (λd=>?_)
   ·refine nW (.v (.int .u8 (((b.data.toList.getD (((0:Nat):Int)-(a:Int)).toNat 0).toNat:Nat):Int))) rfl rfl (⟨oT,oT⟩)<|rV (.X 1 ([[.v (.int .u8 (((b.data.toList.getD (((0:Nat):Int)-(a:Int)).toNat 0).toNat:Nat):Int))]]) true) rfl<|zF (x:=.S 26 0 1 false) (h':=ao _ 26 (some (.arr (([])++([[.v (.int .u8 (((b.data.toList.getD (((0:Nat):Int)-(a:Int)).toNat 0).toNat:Nat):Int))]])) 1))) (rfl) (⟨by exact aJ rfl,by exact aJ rfl,trivial,trivial⟩) ?_;refine zW _ (ar (bH (aD c (aC 1)) rfl)) ?_;refine⟨0+1,λs=>match s with|0=>26|s=>s,av (λs=>match s with|0=>26|s=>s) wT ⟨⟨rfl,az (λz=>some (bh.arr z 1)) (Jp (row:=Sx) (x:=b.data.toList.getD (((0:Nat):Int)-(a:Int)).toNat 0) (by unfold uU;rw[aa d])),rfl⟩,trivial⟩ rfl,ad,ad⟩
   refine nW (.v (.int .u8 (((m.data.toList.getD (((0:Nat):Int)).toNat 0).toNat:Nat):Int))) rfl rfl (⟨oT,oT⟩)<|rV (.X 1 ([[.v (.int .u8 (((m.data.toList.getD (((0:Nat):Int)).toNat 0).toNat:Nat):Int))]]) true) rfl<|zF (x:=.S 26 0 1 false) (h':=ao _ 26 (some (.arr (([])++([[.v (.int .u8 (((m.data.toList.getD (((0:Nat):Int)).toNat 0).toNat:Nat):Int))]])) 1))) (rfl) (⟨by exact aJ rfl,by exact aJ rfl,trivial,trivial⟩) ?_;refine zW _ (ar (bH (aD c (aC 1)) rfl)) ?_;refine⟨0+1,λs=>match s with|0=>26|s=>s,av (λs=>match s with|0=>26|s=>s) wT ⟨⟨rfl,az (λz=>some (bh.arr z 1)) (Jp (row:=Sx) (x:=m.data.toList.getD ((0:Nat):Int).toNat 0) (by unfold uU;rw[dZ d];rfl)),rfl⟩,trivial⟩ rfl,ad,ad⟩
  exact qX 0 rfl<|SV (([]:List UInt8)) rfl rfl rfl (trivial) (rfl)<|dc 0 rfl<|fS rfl (by rw[<-Ld m b a g];rw[(oT:m.size=0)];rfl)
 have c:k+1<=1000000:=oT;refine qS 0 rfl<|rV (vN m.size) rfl<|zW _ (am (bz _ _)) ?_;refine cb ((k+1)<m.size) qW (λj=>?_) (λj=>?_)
 ·refine rW _ rfl (ar (bH f rfl))<|zW _ (fy (c4 ad ad))<|zV (vB (decide (((((k+1):Nat):Int)-(a:Int))>=0))) ?_;refine ay rfl id rfl<|ay rfl cn rfl<|zN rfl (λh=>h) ?_;refine cb (((((k+1):Nat):Int)-(a:Int))>=0∧((((k+1):Nat):Int)-(a:Int))<((b.size:Nat):Int)) (uA _ _ qW qW) (λe=>?_) (λe=>?_)
  ·refine nW (.v (.int .u8 (((b.data.toList.getD ((((k+1):Nat):Int)-(a:Int)).toNat 0).toNat:Nat):Int))) rfl rfl (⟨oT,oT⟩)<|rV (.X 1 ([[.v (.int .u8 (((b.data.toList.getD ((((k+1):Nat):Int)-(a:Int)).toNat 0).toNat:Nat):Int))]]) true) rfl ?_;refine zF (rfl) (⟨gC ad,gF,trivial⟩) ?_;refine zW _ (ar (bH (aD c (aC 1)) rfl)) ?_;refine⟨(k+1)+1,λs=>match s with|0=>26|s=>s,av (λs=>match s with|0=>26|s=>s) ⟨⟨rfl,rfl⟩,⟨rfl,rfl⟩,⟨rfl,rfl⟩,⟨az (λz=>AV.S 26 0 z false) gL,rfl⟩,⟨rfl,rfl⟩,trivial⟩ ⟨⟨rfl,az (λz=>some (bh.arr z 1)) (Gh (by unfold uU;rw[aa e])),rfl⟩,trivial⟩ rfl,ad,ad⟩
  refine nW (.v (.int .u8 (((m.data.toList.getD ((((k+1):Nat):Int)).toNat 0).toNat:Nat):Int))) rfl rfl (⟨oT,oT⟩)<|rV (.X 1 ([[.v (.int .u8 (((m.data.toList.getD ((((k+1):Nat):Int)).toNat 0).toNat:Nat):Int))]]) true) rfl ?_;refine zF (rfl) (⟨gC ad,gF,trivial⟩) ?_;refine zW _ (ar (bH (aD c (aC 1)) rfl)) ?_;refine⟨(k+1)+1,λs=>match s with|0=>26|s=>s,av (λs=>match s with|0=>26|s=>s) ⟨⟨rfl,rfl⟩,⟨rfl,rfl⟩,⟨rfl,rfl⟩,⟨az (λz=>AV.S 26 0 z false) gL,rfl⟩,⟨rfl,rfl⟩,trivial⟩ ⟨⟨rfl,az (λz=>some (bh.arr z 1)) (Gh (by unfold uU;rw[dZ e];rfl)),rfl⟩,trivial⟩ rfl,ad,ad⟩
 exact qX 0 rfl<|SV (cr (uU m b a) (k+1)) rfl rfl rfl (Nat.le_of_eq gF) (by rw[gT];exact lN _)<|dc 0 rfl<|fS rfl (by rw[<-Ld m b a g];rw[(oT:m.size=k+1)])
def KZ(n):gU (List.take n (List.drop 0 (List.replicate n [AV.v (.int .u8 0)])))=some (List.replicate n (0:UInt8)):=by
 rw[bS,aN (by simp)];have:List.replicate n [AV.v (.int .u8 0)]=(List.replicate n (0:UInt8)).map λb=>[.v (.int .u8 (b.toNat:Int))]:=by simp
 rw[this];exact lN _
def wj(m:ByteArray)(j)(b:m.size<=256)(a:j<=4):((m.size+(⟨(List.replicate (16*2 ^ j-m.size) (0:UInt8)).toArray⟩:ByteArray).size:Nat):Int)<=IntKind.i64.max:=by
 have c:=bU (n:=2) dT a;have e:(⟨(List.replicate (16*2 ^ j-m.size) (0:UInt8)).toArray⟩:ByteArray).size=16*2 ^ j-m.size:=by
  show(List.replicate (16*2 ^ j-m.size) (0:UInt8)).toArray.size=_;simp
 rw[e];simp only[IntKind.max,IntKind.signed,IntKind.bits];simp;omega
def Mq(m:ByteArray):m.extract 0 m.size=m:=by simp
def NY(x)(n):x++(⟨(List.replicate n (0:UInt8)).toArray⟩:ByteArray)=(⟨(x.data.toList++List.replicate n 0).toArray⟩:ByteArray):=by
 refine ByteArray.ext ?_;rw[ByteArray.data_append];simp
def Vo(m)(j)(d: ¬m.size>256)(c: ¬ 16*2 ^ j<m.size)(b:j<=4)(a:j=0∨16*2 ^ (j-1)<m.size):m++(⟨(List.replicate (16*2 ^ j-m.size) (0:UInt8)).toArray⟩:ByteArray)=jB m:=by
 rw[NY];unfold jB;rw[ll ad,Mq,NE b ad a]
def Sw(m)(j)(d:m.size>256)(b: ¬ 16*2 ^ j<(m.extract 0 256).size)(a:j<=4)(c:j=0∨16*2 ^ (j-1)<(m.extract 0 256).size):m.extract 0 256++(⟨(List.replicate (16*2 ^ j-(m.extract 0 256).size) (0:UInt8)).toArray⟩:ByteArray)=jB m:=by
 have e:(m.extract 0 256).size=256:=by rw[dA];omega
 rw[NY];unfold jB;rw[Nat.min_eq_right ad, <-NE a ad ad,e]
def Ej{n j:Nat}(b:n<=256)(a:j<=4)(h:16*2 ^ j<n):j+1<=4:=IQ (n:=n) a ad
def tm(m):bI C0 11 [.v (.string m)] (.v (.string (jB m))):=by
 refine bk func11 rfl ?_;refine rV (vN m.size) rfl<|zW (vB (decide (m.size>256))) (am (fw _ _)) ?_;refine cb (m.size>256) qW (λf=>?_) (λf=>?_)
 ·refine zM (.v (.string (m.extract 0 256))) rfl (⟨dT,by show(0:Int)<=256;decide,by show(256:Int)<=((m.size:Nat):Int);omega⟩) ?_;have b:(m.extract 0 256).size<=256:=by rw[dA];omega
  refine eh (κ:=Nat) (λj=>⟨be [(0,.v (.string (m.extract 0 256))),(3,vN (16*2 ^ j))],ap [],8⟩) (λj=>j<=4∧(j=0∨16*2 ^ (j-1)<(m.extract 0 256).size)) (λj=>4-j) 0 (λs=>s) (av (λs=>s) wT trivial rfl) (⟨dT,.inl rfl⟩) ?_;intro j a;refine rV (vN ((m.extract 0 256).size)) rfl<|zW (vB (decide ((16*2 ^ j)<((m.extract 0 256).size)))) (am (bz _ _)) ?_;refine cb ((16*2 ^ j)<((m.extract 0 256).size)) qW (λd=>?_) (λd=>?_)
  ·refine zW (vN (16*2 ^ (j+1))) (by show bw.ok (.v (.int .i64 (IntKind.wrap .i64 (2*((16*2 ^ j:Nat):Int)))))=_;have c:=bU (n:=2) dT a.1;rw[c4 ad ad];congr 3;rw[Nat.pow_succ];omega) ?_;refine⟨j+1,λs=>s,av (λs=>s) wT trivial rfl,⟨Ej b a.1 d,.inr (sU d)⟩,(oH (Ej b a.1 d))⟩
  refine rV (vN ((m.extract 0 256).size)) rfl<|rW (vN (16*2 ^ j-(m.extract 0 256).size)) rfl (fy (by have c:=bU (n:=2) dT a.1;rw[c4 ad ad];omega)) ?_;refine zF (h':=ao _ 16 (some (.arr (List.replicate (16*2 ^ j-(m.extract 0 256).size) [AV.v (.int .u8 0)]) 1))) (rfl) (by have c:=bU (n:=2) dT a.1;refine⟨oT,oT,?_⟩;simp[jH];omega) ?_;exact SV (List.replicate (16*2 ^ j-(m.extract 0 256).size) (0:UInt8)) rfl rfl rfl (by show 0+(16*2 ^ j-(m.extract 0 256).size)<=(List.replicate (16*2 ^ j-(m.extract 0 256).size) [AV.v (.int .u8 0)]).length;rw[cM];omega) (KZ _)<|zM (.v (.string (jB m))) (az (λx=>bw.Z9 _ (.v (.string x))) (Sw m j ad ad a.1 a.2)) (wj (m.extract 0 256) j b a.1)<|fT rfl rfl
 skip
 have b:m.size<=256:=oT;refine eh (κ:=Nat) (λj=>⟨be [(0,.v (.string m)),(3,vN (16*2 ^ j))],ap [],5⟩) (λj=>j<=4∧(j=0∨16*2 ^ (j-1)<m.size)) (λj=>4-j) 0 (λs=>s) (av (λs=>s) wT trivial rfl) (⟨dT,.inl rfl⟩) ?_;intro j a;refine rV (vN m.size) rfl<|zW (vB (decide ((16*2 ^ j)<m.size))) (am (bz _ _)) ?_;refine cb ((16*2 ^ j)<m.size) qW (λe=>?_) (λe=>?_)
 ·refine zW (vN (16*2 ^ (j+1))) (by show bw.ok (.v (.int .i64 (IntKind.wrap .i64 (2*((16*2 ^ j:Nat):Int)))))=_;have c:=bU (n:=2) dT a.1;rw[c4 ad ad];congr 3;rw[Nat.pow_succ];omega) ?_;refine⟨j+1,λs=>s,av (λs=>s) wT trivial rfl,⟨Ej b a.1 e,.inr (sU e)⟩,(oH (Ej b a.1 e))⟩
 refine rV (vN m.size) rfl<|rW (vN (16*2 ^ j-m.size)) rfl (fy (by have c:=bU (n:=2) dT a.1;rw[c4 ad ad];omega)) ?_;refine zF (h':=ao _ 13 (some (.arr (List.replicate (16*2 ^ j-m.size) [AV.v (.int .u8 0)]) 1))) (rfl) (by have c:=bU (n:=2) dT a.1;refine⟨oT,oT,?_⟩;simp[jH];omega) ?_;exact SV (List.replicate (16*2 ^ j-m.size) (0:UInt8)) rfl rfl rfl (by show 0+(16*2 ^ j-m.size)<=(List.replicate (16*2 ^ j-m.size) [AV.v (.int .u8 0)]).length;rw[cM];omega) (KZ _)<|zM (.v (.string (jB m))) (az (λx=>bw.Z9 _ (.v (.string x))) (Vo m j ad ad a.1 a.2)) (wj m j b a.1)<|fT rfl rfl
def zE(size a n)(f:size<=256)(b:a<=4294967295)(c:n<=4):bI C0 23 [vN size,vU a,vN n] (.v (.bool (kZ (size:Int) a (n:Int)))):=by
 refine bk func23 rfl ?_;refine zW _ (am (db _ _))<|ay rfl id (am (db _ _))<|zN rfl (λh=>h) ?_;refine ay rfl id (am (db _ _))<|zN rfl (λh=>h) ?_;refine cb ((¬n=1∧ ¬n=2)∧ ¬n=4) (uA _ _ (uA _ _ iw iw) iw) (λe=>?_) (λe=>?_)
 ·exact ii rfl (by have d:n=0∨n=1∨n=2∨n=3∨n=4:=ad;rw[bB];rcases d with rfl|rfl|rfl|rfl|rfl<;>simp[c2,kZ]<;>omega)
 refine rW _ rfl (ar (nJ c rfl)) ?_;have g:a%n<=4294967295:=aL (gR _ _) b;refine nW (vU (a%n)) rfl rfl ad<|zW _ (am (a6 _ _))<|ay rfl id (am (i9 _ _))<|zN rfl (λh=>h)<|e8 rfl id (ar (nJ b rfl))<|ay rfl id (ar (nJ c rfl)) ?_;exact e8 rfl cn (ar (nJ (aD b c) rfl))<|ay rfl id (ar (nJ f rfl))<|ay rfl cn (am (jh _ _))<|zN rfl (λh=>h)<|ii rfl (by have d:n=0∨n=1∨n=2∨n=3∨n=4:=ad;rw[bB];rcases d with rfl|rfl|rfl|rfl|rfl<;>simp[c2,kZ]<;>omega)
def Vp{a}{s}(h: ¬ak a=3∨ ¬s.size=a' a):hL a s=0:=by
 unfold hL;exact dZ (λe=>h.elim (λq=>q e.1) λq=>q e.2)
def Jo{a}{s}(h: ¬(¬ak a=3∨ ¬s.size=a' a)):hL a s=(if a=11 then cp (c6 s.data.toList s.size) 8 else if a=12 then cp (c6 s.data.toList s.size) 16 else c6 s.data.toList s.size):=by
 unfold hL;exact aa ⟨er λq=>h (.inl q),er λq=>h (.inr q)⟩
def Ac(a)(s):bI C0 27 [vI a,.v (.string s)] (.v (.int .u32 ((hL a s:Nat):Int))):=by
 refine bk func27 rfl ?_;refine a1 rfl (nk a)<|zW _ (am (db _ _))<|e8 rfl id rfl<|jQ rfl rfl rfl rfl (λh=>h) rfl rfl rfl (.inl rfl) rfl (λe=>tr a) ?_;refine ay rfl cn (am (db _ _))<|zN rfl (by simp) ?_;refine cb (¬(ak a)=3∨ ¬s.size=(a' a)) (wP _ _ iw iw) (λb=>?_) (λb=>?_)
 ·exact fI rfl (by rw[Vp b];rfl)
 refine zC (s' s (oH (lQ a)))<|cm a 11 (λc=>?_) (λc=>?_)
 ·exact zC (Pm _ 8 (uk s (oH (lQ a))) dT dT)<|fI rfl (by rw[Jo b,aa c])
 refine cm a 12 (λd=>?_) (λd=>?_)
 ·exact zC (Pm _ 16 (uk s (oH (lQ a))) dT dT)<|fI rfl (by rw[Jo b,dZ c,aa d])
 exact fI rfl (by rw[Jo b,dZ c,dZ d])
def Ak(c)(a b)(f:a<=4294967295)(g:b<=4294967295):bI C0 30 [vI c,vU a,vU b] (.v (.int .i64 ((eu c a b:Nat):Int))):=by
 refine bk func30 rfl ?_;have d:b_ c a<=4294967295:=aI (pT c a (bG f));have e:b_ c b<=4294967295:=aI (pT c b (bG g));refine zV (vB (decide (c<42)))<|ay rfl id rfl<|zN rfl (by simp) ?_;refine cb (c<42∨c>45) (wP _ _ qW qW) (λh=>?_) (λh=>?_)
 ·exact fI rfl (by unfold eu;rw[aa ad];rfl)
 refine zC (Wg c a f)<|zC (Wg c b g) ?_;refine zW _ (am (a6 _ _))<|ay rfl cn (am (bz _ _))<|zN rfl (by simp) ?_;refine cb (b=0∨(b_ c a)<(b_ c b)) (wP _ _ bv qW) (λi=>?_) (λi=>?_)
 ·exact fI rfl (by unfold eu;rw[dZ ad,aa ad];rfl)
 refine rW _ rfl (ar (nJ d rfl))<|a1 rfl (tl _ d) ?_;exact zW _ (ar (bH (aD (aC 3) (IM _ (bG d))) rfl))<|rW _ rfl (ar (nJ e rfl))<|a1 rfl (tl _ e)<|zV (vI (IntKind.wrap .i64 (((3+(g0 (b_ c a)):Nat):Int)-((g0 (b_ c b):Nat):Int))))<|fI rfl (by unfold eu;rw[dZ ad,dZ ad];have j:=IM _ (bG d);have k:=Kz (b_ c b) (b_ c a) ad ad ad (oH (yJ c b ad ad));rw[c4 ad ad];omega)
def ue{c}(a b)(h:c=28∨c=19):bT c a b=(a+b)%4294967296:=by rcases h with rfl|rfl<;>simp[bT]
def Dj{c}(a b)(h:c=29):bT c a b=(a+4294967296-b)%4294967296:=by subst h;simp[bT]
def uf{c}(a b)(h:c=37∨c=24):bT c a b=a&&&b:=by rcases h with rfl|rfl<;>simp[bT]
def ug{c}(a b)(h:c=36∨c=23):bT c a b=a ||| b:=by rcases h with rfl|rfl<;>simp[bT]
def uh{c}(a b)(h:c=33∨c=22):bT c a b=a^^^b:=by rcases h with rfl|rfl<;>simp[bT]
def ui{c}(a b)(h:c=30∨c=25):bT c a b=a*2 ^ (b%32)%4294967296:=by rcases h with rfl|rfl<;>simp[bT]
def uj{c}(a b)(h:c=34∨c=26):bT c a b=a/2 ^ (b%32):=by rcases h with rfl|rfl<;>simp[bT]
def tv{c}(a b)(h:c=35∨c=27):bT c a b=e7 (bs a/2 ^ (b%32)):=by rcases h with rfl|rfl<;>simp[bT]
def tw{c}(a b)(h:c=31∨c=20):bT c a b=(if bs a<bs b then 1 else 0):=by rcases h with rfl|rfl<;>simp[bT]
def tx{c}(a b)(h:c=32∨c=21):bT c a b=(if a<b then 1 else 0):=by rcases h with rfl|rfl<;>simp[bT]
def Pa{c}(a b)(h:c=1):bT c a b=b:=by subst h;simp[bT]
def sd{c}(a b)(h:∀k∈[28,19,29,37,24,36,23,33,22,30,25,34,26,35,27,31,20,32,21,1],c≠k):bT c a b=0:=by
 simp[dk,List.not_mem_nil,or_false,forall_eq_or_imp,forall_eq]at h;unfold bT
 (repeat rw[dZ ad])
def P3(d )(a b)(c:a<=4294967295)(e:b<=4294967295):bI C0 53 [vI d,vU a,vU b] (.v (.int .u32 ((bT d a b:Nat):Int))):=by
 refine bk func53 rfl ?_;refine nW (vU (b%32)) rfl rfl dT<|zW _ (ar (bH (aI (aQ _ dT)) rfl))<|cm d 28 (λk=>?_) (λk=>?_)
 ·refine zT (bv.2 k)<|zW _ (ar (nJ c rfl))<|rW _ rfl (ar (nJ e rfl)) ?_;refine rW _ rfl (ar (nJ (aD c e) rfl)) ?_;exact nW (.v (.int .u64 (((a+b)%4294967296:Nat):Int))) rfl rfl dT<|zW _ (ar (nJ (aI (aQ _ dT)) rfl))<|fN rfl (ue a b ad).symm
 refine cm d 19 (λu=>?_) (λu=>?_)
 ·refine zW _ (ar (nJ c rfl))<|rW _ rfl (ar (nJ e rfl)) ?_;refine rW _ rfl (ar (nJ (aD c e) rfl)) ?_;exact nW (.v (.int .u64 (((a+b)%4294967296:Nat):Int))) rfl rfl dT<|zW _ (ar (nJ (aI (aQ _ dT)) rfl))<|fN rfl (ue a b ad).symm
 refine cm d 29 (λv=>?_) (λv=>?_)
 ·refine rW _ rfl (ar (nJ c rfl)) ?_;refine zW _ (ar (nJ (aD c (aC 4294967296)) rfl))<|rW _ rfl (ar (nJ e rfl)) ?_;have z:((a+4294967296)+18446744073709551616-b)%18446744073709551616<=18446744073709551615:=aI (aQ _ dT);refine rW _ rfl (ar (ya e rfl)) ?_;exact nW (.v (.int .u64 (((((a+4294967296)+18446744073709551616-b)%18446744073709551616)%4294967296:Nat):Int))) rfl rfl dT<|zW _ (ar (nJ (aI (aQ _ dT)) rfl))<|fN rfl (by rw[Dj a b ad];omega)
 refine cm d 37 (λr=>?_) (λr=>?_)
 ·exact zT (bv.2 r)<|zC (Pn 1 a b c e)<|fN rfl ((uf a b ad).trans (Oa a b c e).symm).symm
 refine cm d 24 (λw=>?_) (λw=>?_)
 ·exact zC (Pn 1 a b c e)<|fN rfl ((uf a b ad).trans (Oa a b c e).symm).symm
 refine cm d 36 (λs=>?_) (λs=>?_)
 ·exact zT (bv.2 s)<|zC (Pn 2 a b c e)<|fN rfl ((ug a b ad).trans (SJ a b c e).symm).symm
 refine cm d 23 (λx=>?_) (λx=>?_)
 ·exact zC (Pn 2 a b c e)<|fN rfl ((ug a b ad).trans (SJ a b c e).symm).symm
 refine cm d 33 (λt=>?_) (λt=>?_)
 ·exact zT (bv.2 t)<|zC (Pn 3 a b c e)<|fN rfl ((uh a b ad).trans (Ob a b c e).symm).symm
 refine cm d 22 (λy=>?_) (λy=>?_)
 ·exact zC (Pn 3 a b c e)<|fN rfl ((uh a b ad).trans (Ob a b c e).symm).symm
 refine cm d 30 (λf=>?_) (λf=>?_)
 ·exact zT (bv.2 f)<|zC (Hg a (((b%32:Nat):Int)) (0) c ad ad ad)<|fN rfl ((ui a b ad).trans (La a (b%32) c ad).symm).symm
 refine cm d 25 (λl=>?_) (λl=>?_)
 ·exact zC (Hg a (((b%32:Nat):Int)) (0) c ad ad ad)<|fN rfl ((ui a b ad).trans (La a (b%32) c ad).symm).symm
 refine cm d 34 (λg=>?_) (λg=>?_)
 ·exact zT (bv.2 g)<|rW _ rfl (fy (by rw[Int.zero_sub];exact c4 ad ad))<|zC (Hg a (-((b%32:Nat):Int)) (0) c ad ad ad)<|fN rfl ((uj a b ad).trans (FD a (b%32) c ad).symm).symm
 refine cm d 26 (λm=>?_) (λm=>?_)
 ·exact rW _ rfl (fy (by rw[Int.zero_sub];exact c4 ad ad))<|zC (Hg a (-((b%32:Nat):Int)) (0) c ad ad ad)<|fN rfl ((uj a b ad).trans (FD a (b%32) c ad).symm).symm
 refine cm d 35 (λh=>?_) (λh=>?_)
 ·exact zT (bv.2 h)<|zW _ (fy (by rw[Int.zero_sub];exact c4 ad ad))<|a1 rfl (Pu a 31 c dT)<|zC (Hg a (-((b%32:Nat):Int)) (a/2 ^ 31%2) c ad ad ad)<|fN rfl ((tv a b ad).trans (Lb a (b%32) c ad).symm).symm
 refine cm d 27 (λn=>?_) (λn=>?_)
 ·exact zW _ (fy (by rw[Int.zero_sub];exact c4 ad ad))<|a1 rfl (Pu a 31 c dT)<|zC (Hg a (-((b%32:Nat):Int)) (a/2 ^ 31%2) c ad ad ad)<|fN rfl ((tv a b ad).trans (Lb a (b%32) c ad).symm).symm
 refine cm d 31 (λi=>?_) (λi=>?_)
 ·exact zT (bv.2 i)<|zC (wL a c)<|a1 rfl (wL b e)<|rV (vB (decide ((bs a)<(bs b)))) rfl<|zC (oi _)<|fN rfl (by rw[tw a b ad];simp[aY])
 refine cm d 20 (λo=>?_) (λo=>?_)
 ·exact zC (wL a c)<|a1 rfl (wL b e)<|rV (vB (decide ((bs a)<(bs b)))) rfl<|zC (oi _)<|fN rfl (by rw[tw a b ad];simp[aY])
 refine cm d 32 (λj=>?_) (λj=>?_)
 ·exact zT (bv.2 j)<|rW _ rfl (am (bz _ _))<|zC (oi _)<|fN rfl (by rw[tx a b ad];simp[aY])
 refine cm d 21 (λp=>?_) (λp=>?_)
 ·exact rW _ rfl (am (bz _ _))<|zC (oi _)<|fN rfl (by rw[tx a b ad];simp[aY])
 refine cm d 1 (λq=>?_) (λq=>?_)
 ·exact fN rfl (Pa a b ad).symm
 exact fN rfl (sd a b (by simp;omega)).symm
def bP(i:SI)(b:Nat):Nat:=if((i.op=1∨bx i.op=84)∨((bx i.op=73∧ ¬i.op=4)∧ ¬ak i.op=3))then i.A else b
def p5{i}{b}(c:i.A<=4294967295)(a:b<=4294967295):bP i b<=4294967295:=by unfold bP;split<;>assumption
def Wf{i}{b}(h:ak i.op=1∨ak i.op=2):bP i b=b:=by
 unfold bP;refine dZ ?_;have:=oG i.op;have:=es i.op;omega
def Av(i)(a b):bT i.op a (bP i b)=bT i.op a (if UB i.op=true then i.A else b):=by
 by_cases h:((i.op=1∨bx i.op=84)∨((bx i.op=73∧ ¬i.op=4)∧ ¬ak i.op=3))↔UB i.op=true
 ·unfold bP;simp[h]
 have c:i.op=11∨i.op=12∨i.op=13∨i.op=14∨i.op=15:=by
  have d:=oG i.op;have e:=es i.op;simp[UB,dE,aP,aY]at h;omega
 rw[sd _ _ (by simp;omega),sd _ _ (by simp;omega)]
def rB(i)(b:Nat)(f:i.A<=4294967295)(e:b<=4294967295):bI C0 50 [hC i,.v (.int .u32 (b:Int))] (.v (.int .u32 ((bP i b:Nat):Int))):=by
 refine bk func50 rfl ?_;refine zC (Vs _) ?_;refine zV (vB (i.op==1))<|ay rfl id (am (a6 _ _))<|zN rfl (by simp)<|ay rfl id (am (a6 _ _))<|zG rfl id<|gS rfl id<|ay rfl id rfl<|pB rfl rfl rfl rfl (λh=>h) rfl rfl (λa d=>by first|(rw[a,d];rfl)|simp_all)<|zG rfl id<|gS rfl id ?_;refine jQ rfl rfl rfl rfl (λh=>h) rfl rfl rfl (.inl rfl) rfl (λa=>nk _)<|ay rfl id (am (db _ _))<|pB rfl rfl rfl rfl (λh=>h) rfl rfl (λa d=>by first|(rw[a,d];rfl)|simp_all)<|zN rfl (by simp) ?_;refine cb ((i.op=1∨(bx i.op)=84)∨(((bx i.op)=73∧ ¬i.op=4)∧ ¬(ak i.op)=3)) (wP _ _ (wP _ _ bv bv) (uA _ _ (uA _ _ bv iw) iw)) (λc=>?_) (λc=>?_)
 ·exact fI rfl (by unfold bP;rw[aa c])
 exact fI rfl (by unfold bP;rw[dZ c])
def z1(i)(pc a b:Nat)(g:i.A<=4294967295)(k:pc<=4294967295)(j:a<=4294967295)(f:b<=4294967295):bI C0 21 [hC i,.v (.int .u32 (pc:Int)),.v (.int .u32 (a:Int)),.v (.int .u32 (b:Int))] (.v (.int .u32 ((BF i.op i.A pc a b:Nat):Int))):=by
 refine bk func21 rfl ?_;refine zC (rB i b g f) ?_;refine a1 rfl (nk _)<|zW _ (am (a6 _ _)) ?_;refine dt (ak i.op) 1 (λc=>?_) (λc=>?_)
 ·exact zC (B7 i.op a (bP i b) j (p5 g f))<|fN rfl (by unfold BF;rw[Wf (.inl c),aa c])
 refine a1 rfl (nk _)<|zW _ (am (a6 _ _)) ?_;refine dt (ak i.op) 2 (λd=>?_) (λd=>?_)
 ·exact zC (B_ i.op a (bP i b) j (p5 g f))<|fN rfl (by unfold BF;rw[Wf (.inr d),dZ c,aa d])
 refine cm i.op 2 (λe=>?_) (λe=>?_)
 ·skip
  have l:(pc+i.A)%4294967296<=4294967295:=aI (aQ _ dT);exact zV (vU ((pc+i.A)%4294967296))<|fN rfl (by unfold BF;rw[dZ c,dZ d,aa e])
 refine zV (vB (i.op==3))<|gS rfl id<|ay rfl id rfl<|zN rfl (by simp) ?_;refine cb (i.op=3∨i.op=4) (wP _ _ bv bv) (λh=>?_) (λh=>?_)
 ·skip
  have m:(pc+4)%4294967296<=4294967295:=aI (aQ _ dT);exact zV (vU ((pc+4)%4294967296))<|fN rfl (by unfold BF;rw[dZ c,dZ d,dZ e,aa h])
 exact zC (P3 i.op a (bP i b) j (p5 g f))<|fN rfl (by unfold BF;rw[Av,dZ c,dZ d,dZ e,dZ h])
def Mp{prog}{pc k x}(h:pc=4*k)(a:prog[k]?=some x):ek prog pc=some x:=by
 unfold ek;rw[aa ad,(oT:pc/4=k),a]
def Pk{prog}{pc}(h:∀i,i<prog.length->pc≠4*i):ek prog pc=none:=by
 refine NC ?_;by_cases a:pc%4=0
 ·exact .inr (Nat.le_of_not_lt λb=>h _ b ad)
 exact .inl a
def Di(o:Option Nat):AV:=.E [.v (.int .u32 ((o.getD 0:Nat):Int)),.v (.bool o.isSome)]
def zk(prog)(pc:Nat)(a)(hp:∀x∈prog,x<=4294967295)(m:prog.length<=1000000)(j:pc<=4294967295):bI C0 16 [.X 1 (prog.map dU) a,.v (.int .u32 (pc:Int))] (Di (ek prog pc)):=by
 refine bk func16 rfl ?_;refine zW _ (az (λn:Nat=>bw.ok (.v (.int .i64 (n:Int)))) (aH ..))<|eh (κ:=Nat) (λk=>⟨be [(0,.X 1 (prog.map dU) a),(1,.v (.int .u32 (pc:Int))),(4,.v (.int .u32 0)),(5,.v (.bool false)),(8,.X 1 (prog.map dU) a),(9,.v (.int .i64 ((prog.length:Nat):Int))),(10,.v (.int .i64 (k:Int)))],ap [],5⟩) (λk=>k<=prog.length∧∀i,i<k->pc≠4*i) (λk=>prog.length-k) 0 (λs=>s) (av (λs=>s) wT trivial rfl) (⟨aE _,λi h=>absurd h (dG i)⟩) ?_;intro k f;have c:k<=1000000:=aL f.1 m;refine b7 (am (bz _ _)) (λb=>?_) (λb=>?_)
 ·skip
  obtain⟨x,g⟩:∃x,prog[k]?=some x:=⟨_,aA (bj b)⟩;have o:=hp x (aB g);refine zX (dU x) (.dp 1 0 (dU x)) rfl (by rw[Int.toNat_natCast,aX,g];rfl) ?_;refine zW _ (ar (nJ j rfl))<|rW _ rfl (ar (nJ c rfl)) ?_;refine rW _ rfl (ar (nJ (cJ (aC 4) c) rfl))<|b7 (am (a6 _ _)) (λd=>?_) (λd=>?_)
  ·exact fT rfl (by rw[Mp (sU d) g];rfl)
  skip
  refine zW _ (ar (bH (aD c (aC 1)) rfl)) ?_;refine⟨k+1,λs=>s,av (λs=>s) wT trivial rfl,⟨bj b,λi l=>if e:i=k then e ▸ (sU d)else f.2 i ad⟩,by have:=bj b;show prog.length-(k+1)<prog.length-k;omega⟩
 exact fT rfl (by rw[Pk (λi l=>f.2 i (oH (aF b)))];rfl)
def z'(m)(a n:Nat)(d:a+n<=m.size)(b:a<=4294967295)(c:n<=4):bI C0 28 [.v (.string m),.v (.int .u32 (a:Int)),.v (.int .i64 (n:Int))] (.v (.string (Cv m a n))):=by
 refine bk func28 rfl ?_;exact zW _ (ar (bH b rfl))<|zW _ (ar (bH b rfl))<|rW _ rfl (ar (c4 ad ad))<|zM (.v (.string (Cv m a n))) rfl (⟨aG _,by show(a:Int)<=((a+n:Nat):Int);omega,by show((a+n:Nat):Int)<=((m.size:Nat):Int);omega⟩)<|qY rfl trivial rfl rfl
def Sg{r}(h:∀k,r k<=4294967295){v}(a:v<=4294967295)(n):∀k,io r n v k<=4294967295:=by
 intro k;unfold io;split
 ·exact a
 exact h k
def Ml{m}{a}{b}(h:a+b.size<=m.size):(DD m a b).size=m.size:=by
 show(DD m a b).data.size=m.data.size;have h':a+b.data.size<=m.data.size:=h;simp only[DD,kP,aU,aM,bD,cV];show min a m.data.size+b.data.size+(m.data.size-(a+b.data.size))=m.data.size;omega
def Bb{s:St}(h:s.ok)(b:Int)(a:Nat):(Gc s b a).1.ok:=⟨h.K,h.r,h.mem⟩
def Sh{s}(h:s.ok){i}{a b d}{tk}(g:i.A<=4294967295)(e:a<=4294967295)(f:b<=4294967295)(c:d<=4294967295):(IJ s i a b d tk).1.ok:=by
 unfold IJ;split
 ·exact⟨c,h.r,h.mem⟩
 exact⟨c,Sg h.r (aI (Rp i.op i.A s.K a b (bG g) (bG e) (bG f))) _,h.mem⟩
def Vh{prog}{s}(h:s.ok):(gE prog s).1.ok:=by
 unfold gE;split
 ·split
  ·split
   ·exact Bb h _ _
   have a:(rA prog s).A<=4294967295:=aI (IK (bf prog s.K)).2.2.2.2.2.2;unfold gh;split
   ·exact Bb h _ _
   split
   ·exact Bb h _ _
   split
   ·unfold sN;split
    ·rename_i b;split
     ·exact⟨uT _,h.r,by rw[Ml (by rw[mP];exact (sQ b).1)];exact h.mem⟩
     split
     ·exact⟨uT _,h.r,h.mem⟩
     exact⟨uT _,Sg h.r (MT _ _) _,h.mem⟩
    exact Bb h _ _
   unfold oN;split
   ·split
    ·exact Sh h a (h.r _) (h.r _) (aI (Ed _ _ _ _ _))
    exact Bb h _ _
   exact Sh h a (h.r _) (h.r _) (uT _)
  exact Bb h _ _
 exact h
def Wc{ev:Operand->AV}{h:AH}{s b n v:Nat}{a x:Operand}{pc:Nat}{r:Nat->Nat}{m:ByteArray}{c:Int}(d:ev a=.ptr b (1+n*1))(e:h b=some (.box (ix pc r m c)))(g:ev x=vU v)(f:n<32):
  bc C1 ev h s (.store 28 a x)=.fx True .any (ao h b (some (.box (ix pc (io r n v) m c)))):=P6 (s:=s) d e g f
def js(prog:List Nat)(s:St):Nat->St
 |0=>s
 |k+1=>(gE prog (js prog s k)).1
theorem Si{prog:List Nat}{s:St}(h:s.ok):∀k,(js prog s k).ok
 |0=>h
 |k+1=>Vh (Si h k)
def x4(prog:List Nat)(s:St)(k:Nat):List (St×Sp):=(List.range k).map λi=>gE prog (js prog s i)
def i7(prog:List Nat):Nat->St->Nat
 |0,_=>0
 |n+1,s=>if s.halt=0 then i7 prog n (gE prog s).1+1 else 0
def PL(m:ByteArray):St:=⟨0,λ_=>0,jB m,0⟩
def Jk(m:ByteArray):(PL m).ok:=⟨aE _,λ_=>aE _,by show(jB m).size<=256;rw[wE];exact(RA _)⟩
def BK(s)(b)(a:Nat)(d:s.ok)(c:a<=4294967295):bI C0 17 [pu s,.v (.int .i64 b),.v (.int .u32 (a:Int))] (ja (Gc s b a)):=by
 refine e_ func17 rfl ?_;exact pO rfl rfl<|oR 7 rfl<|rV (.agg [.v (.int .u32 ((s.K:Nat):Int)),.v (.int .u32 ((s.K:Nat):Int)),.v (.int .i64 0),.v (.int .u32 0),.v (.int .u32 (a:Int)),.v (.int .i64 0),.v (.bool false),.v (.int .i64 b),.v (.int .i64 0)]) rfl<|a_ rfl<|a_ rfl<|rE 19<|And.intro (by kernel_rfl)<|dh 0 rfl<|fT rfl rfl
def sR{x:Nat}(h: ¬¬he x=0): ¬dw x=0:=λq=>h (by unfold he;rw[aa q];decide)
def zj(prog)(s)(u)(hp:∀x∈prog,x<=4294967295)(I:prog.length<=1000000)(k:s.ok):bI C0 10 [.X 1 (prog.map dU) u,pu s] (ja (gE prog s)):=by
 refine dJ func10 ?_;have v:=DZ (bf prog s.K) (bG (KE hp s.K));have n:=IK (bf prog s.K);have J:=s8 (bf prog s.K);obtain⟨i,hI⟩:∃i,bm (bf prog s.K)=i:=⟨_,rfl⟩;have c:rA prog s=i:=hI;rw[hI]at v n J;replace n:0<=i.rd∧i.rd<32∧0<=i.m∧i.m<32∧0<=i.x∧i.x<32∧i.A<=4294967295:=⟨n.1,n.2.1,n.2.2.1,n.2.2.2.1,n.2.2.2.2.1,n.2.2.2.2.2.1,aI n.2.2.2.2.2.2⟩;obtain⟨a,hA⟩:∃a,s.r i.m.toNat=a:=⟨_,rfl⟩;obtain⟨b,j⟩:∃b,s.r i.x.toNat=b:=⟨_,rfl⟩;have B:a<=4294967295:=hA ▸ k.r _;have w:b<=4294967295:=j ▸ k.r _;have K:qP i.op i.A s.K a b<=4294967295:=aI (Ed _ _ _ _ _);refine qS 0 rfl<|rV (.v (.bool (s.halt != 0))) rfl ?_;refine fh 0 rfl<|jp (¬s.halt=0) iw (λd=>?_) (λd=>?_)
 ·exact qC 0 rfl<|rV (.agg [.v (.int .u32 0),.v (.int .u32 0),.v (.int .i64 0),.v (.int .u32 0),.v (.int .u32 0),.v (.int .i64 0),.v (.bool false),.v (.int .i64 0),.v (.int .i64 0)]) rfl<|dc 0 rfl<|fT rfl (by unfold gE;rw[dZ d];rfl)
 refine qC 0 rfl<|a1 rfl (zk prog s.K u hp I k.K) ?_;refine fh 0 rfl<|jp (¬(((ek prog s.K).isSome)=true)) (tu Iff.rfl) (λe=>?_) (λe=>?_)
 ·exact qC 0 rfl<|a1 rfl (BK s (1) (0) k dT)<|dc 0 rfl<|fT rfl (by unfold gE;rw[aa (b'.1 d),dZ e];rfl)
 refine qC 0 rfl<|a1 rfl (v)<|qR 0 rfl<|rW (.v (.bool ((he (bf prog s.K)) != 0))) rfl (am (db _ _)) ?_;refine fh 0 rfl<|jp (¬(he (bf prog s.K))=0) iw (λf=>?_) (λf=>?_)
 ·exact qC 0 rfl<|a1 rfl (BK s (2) (0) k dT)<|dc 0 rfl<|fT rfl (by unfold gE;rw[aa (b'.1 d),aa (b'.1 e),aa (er λq=>f (by unfold he;rw[dZ q]))];rfl)
 refine qC 0 rfl<|rV (.v (.bool (i.op==47))) rfl ?_;refine fh 0 rfl<|j6 i.op 47 (λg=>?_) (λg=>?_)
 ·exact qC 0 rfl<|a1 rfl (BK s (6) (0) k dT)<|dc 0 rfl<|fT rfl (by unfold gE;rw[aa (b'.1 d),aa (b'.1 e),dZ (sR f),c];unfold gh;rw[aa g];rfl)
 refine qC 0 rfl<|rV (.v (.bool (i.op==48))) rfl ?_;refine fh 0 rfl<|j6 i.op 48 (λh=>?_) (λh=>?_)
 ·exact qC 0 rfl<|a1 rfl (BK s (7) (0) k dT)<|dc 0 rfl<|fT rfl (by unfold gE;rw[aa (b'.1 d),aa (b'.1 e),dZ (sR f),c];unfold gh;rw[dZ g,aa h];rfl)
 refine qC 0 rfl<|nW (.ptr 0 (1+(i.m).toNat*1)) rfl rfl ad<|rW (.v (.int .u32 (a:Int))) rfl ((xR _ _ _ _ _ ad).trans (by rw[hA]))<|qR 0 rfl<|nW (.ptr 0 (1+(i.x).toNat*1)) rfl rfl ad<|rW (.v (.int .u32 (b:Int))) rfl ((xR _ _ _ _ _ ad).trans (by rw[j])) ?_;refine qR 0 rfl<|a1 rfl (nk i.op)<|fh 0 rfl<|a8<|oR 4 rfl<|rV (.v (.int .u32 ((b8 s.K:Nat):Int))) rfl<|oR 1 rfl<|a1 rfl (ym i)<|rV (.agg [.v (.int .u32 ((s.K:Nat):Int)),.v (.int .u32 ((b8 s.K:Nat):Int)),.v (.int .i64 (wr i)),.v (.int .u32 0),.v (.int .u32 0),.v (.int .i64 0),.v (.bool false),.v (.int .i64 0),.v (.int .i64 0)]) rfl<|e4 57 rfl rfl<|a_ rfl<|rE 59 ?_;refine qX 0 rfl<|a1 rfl (z1 i s.K a b n.2.2.2.2.2.2 k.K B w)<|qR 0 rfl<|rW (.v (.bool ((ak i.op)==3))) rfl (am (a6 _ _)) ?_;refine qR 0 rfl<|ay rfl id (am (a6 _ _))<|bO rfl rfl rfl (by simp) ?_;refine fh 0 rfl<|jp ((ak i.op)=3∨(ak i.op)=4) (wP _ _ bv bv) (λl=>?_) (λl=>?_)
 ·refine qC 0 rfl<|rV (.v (.int .u32 ((gx i a:Nat):Int))) rfl<|qR 0 rfl<|a1 rfl (tr i.op) ?_;refine qR 0 rfl<|rV (.v (.int .i64 (s.mem.size:Int))) rfl<|qR 0 rfl<|a1 rfl (zE s.mem.size (gx i a) (a' i.op) k.mem (Ay i a) (lQ i.op)) ?_;refine fh 0 rfl<|jp (¬((kZ (s.mem.size:Int) (gx i a) ((a' i.op:Nat):Int))=true)) (tu Iff.rfl) (λp=>?_) (λp=>?_)
  ·refine qC 0 rfl<|rW (.v (.bool ((ak i.op)==3))) rfl (am (a6 _ _)) ?_;refine fh 0 rfl<|j6 (ak i.op) 3 (λH=>?_) (λH=>?_)
   ·exact qC 0 rfl<|a1 rfl (BK s (4) ((gx i a)) k (Ay i a))<|dc 0 rfl<|fT rfl (by unfold gE;rw[aa (b'.1 d),aa (b'.1 e),dZ (sR f),c];unfold gh;rw[dZ g,dZ h,aa l,hA,j];unfold sN;rw[dZ p,dZ ad];rfl)
   exact qC 0 rfl<|a1 rfl (BK s (5) ((gx i a)) k (Ay i a))<|dc 0 rfl<|fT rfl (by unfold gE;rw[aa (b'.1 d),aa (b'.1 e),dZ (sR f),c];unfold gh;rw[dZ g,dZ h,aa l,hA,j];unfold sN;rw[dZ p,aa ad];rfl)
  refine qC 0 rfl<|rW (.v (.bool ((ak i.op)==4))) rfl (am (a6 _ _)) ?_;refine fh 0 rfl<|j6 (ak i.op) 4 (λr=>?_) (λr=>?_)
  ·refine qC 0 rfl<|a1 rfl (z3 b (a' i.op) w (lQ i.op)) ?_;have G:=sQ (sU p);refine qR 0 rfl<|a1 rfl (zz s.mem (gx i a) (oF b (a' i.op)) (by rw[mP];exact G.1) k.mem (Ay i a) (by rw[mP];exact lQ i.op)) ?_;refine qR 0 rfl<|a1 rfl (s' _ (by rw[mP];exact lQ i.op))<|fh 0 rfl<|pO rfl rfl ?_;exact oR 2 rfl<|a_ rfl<|a_ rfl<|rE 133<|And.intro (by kernel_rfl)<|dh 0 rfl<|fT rfl (by unfold gE;rw[aa (b'.1 d),aa (b'.1 e),dZ (sR f),c];unfold gh;rw[dZ g,dZ h,aa l,hA,j];unfold sN;rw[aa (b'.1 p),aa r];rw[show(ak i.op==4)=true from pU.2 r];rfl)
  refine j9 0 rfl<|a8<|oR 3 rfl ?_;refine oR 5 rfl<|a1 rfl (z' s.mem (gx i a) (a' i.op) (sQ (sU p)).1 (Ay i a) (lQ i.op))<|a1 rfl (Ac i.op _)<|oR 1 rfl<|rE 108<|qX 0 rfl<|rW (.v (.bool ((ak i.op)==5))) rfl (am (a6 _ _)) ?_;refine fh 0 rfl<|j6 (ak i.op) 5 (λy=>absurd y (oH (oG i.op))) (λy=>?_);refine qC 0 rfl<|rW (.v (.bool ((ak i.op)==2))) rfl (am (a6 _ _)) ?_;refine fh 0 rfl<|j6 (ak i.op) 2 (λz=>absurd z (oH (oG i.op))) (λz=>?_);refine qC 0 rfl<|rV (.v (.bool (decide ((wr i)>0)))) rfl ?_;refine fh 0 rfl<|jp ((wr i)>0) qW (λC=>?_) (λC=>?_)
  ·refine qC 0 rfl<|nW (.ptr 67 (1+(wr i).toNat*1)) rfl rfl ad<|Ow rfl rfl (Wc rfl rfl rfl ad) (trivial) ?_;exact fh 0 rfl<|pO rfl rfl<|oR 2 rfl<|a_ rfl<|a_ rfl<|rE 132<|And.intro (by kernel_rfl)<|dh 0 rfl<|fT rfl (by unfold gE;rw[aa (b'.1 d),aa (b'.1 e),dZ (sR f),c];unfold gh;rw[dZ g,dZ h,aa l,hA,j];unfold sN;rw[aa (b'.1 p),dZ r,dZ ad];rw[show(ak i.op==4)=false from beq_false_of_ne r];rfl)
  exact j9 0 rfl<|pO rfl rfl<|oR 2 rfl<|a_ rfl<|a_ rfl<|rE 123<|And.intro (by kernel_rfl)<|dh 0 rfl<|fT rfl (by unfold gE;rw[aa (b'.1 d),aa (b'.1 e),dZ (sR f),c];unfold gh;rw[dZ g,dZ h,aa l,hA,j];unfold sN;rw[aa (b'.1 p),dZ r,aa ad];rw[show(ak i.op==4)=false from beq_false_of_ne r];rfl)
 refine qC 0 rfl<|rW (.v (.bool ((ak i.op)==5))) rfl (am (a6 _ _)) ?_;refine fh 0 rfl<|j6 (ak i.op) 5 (λm=>?_) (λm=>?_)
 ·refine qC 0 rfl<|a1 rfl (B1 i s.K a b n.2.2.2.2.2.2 k.K B w) ?_;have L:(qP i.op i.A s.K a b)%4<=3:=aI (aQ _ dT);refine qR 0 rfl<|nW (.v (.int .u32 (((qP i.op i.A s.K a b)%4:Nat):Int))) rfl rfl dT<|rW (.v (.bool (((qP i.op i.A s.K a b)%4) != 0))) rfl (am (db _ _)) ?_;refine fh 0 rfl<|jp (¬((qP i.op i.A s.K a b)%4)=0) iw (λt=>?_) (λt=>?_)
  ·exact qC 0 rfl<|a1 rfl (BK s (3) (0) k dT)<|dc 0 rfl<|fT rfl (by unfold gE;rw[aa (b'.1 d),aa (b'.1 e),dZ (sR f),c];unfold gh;rw[dZ g,dZ h,dZ l,hA,j];unfold oN IJ;rw[aa m,dZ t];rfl)
  refine qC 0 rfl<|rW (.v (.bool ((ak i.op)==2))) rfl (am (a6 _ _)) ?_;refine fh 0 rfl<|j6 (ak i.op) 2 (λA=>absurd A (oH (oG i.op))) (λA=>?_);refine qC 0 rfl<|rV (.v (.bool (decide ((wr i)>0)))) rfl ?_;refine fh 0 rfl<|jp ((wr i)>0) qW (λD=>?_) (λD=>?_)
  ·refine qC 0 rfl<|nW (.ptr 67 (1+(wr i).toNat*1)) rfl rfl ad<|Ow rfl rfl (Wc rfl rfl rfl ad) (trivial) ?_;exact fh 0 rfl<|pO rfl rfl<|oR 2 rfl<|a_ rfl<|a_ rfl<|rE 111<|And.intro (by kernel_rfl)<|dh 0 rfl<|fT rfl (by unfold gE;rw[aa (b'.1 d),aa (b'.1 e),dZ (sR f),c];unfold gh;rw[dZ g,dZ h,dZ l,hA,j];unfold oN IJ;rw[aa m,aa (b'.1 t),dZ ad];rfl)
  exact j9 0 rfl<|pO rfl rfl<|oR 2 rfl<|a_ rfl<|a_ rfl<|rE 102<|And.intro (by kernel_rfl)<|dh 0 rfl<|fT rfl (by unfold gE;rw[aa (b'.1 d),aa (b'.1 e),dZ (sR f),c];unfold gh;rw[dZ g,dZ h,dZ l,hA,j];unfold oN IJ;rw[aa m,aa (b'.1 t),aa ad];rfl)
 refine qC 0 rfl<|rW (.v (.bool ((ak i.op)==2))) rfl (am (a6 _ _)) ?_;refine fh 0 rfl<|j6 (ak i.op) 2 (λo=>?_) (λo=>?_)
 ·refine qC 0 rfl<|a1 rfl (Ak i.op a b B w)<|qR 0 rfl<|rV (.v (.bool (decide ((wr i)>0)))) rfl ?_;refine fh 0 rfl<|jp ((wr i)>0) qW (λE=>?_) (λE=>?_)
  ·refine qC 0 rfl<|nW (.ptr 67 (1+(wr i).toNat*1)) rfl rfl ad<|Ow rfl rfl (Wc rfl rfl rfl ad) (trivial) ?_;exact fh 0 rfl<|pO rfl rfl<|oR 2 rfl<|a_ rfl<|a_ rfl<|rE 106<|And.intro (by kernel_rfl)<|dh 0 rfl<|fT rfl (by unfold gE;rw[aa (b'.1 d),aa (b'.1 e),dZ (sR f),c];unfold gh;rw[dZ g,dZ h,dZ l,hA,j];unfold oN IJ;rw[dZ m,dZ ad,aa o];rfl)
  exact j9 0 rfl<|pO rfl rfl<|oR 2 rfl<|a_ rfl<|a_ rfl<|rE 97<|And.intro (by kernel_rfl)<|dh 0 rfl<|fT rfl (by unfold gE;rw[aa (b'.1 d),aa (b'.1 e),dZ (sR f),c];unfold gh;rw[dZ g,dZ h,dZ l,hA,j];unfold oN IJ;rw[dZ m,aa ad,aa o];rfl)
 refine qC 0 rfl<|rV (.v (.bool (decide ((wr i)>0)))) rfl ?_;refine fh 0 rfl<|jp ((wr i)>0) qW (λF=>?_) (λF=>?_)
 ·refine qC 0 rfl<|nW (.ptr 67 (1+(wr i).toNat*1)) rfl rfl ad<|Ow rfl rfl (Wc rfl rfl rfl ad) (trivial) ?_;exact fh 0 rfl<|pO rfl rfl<|oR 2 rfl<|a_ rfl<|a_ rfl<|rE 99<|And.intro (by kernel_rfl)<|dh 0 rfl<|fT rfl (by unfold gE;rw[aa (b'.1 d),aa (b'.1 e),dZ (sR f),c];unfold gh;rw[dZ g,dZ h,dZ l,hA,j];unfold oN IJ;rw[dZ m,dZ ad,dZ o];rfl)
 exact j9 0 rfl<|pO rfl rfl<|oR 2 rfl<|a_ rfl<|a_ rfl<|rE 90<|And.intro (by kernel_rfl)<|dh 0 rfl<|fT rfl (by unfold gE;rw[aa (b'.1 d),aa (b'.1 e),dZ (sR f),c];unfold gh;rw[dZ g,dZ h,dZ l,hA,j];unfold oN IJ;rw[dZ m,aa ad,dZ o];rfl)
def E6{x}(a: -9223372036854775808<=x)(b:x<9223372036854775808):wrap64 x=x:=by unfold wrap64;omega
def u_(q)(k)(agY)(left)(a):yH (Bi q k agY left a)=yH q+if k=4 then 0 else 1:=by
 unfold yH Bi;rw[mL,aU];by_cases h:k=4<;>simp[h]
def E7(q):yH (eH q).1<=yH q:=by
 cases q with
 |nil=>exact aC _
 |cons x r=>
  unfold eH;dsimp only;split
  ·unfold yH;simp[List.filter_cons];by_cases h:x.kind=4<;>simp[h]
  ·unfold yH;simp[List.filter_cons];by_cases h:x.kind=4<;>simp[h]
structure Bd(f:Cf)(a:Nat)(c:Co):Prop where
 U:c.U=f
 Z:(c.Z.length:Int)<=f.Z
 Z6:(c.Q.length:Int)<=f.queue
 Z_:(c.W.length:Int)<=f.W
 rd:(yH c.Y:Int)<=f.o
 ret:c.O.length=a
def pk(c)(agY):((oK c agY).Y=c.Y∧(oK c agY).asked=c.asked)∨∃l d,(oK c agY).Y=Bi c.Y 4 l (lX c.U c.asked) d∧(oK c agY).asked=wrap64 (c.asked+1):=by
 unfold oK;rcases a:iQ c.data c.Y c.mem agY (lX c.U c.asked)with ⟨d,q,b⟩;show(q=c.Y∧(if b=true then wrap64 (c.asked+1)else c.asked)=c.asked)∨∃l d,q=Bi c.Y 4 l _ d∧(if b=true then wrap64 (c.asked+1)else c.asked)=wrap64 _;unfold iQ at a;split at a
 ·cases a;exact .inl a9
 split at a
 ·cases a;exact .inl a9
 split at a
 split at a
 ·cases a;exact .inr ⟨_,_,rfl,rfl⟩
 cases a;exact .inl a9
def D6(c)(agY):yH (oK c agY).Y<=yH c.Y:=by
 rcases pk c agY with ⟨h, -⟩|⟨l,d,h, -⟩
 ·rw[h];exact aC _
 rw[h,u_,aa rfl];exact aC _
def E8(c)(agY):(oK c agY).U=c.U∧(oK c agY).Z=c.Z∧(oK c agY).Q=c.Q∧(oK c agY).W=c.W∧(oK c agY).O=c.O:=by
 rw[<-uY];exact⟨rfl,rfl,rfl,rfl,rfl⟩
theorem Bd.ZJ{f}{a}{c}(h:Bd f a c)(agY):Bd f a (oK c agY):=by
 let⟨h1,h2,h3,h4,bb⟩:=E8 c agY;have:=D6 c agY;exact⟨h1.trans h.U,h2 ▸ h.Z,h3 ▸ h.Z6,h4 ▸ h.Z_,oH h.rd,bb ▸ h.ret⟩
def Ix{c}{b}(h:tA c b=true):(yH c.Y:Int)<c.U.o:=by
 unfold tA at h;split at h
 ·exact bj h
 have:=bj h;omega
theorem Bd.ask{f}{a}{c}(h:Bd f a c){k}{b}(hr:tA c b=true∨k=4)(agY)(d):Bd f a (jE c k agY d):=by
 refine⟨h.U,h.Z,h.Z6,h.Z_,?_,h.ret⟩;show((yH (Bi c.Y k agY _ d):Nat):Int)<=_;rw[u_];have e:=h.rd;rcases hr with hr|hr
 ·have:=Ix hr;rw[h.U]at this;split<;>omega
 rw[aa hr];omega
def v'{f}{a}{c}(h:Bd f a c):Bd f a (lM c):=by
 have b:Bd f a (jJ c):=⟨h.U,h.Z,h.Z6,h.Z_,by have:=E7 c.Y;have:=h.rd;show((yH (eH c.Y).1:Nat):Int)<=_;omega,h.ret⟩;rw[kC];split
 ·unfold ID
  repeat' split
  ·exact⟨b.U,by show((List.map _ _).length:Int)<=_;rw[aH];exact b.Z,b.Z6,b.Z_,b.rd,b.ret⟩
  ·exact⟨b.U,b.Z,b.Z6,b.Z_,b.rd,b.ret⟩
  ·exact b.ZJ _
  ·exact⟨b.U,b.Z,b.Z6,b.Z_,b.rd,b.ret⟩
  exact b
 exact b
def IA(l)(i):(dl l i).length<=l.length:=by
 unfold dl;split
 ·rename_i e a;have:=(Em.1 a).1;rw[aU,aM];simp;omega
 exact aC _
def wa{f}{a}{c}(h:Bd f a c)(b:0<=f.queue):Bd f a (kK c):=by
 have d:=nN c;unfold kK;split
 ·exact h
 split
 ·rename_i i _;exact⟨h.U,by have:=IA (br c) i;have:=h.Z;show((dl _ i).length:Int)<=_;omega,b,h.Z_,h.rd,h.ret⟩
 exact⟨h.U,by have:=h.Z;show((br c).length:Int)<=_;omega,h.Z6,h.Z_,h.rd,h.ret⟩
def v8{f}{a}{c}(h:Bd f a c)(s)(g: ¬(s.store=true∧(c.W.length:Int)>=c.U.W)):Bd f (a+1) (fZ c s):=by
 refine⟨h.U,h.Z,h.Z6,?_,h.rd,by show(c.O++[s]).length=_;rw[aU,h.ret];rfl⟩;show(((match iJ s with|some p=>c.W++[p]|none=>c.W).length:Nat):Int)<=_;split
 ·rename_i p hp;have b:s.store=true:=by
   unfold iJ at hp;split at hp
   ·cases hp
   ·rename_i q;cases e:s.store with
    |true=>rfl
    |false=>exact absurd (.inl e) q
  have d: ¬(c.W.length:Int)>=c.U.W:=λq=>g ⟨b,q⟩;rw[h.U]at d;rw[aU];show((c.W.length+1:Nat):Int)<=_;omega
 ·exact h.Z_
def G1{f}{a}{c}(h:Bd f a c)(e)(b: ¬((cA e).store=true∧(c.W.length:Int)>=c.U.W)):Bd f (a+1) (Bm c e):=by
 have k:=v8 h _ b;exact⟨k.U,by have:=h.Z;show((c.Z.drop 1).length:Int)<=_;rw[bD];omega,k.Z6,k.Z_,k.rd,k.ret⟩
def G2{f}{a}{c}(h:Bd f a c)(e)(b: ¬((cA e).store=true∧(c.W.length:Int)>=c.U.W)):Bd f (a+1) (MP c e):=by
 have k:=(v8 h _ b).ZJ (cA e).V;rw[<-uY]at k;exact⟨k.U,by have:=h.Z;show((c.Z.drop 1).length:Int)<=_;rw[bD];omega,k.Z6,k.Z_,k.rd,k.ret⟩
theorem o5{f:Cf}(d:0<=f.Z∧0<=f.queue):∀(n:Nat) (c:Co) (a:Nat),Bd f a c->∃b,a<=b∧b<=a+n∧Bd f b (eC n c)
 |0,c,a,h=>⟨a,aC _,aC _,h⟩
 | n + 1,c,a,h=>by
  by_cases j:c.halt≠0∨c.Z.length=0
  ·rw[mG j];exact⟨a,aC _,oT,h⟩
  ·have m:c.Z[0]?=some (c.Z[0]'ad):=aA ad;rw[iX ad (λq=>j (.inl q)) m];split
   ·exact⟨a,aC _,oT,h⟩
   ·split
    ·exact⟨a+1,oT,oT,⟨h.U,d.1,d.2,h.Z_,h.rd,by show(c.O++[_]).length=_;rw[aU,h.ret];rfl⟩⟩
    ·split
     ·exact⟨a,aC _,oT,h⟩
     ·rename_i i;rw[kB];by_cases g:ak (c.Z[0]'ad).i.op=3
      ·rw[Ke g];let⟨b,k,l,e⟩:=o5 d n _ _ (G2 h _ i);exact⟨b,oT,oT,e⟩
      ·rw[An g];let⟨b,k,l,e⟩:=o5 d n _ _ (G1 h _ i);exact⟨b,oT,oT,e⟩
theorem Bd.setE{f:Cf}{a:Nat}{c:Co}(h:Bd f a c)(i:Nat)(e:ai):Bd f a (b0 c i e):=⟨h.U,by show((c.Z.set i e).length:Int)<=_;rw[cC];exact h.Z,h.Z6,h.Z_,h.rd,h.ret⟩
def IF{f}{a}{c}(h:Bd f a c)(i):Bd f a (oE c i):=by
 unfold oE
 cases c.Z[i]? with
 |none=>exact h
 |some e=>
  dsimp only
  repeat' split
  all_goals first|exact h|exact h.setE _ _|(rename_i q;exact(h.ask (.inl q.1) _ _).setE _ _)
def HS{f}{a}{c}(h:Bd f a c)(i):Bd f a (iS c i):=by
 unfold iS
 cases c.Z[i]? with
 |none=>exact h
 | some e=>
  dsimp only;split
  ·exact h.setE _ _
  ·split
   ·exact IF (h.setE _ _) i
   ·exact h.setE _ _
theorem vh{f:Cf}{a:Nat}:∀(p:List Nat) (c:Co),Bd f a c->Bd f a (p.foldl iS c)
 |[],_,h=>h
 |i::p,_,h=>vh p _ (HS h i)
def vD{f}{a}{c}(h:Bd f a c):Bd f a (gY c):=by
 unfold gY;split
 ·exact h
 exact vh _ c h
theorem u'{f:Cf}{a:Nat}:∀(n:Nat) (c:Co),Bd f a c->Bd f a (kV n c)
 |0,_,h=>h
 | n+1,c,h=>by
  by_cases b:(c.Z.length:Int)>=c.U.Z∨c.Q.length=0
  ·rw[Ap b];exact h
  ·have g:c.Q[0]?=some (c.Q[0]'ad):=aA ad;have e:=CU (n:=n+1) (k:=0) ad (λq=>b (.inl q)) g;rw[(oT:n+1-(0+1)=n),(oT:n+1-0=n+1)]at e;rw[<-e];have d:=h.U;refine u' n _ ⟨h.U,?_,?_,h.Z_,h.rd,h.ret⟩
   ·show((c.Z++[_]).length:Int)<=_;rw[aU];show((c.Z.length+1:Nat):Int)<=_;rw[d]at b;omega
   ·have:=h.Z6;show((c.Q.drop 1).length:Int)<=_;rw[bD];omega
def v0{f}{a}{c}(h:Bd f a c):Bd f a (lP c):=by
 unfold lP;split
 ·exact h
 exact u' _ c h
theorem uz{f:Cf}{a:Nat}:∀(n:Nat) (c:Co),Bd f a c->Bd f a (eL n c)
 |0,_,h=>h
 | n +1,c,h=>by
  by_cases b:c.stop=true∨(c.Q.length:Int)>=c.U.queue
  ·rw[yZ b];exact h
  ·have g:((c.Q.length+1:Nat):Int)<=f.queue:=by have:=h.U;rw[this]at b;omega
   by_cases d:(ek c.prog c.M).isSome=false
   ·rw[Aq ad b d];exact⟨h.U,h.Z,by show((c.Q++[_]).length:Int)<=_;rw[aU];exact g,h.Z_,h.rd,h.ret⟩
   ·by_cases i:(bK c.C (ab c.M)).2.isSome=false
    ·rw[uD ad b d i];split
     ·rename_i q;exact h.ask (.inl q.2) _ _
     ·exact h
    ·have e:=BC (n:=n+1) (k:=0) ad b d i;rw[(oT:n+1-(0+1)=n),(oT:n+1-0=n+1)]at e;rw[<-e];refine uz n _ ?_;have r:∀w,(dM (lJ c) w).1.U=c.U∧(dM (lJ c) w).1.Z=c.Z∧(dM (lJ c) w).1.Q=c.Q∧(dM (lJ c) w).1.W=c.W∧(dM (lJ c) w).1.Y=c.Y∧(dM (lJ c) w).1.O=c.O:=by
      intro w;unfold dM
      repeat' split
      all_goals exact⟨rfl,rfl,rfl,rfl,rfl,rfl⟩
     let⟨j,k,l,m,o,p⟩:=r (bf c.prog c.M);refine⟨j.trans h.U,?_,?_,?_,?_,?_⟩
     ·show(((dM (lJ c) (bf c.prog c.M)).1.Z.length:Nat):Int)<=_;rw[k];exact h.Z
     ·show((((dM (lJ c) (bf c.prog c.M)).1.Q++[_]).length:Nat):Int)<=_;rw[l,aU];exact g
     ·show(((dM (lJ c) (bf c.prog c.M)).1.W.length:Nat):Int)<=_;rw[m];exact h.Z_
     ·show((yH (dM (lJ c) (bf c.prog c.M)).1.Y:Nat):Int)<=_;rw[o];exact h.rd
     ·show(dM (lJ c) (bf c.prog c.M)).1.O.length=_;rw[p];exact h.ret
def vt{f}{a}{c}(h:Bd f a c):Bd f a (eN c):=by
 unfold eN;split
 ·exact h
 exact uz _ c h
def v1{f}{a}{c}(h:Bd f a c):Bd f a (tY c):=by
 have e:Bd f a (aW c):=by
  refine⟨h.U,h.Z,h.Z6,?_,h.rd,h.ret⟩;have:=h.Z_;show(((sL c.W c.data).1.length:Nat):Int)<=_;unfold sL
  repeat' split
  all_goals first|omega|(rename_i b _;rw[b]at this;simp at this⊢;omega)|(rename_i b;simp[b]at this⊢;omega)|(simp at this⊢;omega)
 have hA:∀{d:Co},Bd f a d->Bd f a (tW d):=λ{d} k=>by
  unfold tW;split
  ·exact k
  split
  ·rename_i q;exact k.ask (.inl q.2) _ _
  exact k
 have g:∀{d:Co},Bd f a d->Bd f a (nP d):=λ{d} k=>by
  unfold nP;split
  ·exact k
  unfold pE;split
  ·split
   ·rename_i w _ _;have q:=k.ask (b:=true) (.inr rfl) w.R w.data;exact⟨q.U,q.Z,q.Z6,q.Z_,q.rd,q.ret⟩
   exact k
  exact k
 rw[mO];split
 ·exact g (hA e)
 exact g e
def IH{f}(d:0<=f.Z∧0<=f.queue){c}{a}(h:Bd f a c):∃b,a<=b∧b<=a+f.k.toNat∧Bd f b (uG c):=by
 unfold uG;split
 ·have k:Bd f a (s0 c):=⟨h.U,h.Z,h.Z6,h.Z_,h.rd,h.ret⟩;have g:=wa (v' k) d.2;let⟨b,i,e,j⟩:=o5 d (kK (lM (s0 c))).U.k.toNat _ a g;rw[g.U]at e;exact⟨b,i,e,v1 (vt (v0 (vD j)))⟩
 exact⟨a,aC _,oT,h⟩
def ft(e):xJ e=true↔((0<=e.is∧e.is<=3)∧(e.is=1->0<e.left)∧(e.is≠1->e.left=0)∧(e.is=2->ak e.i.op=3∧e.known=true)∧(e.halt≠0->e.is=3∨(e.is=1∧ak e.i.op=5∧e.halt=3))∧(Xq e.i=true∨e.halt=1∨e.halt=2)):=by
 unfold xJ;by_cases i:e.is<0∨e.is>3
 ·rw[aa i];exact⟨λh=>(by cases h),λh=>by omega⟩
 rw[dZ i];by_cases f:(e.is=1∧e.left<=0)∨(e.is≠1∧e.left≠0)
 ·rw[aa f];refine⟨λh=>(by cases h),λ⟨_,a,b,_⟩=>?_⟩;rcases f with ⟨x,y⟩|⟨x,y⟩
  ·have:=a x;omega
  ·exact absurd (b x) y
 rw[dZ f];by_cases c:e.is=2∧(ak e.i.op≠3∨e.known=false)
 ·rw[aa c];refine⟨λh=>(by cases h),λ⟨_,_,_,a,_⟩=>?_⟩;have:=a c.1;rcases c.2 with x|x
  ·exact absurd this.1 x
  ·rw[this.2]at x;cases x
 rw[dZ c];by_cases d:e.halt≠0∧e.is≠3∧ ¬(e.is=1∧ak e.i.op=5∧e.halt=3)
 ·rw[aa d];refine⟨λh=>(by cases h),λ⟨_,_,_,_,a,_⟩=>?_⟩;rcases a d.1 with x|x
  ·exact absurd x d.2.1
  ·exact absurd x d.2.2
 rw[dZ d];have k:e.is=2->ak e.i.op=3∧e.known=true:=λx=>by
  refine⟨er λy=>c ⟨x,.inl y⟩,?_⟩
  cases n:e.known with
  |true=>rfl
  |false=>exact absurd ⟨x,.inr n⟩ c
 have l:e.halt≠0->e.is=3∨(e.is=1∧ak e.i.op=5∧e.halt=3):=λx=>er λy=>d ⟨x,λz=>y (.inl z),λz=>y (.inr z)⟩;have j:e.is=1->0<e.left:=λx=>er λy=>f (.inl ⟨x,oT⟩);have m:e.is≠1->e.left=0:=λx=>er λy=>f (.inr ⟨x,y⟩);by_cases g:Xq e.i=true
 ·rw[aa g];exact⟨λ_=>⟨oT,j,m,k,l,.inl g⟩,λ_=>rfl⟩
 ·rw[dZ g];refine⟨λh=>⟨oT,j,m,k,l,.inr (sU h)⟩,λ⟨_,_,_,_,_,a⟩=>?_⟩;rcases a with a|a
  ·exact absurd a g
  ·simpa using a
structure et(M:Int)(e:ai):Prop where
 st:xJ e=true
 kn:e.known=true->ak e.i.op=3∨ak e.i.op=4->kZ M e.V (a' e.i.op)=true
 s4:ak e.i.op=4->e.is=0∨e.is=3
 k4:ak e.i.op=4->e.is=3->e.halt=0->e.known=true
theorem et.go{M}{e}(h:et M e):et M (a0 e):=by
 let⟨h1,h2,h3,h4,b4,bb⟩:=(ft e).1 h.st;unfold a0;by_cases c:e.is≠1
 ·rwa[aa c]
 rw[dZ c];have f:ak e.i.op≠4:=λq=>by rcases h.s4 q with x|x<;>omega
 by_cases d:wrap64 (e.left-1)<=0
 ·rw[aa d];refine⟨(ft _).2 ⟨by simp,λq=>absurd q (by simp),λ_=>rfl,λq=>absurd q (by simp),λ_=>.inl rfl,bb⟩,λa b=>?_,λq=>absurd q f,λq=>absurd q f⟩;refine h.kn ?_ b;have a:(if ak e.i.op=5∧e.halt=0 then true else e.known)=true:=a;have b:ak e.i.op=3∨ak e.i.op=4:=b
  rwa [dZ ad]at a
 rw[dZ d];refine⟨(ft _).2 ⟨h1,λ_=>by show 0<wrap64 _;omega,λq=>absurd (b'.1 c) q,h4,b4,bb⟩,h.kn,h.s4,h.k4⟩
def HK{c}{a b}(d:ak c=2)(g:a<=4294967295)(h:b<=4294967295):0<eu c a b:=by
 have i:42<=c∧c<=45:=by
  unfold ak at d
  (repeat' split at d)<;>omega
 unfold eu;rw[dZ ad];split
 ·decide
 rename_i q;have e:b_ c b<=b_ c a:=oT;have f:=yJ c b ad (λz=>q (.inl z));have:=Kz (b_ c b) (b_ c a) (pT c b ad) (pT c a ad) oT ad;omega
theorem et.start{M}{e}(h:et M e){a b}(l:a<=4294967295)(m:b<=4294967295):et M (rJ e a b):=by
 let⟨h1,h2,h3,h4,b4,bb⟩:=(ft e).1 h.st;unfold rJ;by_cases g:e.is≠0∨ak e.i.op=3∨ak e.i.op=4
 ·rwa[aa g]
 rw[dZ g];have f:e.halt=0:=er λq=>by rcases b4 q with x|x<;>omega
 have c:ak e.i.op≠4:=λq=>g (.inr (.inr q));have d: ¬(ak e.i.op=3∨ak e.i.op=4):=λq=>g (.inr q);by_cases k:ak e.i.op=1
 ·rw[aa k];exact⟨(ft _).2 ⟨by simp,λ_=>by simp,λq=>absurd rfl q,λq=>absurd q (by simp),λq=>absurd f q,bb⟩,λ_ q=>absurd q d,λq=>absurd q c,λq=>absurd q c⟩
 rw[dZ k];by_cases i:ak e.i.op=2
 ·rw[aa i];exact⟨(ft _).2 ⟨by simp,λ_=>by have:=HK i l m;show(0:Int)<((eu e.i.op a b:Nat):Int);omega,λq=>absurd rfl q,λq=>absurd q (by simp),λq=>absurd f q,bb⟩,λ_ q=>absurd q d,λq=>absurd q c,λq=>absurd q c⟩
 rw[dZ i];by_cases j:ak e.i.op=5
 ·rw[aa j];split
  ·exact⟨(ft _).2 ⟨by simp,λ_=>by simp,λq=>absurd rfl q,λq=>absurd q (by simp),λq=>absurd f q,bb⟩,λ_ q=>absurd q d,λq=>absurd q c,λq=>absurd q c⟩
  refine⟨(ft _).2 ⟨by simp,λ_=>by simp,λq=>absurd rfl q,λq=>absurd q (by simp),λ_=>.inr ⟨rfl,j,rfl⟩,?_⟩,λ_ q=>absurd q d,λq=>absurd q c,λq=>absurd q c⟩;rcases bb with x|x|x
  ·exact .inl x
  ·omega
  omega
 rw[dZ j];exact⟨(ft _).2 ⟨by simp,λ_=>by simp,λq=>absurd rfl q,λq=>absurd q (by simp),λq=>absurd f q,bb⟩,λ_ q=>absurd q d,λq=>absurd q c,λq=>absurd q c⟩
theorem et.V{M}{e}(h:et M e)(a):et M (yC e M a):=by
 let⟨h1,h2,h3,h4,bb,b4⟩:=(ft e).1 h.st;unfold yC;by_cases b:(ak e.i.op≠3∧ak e.i.op≠4)∨e.is≠0∨e.known=true
 ·rwa[aa b]
 rw[dZ b];have i:e.is=0:=er λq=>b (.inr (.inl q));have g:e.halt=0:=er λq=>by rcases bb q with x|x<;>omega
 split
 ·rename_i f;exact⟨(ft _).2 ⟨h1,h2,h3,λq=>absurd (show e.is=2 from q) ad,bb,b4⟩,λ_ _=>f,h.s4,λ_ _ _=>rfl⟩
 ·have c:e.known=false:=by cases d:e.known with
   |false=>rfl
   |true=>exact absurd (.inr (.inr d)) b
  refine⟨(ft _).2 ⟨by simp,λq=>absurd q (by simp),λ_=>(h3 ad),λq=>absurd q (by simp),λ_=>.inl rfl,?_⟩,λq=>(by rw[show e.known=true from q]at c;cases c),λ_=>.inr rfl,λ_ _ q=>?_⟩
  ·rcases b4 with x|x|x
   ·exact .inl x
   ·omega
   ·omega
  ·have q:(if ak e.i.op=4 then(5:Int)else 4)=0:=q;split at q<;>omega
theorem et.take{M}{e}(h:et M e)(s):et M (uM e s):=by
 let⟨h1,h2,h3,h4,bb,b4⟩:=(ft e).1 h.st;unfold uM;by_cases a:ak e.i.op≠3∨e.known=false∨(e.is≠0∧e.is≠2)
 ·rwa[aa a]
 rw[dZ a];have c:ak e.i.op=3:=er λq=>a (.inl q);have b:e.halt=0:=er λq=>by rcases bb q with x|x<;>omega
 exact⟨(ft _).2 ⟨by simp,λ_=>by simp,λq=>absurd rfl q,λq=>absurd q (by simp),λq=>absurd b q,b4⟩,h.kn,λq=>absurd (show ak e.i.op=4 from q) ad,λq=>absurd (show ak e.i.op=4 from q) ad⟩
theorem et.store{M}{e}(h:et M e)(b):et M (uF e b):=by
 let⟨h1,h2,h3,h4,b4,bb⟩:=(ft e).1 h.st;unfold uF;by_cases a:ak e.i.op≠4∨e.known=false∨e.is≠0
 ·rwa[aa a]
 rw[dZ a];have f:e.is=0:=er λq=>a (.inr (.inr q))
 have c:e.known=true:=by cases d:e.known with
  |true=>rfl
  |false=>exact absurd (.inr (.inl d)) a
 exact⟨(ft _).2 ⟨by simp,λq=>absurd q (by simp),λ_=>h3 ad,λq=>absurd q (by simp),λ_=>.inl rfl,bb⟩,h.kn,λ_=>.inr rfl,λ_ _ _=>c⟩
theorem et.fill{M}{e}(h:et M e)(c)(agY):et M (wO c agY e):=by
 unfold wO;split
 ·exact et.take (e:={e with Z4:=true}) ⟨h.st,h.kn,h.s4,h.k4⟩ _
 exact h
theorem et.wait{M}{e}(h:et M e)(a:ak e.i.op=3)(c:e.known=true)(d:e.is=0∨e.is=2):et M {e with is:=2}:=by
 let⟨h1,h2,cs,h4,bb,b4⟩:=(ft e).1 h.st;have b:e.halt=0:=er λq=>by rcases bb q with x|x<;>omega
 exact⟨(ft _).2 ⟨by simp,λq=>absurd q (by simp),λ_=>cs ad,λ_=>⟨a,c⟩,λq=>absurd b q,b4⟩,h.kn,λq=>absurd (show ak e.i.op=4 from q) ad,λq=>absurd (show ak e.i.op=4 from q) ad⟩
def J2(e):(a0 e).no=e.no:=by unfold a0;(repeat' split)<;>rfl
def HN(e)(a b):(rJ e a b).no=e.no:=by unfold rJ;(repeat' split)<;>rfl
def vz(e)(M)(a):(yC e M a).no=e.no:=by unfold yC;(repeat' split)<;>rfl
def qs(e)(s):(uM e s).no=e.no:=by unfold uM;split<;>rfl
def HO(e)(b):(uF e b).no=e.no:=by unfold uF;split<;>rfl
def HR(c)(agY)(e):(wO c agY e).no=e.no:=by
 unfold wO;split
 ·rw[qs]
 rfl
structure ec(M nx:Int)(l:List ai):Prop where
 ev:∀e∈l,et M e∧e.no<nx
 up:(l.map (·.no)).Pairwise (· < ·)
theorem ec.nil{M a}:ec M a []:=⟨λ_ h=>(List.not_mem_nil h).elim,.nil⟩
theorem ec.map{M c}{l}(h:ec M c l){f}(g:∀e,et M e->et M (f e))(a:∀e,(f e).no=e.no):ec M c (l.map f):=by
 refine⟨λe d=>?_,?_⟩
 ·obtain⟨x,b,rfl⟩:=pG.1 d;exact⟨g x (h.ev x b).1,by rw[a];exact(h.ev x b).2⟩
 rw[List.map_map,show((λe:ai=>e.no)∘f)=λe=>e.no from funext a];exact h.up
theorem ec.set{M d}{l}(h:ec M d l){i}{x e}(a:l[i]?=some x)(f:et M e)(c:e.no=x.no):ec M d (l.set i e):=by
 refine⟨λy g=>?_,?_⟩
 ·rcases List.mem_or_eq_of_mem_set g with q|rfl
  ·exact h.ev y q
  exact⟨f,by rw[c];exact(h.ev x (aB a)).2⟩
 rw[List.map_set,c,show(l.map _).set i x.no=l.map (·.no)from ?_]
 ·exact h.up
 refine dD λj=>?_;by_cases b:i=j
 ·subst b;rw[aZ (by rw[aH];exact ((Em.1 a).1)),aX,a];rfl
 rw[kX b]
theorem ec.sub{M b}{l k}(h:ec M b l)(a:k.Sublist l):ec M b k:=
 ⟨λe c=>h.ev e (a.mem c),h.up.sublist (a.map _)⟩
theorem ec.cut{M c}{l}(h:ec M c l)(i):ec M c (dl l i):=by
 unfold dl;split
 ·rename_i e b;have d:(l.take i++[{e with N:=e.next}])=(l.set i {e with N:=e.next}).take (i+1):=by
   rw[bW,aZ ((Em.1 b).1),List.take_set_of_le (aC _)];rfl
  rw[d];have a:=(h.ev e (aB b)).1;exact(h.set b (e:={e with N:=e.next}) ⟨a.st,a.kn,a.s4,a.k4⟩ rfl).sub (List.take_sublist _ _)
 exact h
theorem ec.push{M d}{l}(h:ec M d l){e}(i:et M e)(j:e.no=d):ec M (d+1) (l++[e]):=by
 refine⟨λy c=>?_,?_⟩
 ·rcases cx.1 c with q|q
  ·have:=h.ev y q;exact⟨this.1,oT⟩
  rw[uJ.1 q];exact⟨i,oT⟩
 rw[dH,List.pairwise_append];refine⟨h.up,List.pairwise_singleton _ _,λa g b f=>?_⟩;obtain⟨y,c,rfl⟩:=pG.1 g;have:=(h.ev y c).2;have f:b=e.no:=sU f;omega
theorem ec.right{M d}{l}(h:ec M d l)(c:l.length<=8):Ff l=true:=by
 unfold Ff;rw[aP,rC];refine⟨jP c,λi f=>?_⟩;unfold IB;split
 ·rename_i e a;rw[aP];refine⟨?_,(h.ev e (aB a)).1.st⟩
  cases i with
  |zero=>rfl
  |succ i=>
   have g:=(Em.1 a).1;have:=List.pairwise_iff_getElem.1 h.up i _ (by rw[aH];omega) (by rw[aH];omega) ad;rw[List.getElem_map,List.getElem_map]at this;have b:l[i+1]=e:=(Em.1 a).2;rw[b]at this;unfold p6;rw[(oT:i+1-1=i),aA ad];simp[this]
 ·rfl
theorem ec.W{M a:Int}{r:Nat->Nat}{l:List ai}(h:ec M a l):∀k,ec M a (bt r l k)
 |0=>h
 | k+1=>by
  have ih:=ec.W (r:=r) h k;show ec M a (e6 r (bt r l k) k);unfold e6;split
  ·rename_i e b;split
   ·split
    ·exact ih.set b ((ih.ev e (aB b)).1.store _) (HO _ _)
    ·exact ih
   ·exact ih
  ·exact ih
def m3(c:Ca)(k:Nat)(s:List Wy):(rK c k s).L.length=c.L.length∧(rK c k s).ways=c.ways:=⟨cC,rfl⟩
def ux(c)(agY):(tO c agY).L.length=c.L.length∧(tO c agY).ways=c.ways:=by
 unfold tO;split
 ·exact m3 _ _ _
 exact⟨rfl,rfl⟩
def vf(c)(agY)(d)(b):(qZ c agY d b).1.L.length=c.L.length∧(qZ c agY d b).1.ways=c.ways:=by
 unfold qZ;split
 ·split
  ·exact m3 _ _ _
  split<;>exact m3 _ _ _
 exact⟨rfl,rfl⟩
def D2(c)(a)(b):(xL c a b).1.L.length=c.L.length∧(xL c a b).1.ways=c.ways:=by
 unfold xL;split
 ·split
  ·split
   ·exact⟨rfl,rfl⟩
   exact m3 _ _ _
  exact⟨rfl,rfl⟩
 exact⟨rfl,rfl⟩
def D3(c)(agY):(wB c agY).L.length=c.L.length∧(wB c agY).ways=c.ways:=by
 unfold wB;split
 ·exact m3 _ _ _
 exact⟨rfl,rfl⟩
def D4(c)(agY):(oK c agY).data.L.length=c.data.L.length∧(oK c agY).data.ways=c.data.ways:=by
 have hp:=vf c.data (ab agY) (Ga (jZ c.Y c.mem) (ab agY)) false;unfold oK;rcases a:iQ c.data c.Y c.mem agY (lX c.U c.asked)with ⟨d,q,b⟩;show d.L.length=_∧d.ways=_;unfold iQ at a;split at a
 ·cases a;exact⟨rfl,rfl⟩
 split at a
 ·cases a;exact ux _ _
 split at a
 rename_i e;rw[e]at hp;split at a<;>(cases a;exact hp)
structure ce(q:Int)(c:Co):Prop where
 ro:ec c.mem.size c.next c.Z
 lo:0<=c.next
 nx:c.next<=q
 da:(c.data.L.length:Int)=c.U.L∧c.data.ways=c.U.ways
 wo:(c.C.L.length:Int)=c.U.L∧c.C.ways=c.U.ways
 sp:∀p∈c.W,kZ c.mem.size p.V p.data.size=true
 pg:c.prog.length<=64
def j0(c)(agY):(oK c agY).mem=c.mem∧(oK c agY).next=c.next∧(oK c agY).Z=c.Z∧(oK c agY).U=c.U∧(oK c agY).C=c.C∧(oK c agY).W=c.W∧(oK c agY).prog=c.prog:=by
 rw[<-uY];exact⟨rfl,rfl,rfl,rfl,rfl,rfl,rfl⟩
theorem ce.ZJ{q}{c}(h:ce q c)(agY):ce q (oK c agY):=by
 let⟨h1,h2,h3,h4,bb,b4,cs⟩:=j0 c agY;have a:=D4 c agY;exact⟨by rw[h1,h2,h3];exact h.ro,by rw[h2];exact h.lo,by rw[h2];exact h.nx,by rw[a.1,a.2,h4];exact h.da,by rw[bb,h4];exact h.wo,by rw[b4,h1];exact h.sp,by rw[cs];exact h.pg⟩
theorem ce.Z{q}{c d}(h:ce q c)(k:ec c.mem.size c.next d.Z)(b:d.mem=c.mem)(a:d.next=c.next)(f:d.data=c.data)(g:d.C=c.C)(e:d.U=c.U)(i:d.W=c.W)(j:d.prog=c.prog):ce q d:=
 ⟨by rw[b,a];exact k,by rw[a];exact h.lo,by rw[a];exact h.nx,by rw[f,e];exact h.da,by rw[g,e];exact h.wo,by rw[i,b];exact h.sp,by rw[j];exact h.pg⟩
def v9{q}{c}(h:ce q c):ce q (lM c):=by
 have a:ce q (jJ c):=⟨h.ro,h.lo,h.nx,h.da,h.wo,h.sp,h.pg⟩;rw[kC];split
 ·unfold ID
  repeat' split
  ·exact a.Z (a.ro.map (λe b=>b.fill _ _) (λe=>HR _ _ e)) rfl rfl rfl rfl rfl rfl rfl
  ·have:=vf (jJ c).C (eH c.Y).2.1.R oZ false;exact⟨a.ro,a.lo,a.nx,a.da,by show((qZ _ _ _ _).1.L.length:Int)=_∧(qZ _ _ _ _).1.ways=_;rw[this.1,this.2];exact a.wo,a.sp,a.pg⟩
  ·exact a.ZJ _
  ·have e:(rP (jJ c).mem [⟨(eH c.Y).2.1.R,(eH c.Y).2.1.data⟩]).size=(jJ c).mem.size:=iY ..;exact⟨by show ec _ _ _;rw[e];exact a.ro,a.lo,a.nx,a.da,a.wo,by show ∀p∈_,kZ _ _ _=true;rw[e];exact a.sp,a.pg⟩
  exact a
 exact a
def v_{q}{c}(h:ce q c):ce q (kK c):=by
 have a:ec c.mem.size c.next (br c):=ec.W (h.ro.map (λe b=>b.go) J2) _;unfold kK;split
 ·exact h
 split
 ·rename_i i _;exact h.Z (a.cut i) rfl rfl rfl rfl rfl rfl rfl
 exact h.Z a rfl rfl rfl rfl rfl rfl rfl
def F9(x n)(h:n=1∨n=2∨n=4):(oF x n).size=n:=by
 rcases h with rfl|rfl|rfl<;>rfl
def v7{q}{c}(h:ce q c){e}(m:e∈c.Z)(l:e.is=3):ce q (fZ c (cA e)):=by
 refine⟨h.ro,h.lo,h.nx,h.da,h.wo,?_,h.pg⟩;show ∀p∈(match iJ (cA e)with|some p=>c.W++[p]|none=>c.W),_;split
 ·rename_i p hp;intro y o;rcases cx.1 o with r|r
  ·exact h.sp y r
  ·rw [uJ.1 r];have f:=(h.ro.ev e m).1;unfold iJ at hp;split at hp
   ·cases hp
   ·rename_i d;have a:(cA e).store=true:=by
     cases g:(cA e).store with
     |true=>rfl
     |false=>exact absurd (.inl g) d
    have b:e.halt=0∧ak e.i.op=4:=by
     unfold cA at a;by_cases i:e.halt≠0
     ·rw[aa i]at a;exact absurd (show false=true from a) (by simp)
     ·by_cases k:ak e.i.op=4
      ·exact⟨b'.1 i,k⟩
      ·rw[dZ i,dZ k]at a
       repeat' split at a
       all_goals exact absurd (show false=true from a) (by simp)
    have n:cA e=⟨e.K,b8 e.K,wr e.i,e.value,e.V,(a' e.i.op:Nat),true,0,0⟩:=by
     unfold cA;rw[dZ (λz=>z b.1),aa b.2]
    rw[n]at hp d;injection hp with hp;have j:a' e.i.op=1∨a' e.i.op=2∨a' e.i.op=4:=by
     have d: ¬(((a' e.i.op:Nat):Int)≠1∧((a' e.i.op:Nat):Int)≠2∧((a' e.i.op:Nat):Int)≠4):=λz=>d (.inr (.inr z));omega
    have g:p.data.size=a' e.i.op:=by rw[<-hp];exact F9 _ _ j
    rw[show p.V=e.V by rw[<-hp],g];exact (f.kn (f.k4 b.2 l b.1) (.inr b.2))
 ·exact h.sp
def F_{q}{c}(h:ce q c){e}(b:e∈c.Z)(a:e.is=3):ce q (Bm c e):=by
 have k:=v7 h b a;exact⟨k.ro.sub (List.drop_sublist _ _),k.lo,k.nx,k.da,k.wo,k.sp,k.pg⟩
def F'{q}{c}(h:ce q c){e}(b:e∈c.Z)(a:e.is=3):ce q (MP c e):=by
 have k:=(v7 h b a).ZJ (cA e).V;rw[<-uY]at k;exact⟨ec.sub k.ro (List.drop_sublist _ _),k.lo,k.nx,k.da,k.wo,k.sp,k.pg⟩
theorem o4{q:Int}:∀(n:Nat) (c:Co),ce q c->ce q (eC n c)
 |0,_,h=>h
 | n +1,c,h=>by
  by_cases f:c.halt≠0∨c.Z.length=0
  ·rw[mG f];exact h
  ·have e:c.Z[0]?=some (c.Z[0]'ad):=aA ad;have d:=aB e;rw[iX ad (λr=>f (.inl r)) e];split
   ·exact h
   ·rename_i a;have a:=b'.1 a;split
    ·exact⟨ec.nil,h.lo,h.nx,h.da,h.wo,h.sp,h.pg⟩
    ·split
     ·exact h
     ·rw[kB];by_cases b:ak (c.Z[0]'ad).i.op=3
      ·rw[Ke b];exact o4 n _ (F' h d a)
      ·rw[An b];exact o4 n _ (F_ h d a)
theorem ce.setE{q:Int}{c:Co}(h:ce q c){i:Nat}{x e:ai}(d:c.Z[i]?=some x)(a:et c.mem.size e)(b:e.no=x.no):ce q (b0 c i e):=h.Z (h.ro.set d a b) rfl rfl rfl rfl rfl rfl rfl
def If(e)(M)(a)(c:e.is=0):(yC e M a).known=true->(yC e M a).is=0∨e.known=false∧(yC e M a).is=0:=by
 intro b;unfold yC at b⊢;split
 ·exact .inl c
 rename_i d;rw[dZ d]at b;split
 ·exact .inl c
 rename_i f;rw[dZ f]at b;exact absurd (show e.known=true from b) (λz=>d (.inr (.inr z)))
def In{q}{c}(h:ce q c){i}{x}(a:c.Z[i]?=some x)(e:ak x.i.op=3)(j:x.known=true->x.is=0):ce q (oE c i):=by
 have b:=(h.ro.ev x (aB a)).1;unfold oE;rw[a];dsimp only;split
 ·exact h
 ·rename_i f
  have d:x.known=true:=by cases k:x.known with
   |true=>rfl
   |false=>exact absurd k f
  have g:=b.wait e d (.inl (j d))
  repeat' split
  ·exact h.setE a (b.take _) (qs _ _)
  ·exact h
  ·exact h.setE a (b.take _) (qs _ _)
  ·exact h.setE a g rfl
  ·exact ce.setE (c:=jE c 1 _ oZ) ⟨h.ro,h.lo,h.nx,h.da,h.wo,h.sp,h.pg⟩ a g rfl
  ·exact h
def HV{l:List ai}{i:Nat}{x e:ai}(a:l[i]?=some x):(l.set i e)[i]?=some e:=aZ (Em.1 a).1
def HF{q}{c}{n}(f:c.I n)(h:ce q c){i}(g:∀e,c.Z[i]?=some e->e.is=0):ce q (iS c i):=by
 have d:=Cj f.ok.Z8 f.ok.r i;unfold iS
 cases a:c.Z[i]? with
 |none=>exact h
 | some e=>
  have b:=(h.ro.ev e (aB a)).1;dsimp only;split
  ·exact h.setE a (b.V _) (vz _ _ _)
  ·split
   ·rename_i k;have j:ak (yC e c.mem.size (mI c.Z c.r i).1).i.op=3:=by
     unfold yC
     (repeat' split)<;>exact k
    exact In (h.setE a (b.V _) (vz _ _ _)) (HV a) j (λz=>(If e _ _ (g e a) z).elim id (·.2))
   ·exact h.setE a (b.start d.1 d.2) (HN _ _ _)
def pt{l:List ai}{i j:Nat}{e:ai}(h:i≠j):(l.set i e)[j]?=l[j]? :=kX h
def E5(c){i j}(h:i≠j):(oE c i).Z[j]?=c.Z[j]? :=by
 unfold oE;split
 ·rfl
 (try dsimp only)
 repeat' split
 all_goals first|rfl|exact pt h
def D5(c){i j}(h:i≠j):(iS c i).Z[j]?=c.Z[j]? :=by
 unfold iS;split
 ·rfl
 (try dsimp only)
 split
 ·exact pt h
 split
 ·rw[E5 _ h];exact pt h
 exact pt h
theorem vg{q:Int}:∀(p:List Nat) (c:Co) (n:Nat),c.I n->n+p.length<=890000->ce q c->p.Pairwise (· < ·)->(∀i∈p,∀e,c.Z[i]?=some e->e.is=0)->ce q (p.foldl iS c)
 |[],_,_,_,_,h,_,_=>h
 |i::p,c,n,f,l,h,hp,b=>by
  have m:(i::p).length=p.length+1:=rfl;rw[m]at l;let⟨g,k⟩:=List.pairwise_cons.1 hp;refine vg p _ (n+1) (yY f ad i).1 ad (HF f h (b i (b9 ..))) k (λj d e a=>?_);have:=g j d;rw[D5 c ad]at a;exact b j (bY _ d) e a
theorem u7{agN:Int}{busy:Bool}{kinds:List Int}{can:List Bool}:∀k,(∀i∈(kA agN busy kinds can k).out,i<k∧can.getD i false=true)∧(kA agN busy kinds can k).out.Pairwise (· < ·)
 |0=>⟨λi d=>(List.not_mem_nil d).elim,.nil⟩
 | k + 1=>by
  have ih:=u7 (agN:=agN) (busy:=busy) (kinds:=kinds) (can:=can) k;have c:(∀i∈(kA agN busy kinds can k).out,i<k+1∧can.getD i false=true)∧(kA agN busy kinds can k).out.Pairwise (· < ·):=⟨λi d=>⟨oH ((ih.1 i d).1),(ih.1 i d).2⟩,ih.2⟩;show(∀i∈(IW agN kinds (kA agN busy kinds can k) k (can.getD k false)).out,_)∧(IW agN kinds (kA agN busy kinds can k) k (can.getD k false)).out.Pairwise _;unfold IW;split
  ·exact c
  ·split
   ·exact c
   ·rename_i h;split
    ·exact c
    ·refine⟨λi d=>?_,?_⟩
     ·rcases cx.1 d with r|r
      ·exact c.1 i r
      ·rw[uJ.1 r]
       exact⟨oT,by cases g:can.getD k false with
        |true=>rfl
        |false=>exact absurd g h⟩
     ·show((kA agN busy kinds can k).out++[k]).Pairwise _;rw[List.pairwise_append];refine⟨ih.2,List.pairwise_singleton _ _,λa e b f=>?_⟩;rw[uJ.1 f];exact(ih.1 a e).1
def HW{c}{i}{e}(h:DN c i=true)(a:c.Z[i]?=some e):e.is=0:=by
 unfold DN at h;rw[a]at h;dsimp only at h;split at h
 ·cases h
 rename_i q;exact b'.1 q
def GX{q}{c}{n}(g:c.I n)(k:n+2<=890000)(h:ce q c):ce q (gY c):=by
 by_cases f:c.halt≠0
 ·rw[show gY c=c from aa f];exact h
 have m:=pD g.cf;have l:=VH (agN:=c.U.k) (busy:=c.Z.any IE) (kinds:=Fi c) (can:=Kv c) ad (Kv c).length;have d:=u7 (agN:=c.U.k) (busy:=c.Z.any IE) (kinds:=Fi c) (can:=Kv c) (Kv c).length;rw[show gY c=(kA c.U.k _ _ _ (Kv c).length).out.foldl iS c from dZ f];refine vg _ c n g ad h d.2 (λi j e b=>?_);have a:=(d.1 i j).2;refine HW ?_ b;unfold Kv at a;rw[aR,aX,eZ ((Em.1 b).1)]at a;exact a
def HH{M}(c){f}{prog}(hp:∀x∈prog,x<=4294967295):et M (qB c f prog)∧(qB c f prog).no=c:=by
 have a: ¬ak 0=4:=dT;unfold qB;split
 ·exact⟨⟨(ft _).2 ⟨by simp,λq=>absurd q (by simp),λ_=>rfl,λq=>absurd q (by simp),λ_=>.inl rfl,.inr (.inl rfl)⟩,λq=>absurd (show false=true from q) (by simp),λq=>absurd (show ak 0=4 from q) a,λq=>absurd (show ak 0=4 from q) a⟩,rfl⟩
 split
 ·exact⟨⟨(ft _).2 ⟨by simp,λq=>absurd q (by simp),λ_=>rfl,λq=>absurd q (by simp),λ_=>.inl rfl,.inr (.inr rfl)⟩,λq=>absurd (show false=true from q) (by simp),λq=>absurd (show ak 0=4 from q) a,λq=>absurd (show ak 0=4 from q) a⟩,rfl⟩
 rename_i d;have b:Xq (bm (bf prog f.K))=true:=(MZ _).2 (H0 _ d (CI (LN hp f.K)));split
 ·exact⟨⟨(ft _).2 ⟨by simp,λq=>absurd q (by simp),λ_=>rfl,λq=>absurd q (by simp),λ_=>.inl rfl,.inl b⟩,λq=>absurd (show false=true from q) (by simp),λ_=>.inr rfl,λ_ _ q=>absurd (show(6:Int)=0 from q) (by simp)⟩,rfl⟩
 split
 ·exact⟨⟨(ft _).2 ⟨by simp,λq=>absurd q (by simp),λ_=>rfl,λq=>absurd q (by simp),λ_=>.inl rfl,.inl b⟩,λq=>absurd (show false=true from q) (by simp),λ_=>.inr rfl,λ_ _ q=>absurd (show(7:Int)=0 from q) (by simp)⟩,rfl⟩
 exact⟨⟨(ft _).2 ⟨(show(0:Int)<=0∧(0:Int)<=3 from⟨by simp,by simp⟩),λq=>absurd (show(0:Int)=1 from q) (by simp),λ_=>rfl,λq=>absurd (show(0:Int)=2 from q) (by simp),λq=>absurd rfl q,.inl b⟩,λq=>absurd (show false=true from q) (by simp),λ_=>.inl rfl,λ_ q=>absurd (show(0:Int)=3 from q) (by simp)⟩,rfl⟩
theorem u9:∀(n:Nat) (q:Int) (c:Co),(∀x∈c.prog,x<=4294967295)->q+n<=9000000->ce q c->ce (q+n) (kV n c)
 |0,q,c,_,_,h=>by rw[(oT:q+((0:Nat):Int)=q)];exact h
 | n+1,q,c,hp,g,h=>by
  by_cases b:(c.Z.length:Int)>=c.U.Z∨c.Q.length=0
  ·rw[Ap b];exact⟨h.ro,h.lo,oH h.nx,h.da,h.wo,h.sp,h.pg⟩
  ·have f:c.Q[0]?=some (c.Q[0]'ad):=aA ad;have e:=CU (n:=n+1) (k:=0) ad (λr=>b (.inl r)) f;rw[(oT:n+1-(0+1)=n),(oT:n+1-0=n+1)]at e;rw[<-e,(oT:q+((n+1:Nat):Int)=(q+1)+(n:Nat))];have a:wrap64 (c.next+1)=c.next+1:=E6 (oH h.lo) (oH h.nx);have d:=HH (M:=c.mem.size) c.next (f:=c.Q[0]'ad) hp;refine u9 n (q+1) _ hp ad ⟨?_,?_,?_,h.da,h.wo,h.sp,h.pg⟩
   ·show ec c.mem.size (wrap64 (c.next+1)) (c.Z++[_]);rw[a];exact h.ro.push d.1 d.2
   ·show 0<=wrap64 (c.next+1);rw[a];have:=h.lo;omega
   ·show wrap64 (c.next+1)<=_;rw[a];have:=h.nx;omega
theorem uy{q:Int}:∀(n:Nat) (c:Co),ce q c->ce q (eL n c)
 |0,_,h=>h
 | n +1,c,h=>by
  by_cases b:c.stop=true∨(c.Q.length:Int)>=c.U.queue
  ·rw[yZ b];exact h
  ·by_cases d:(ek c.prog c.M).isSome=false
   ·rw[Aq ad b d];exact⟨h.ro,h.lo,h.nx,h.da,h.wo,h.sp,h.pg⟩
   ·by_cases g:(bK c.C (ab c.M)).2.isSome=false
    ·rw[uD ad b d g];split
     ·exact⟨h.ro,h.lo,h.nx,h.da,h.wo,h.sp,h.pg⟩
     ·exact h
    ·have e:=BC (n:=n+1) (k:=0) ad b d g;rw[(oT:n+1-(0+1)=n),(oT:n+1-0=n+1)]at e;rw[<-e];refine uy n _ ?_;have f:=ux c.C (ab c.M);have a:ce q (lJ c):=⟨h.ro,h.lo,h.nx,h.da,by show((tO _ _).L.length:Int)=_∧(tO _ _).ways=_;rw[f.1,f.2];exact h.wo,h.sp,h.pg⟩;have i:∀w,ce q (dM (lJ c) w).1:=by
      intro w;unfold dM
      repeat' split
      all_goals exact⟨a.ro,a.lo,a.nx,a.da,a.wo,a.sp,a.pg⟩
     have k:=i (bf c.prog c.M);exact⟨k.ro,k.lo,k.nx,k.da,k.wo,k.sp,k.pg⟩
def G0{q}{c}(h:ce q c):ce q (tY c):=by
 have a:ce q (aW c):=by
  refine⟨h.ro,h.lo,h.nx,?_,h.wo,?_,h.pg⟩
  ·show((sL c.W c.data).2.1.L.length:Int)=_∧(sL c.W c.data).2.1.ways=_;unfold sL;split
   ·exact h.da
   rename_i p l _;have:=D2 c.data p.V p.data;split
   ·rw[this.1,this.2];exact h.da
   exact h.da
  show ∀p∈(sL c.W c.data).1,_;unfold sL;split
  ·exact h.sp
  rename_i p l e;split
  ·exact λy f=>h.sp y (by rw[e];exact bY _ f)
  exact h.sp
 have hA:∀{d:Co},ce q d->ce q (tW d):=λ{d} k=>by
  unfold tW;split
  ·exact k
  split
  ·exact⟨k.ro,k.lo,k.nx,k.da,k.wo,k.sp,k.pg⟩
  exact k
 have b:∀{d:Co},ce q d->ce q (nP d):=λ{d} k=>by
  unfold nP;split
  ·exact k
  unfold pE;split
  ·split
   ·rename_i w _ _;have:=D3 d.data w.R;exact⟨k.ro,k.lo,k.nx,by show((wB _ _).L.length:Int)=_∧(wB _ _).ways=_;rw[this.1,this.2];exact k.da,k.wo,k.sp,k.pg⟩
   exact k
  exact k
 rw[mO];split
 ·exact b (hA a)
 exact b a
def lT(n lo a)(h:0<=lo∧lo<=a):0<=bV n lo a:=by unfold bV;(repeat' split)<;>omega
def I4(c:Cf)(prog:List Nat)(m:ByteArray):Bd (bZ c) 0 (fX c prog m):=
 ⟨rfl,lT _ 2 8 dT,lT _ 1 4 dT,lT _ 1 4 dT,lT _ 2 6 dT,rfl⟩
def G3(c:Cf):0<=(bZ c).Z∧0<=(bZ c).queue:=⟨lT _ 2 8 dT,lT _ 1 4 dT⟩
def J3{f}(d:0<=f.Z∧0<=f.queue){c}(h:Bd f c.O.length c):Bd f (uG c).O.length (uG c)∧c.O.length<=(uG c).O.length∧(uG c).O.length<=c.O.length+f.k.toNat:=by
 let⟨b,e,g,a⟩:=IH d h;have:=a.ret;subst this;exact⟨a,e,g⟩
theorem ce.mono{q r}{c}(h:ce q c)(a:q<=r):ce r c:=⟨h.ro,h.lo,oH h.nx,h.da,h.wo,h.sp,h.pg⟩
def H'{q}{c}{n}(i:c.I n)(g:n+20<=890000)(j:q+2<=9000000)(h:ce q c):ce (q+2) (ed c):=by
 have a:=Ql i g;have e:ce q (s3 c):=o4 _ _ (v_ (v9 (⟨h.ro,h.lo,h.nx,h.da,h.wo,h.sp,h.pg⟩)));have b:ce q (dj c):=GX a.k3 ad e;have d:ce (q+2) (ea c):=by
  show ce (q+2) (lP (dj c));have k:=pD a.k4.cf;unfold lP;split
  ·exact b.mono ad
  exact(u9 _ q _ a.k4.ok.Z5 ad b).mono ad
 have f:ce (q+2) (cq c):=by
  show ce (q+2) (eN (ea c));unfold eN;split
  ·exact d
  exact uy _ _ d
 exact G0 f
def uw{x}(h:∃n,x.size=hF n):jB x=x:=by
 let⟨n,a⟩:=h;have b:x.size=16∨x.size=32∨x.size=64∨x.size=128∨x.size=256:=by rw[a];unfold hF;(repeat' split)<;>omega
 unfold jB;rw[(oT:min x.size 256=x.size),show hF x.size-x.size=0 by rcases b with e|e|e|e|e<;>rw[e]<;>rfl,List.replicate_zero,dY,show x.extract 0 x.size=x by simp]
 try (cases x;simp)
def F7{f}{a n}{q}{c}(b:c.I n)(d:Bd f a c)(h:ce q c)(l:∃n,c.mem.size=hF n):jF c=true:=by
 have m:=pD b.cf;have g:=d.Z;have i:=d.Z6;have j:=d.Z_;rw[<-d.U]at g i j;unfold jF;simp only[aP,aY,rC];refine⟨⟨⟨⟨⟨⟨⟨⟨⟨⟨⟨b.cf,h.pg⟩,?_⟩,h.ro.right ad⟩,g⟩,λe k=>(h.ro.ev e k).2⟩,?_⟩,?_⟩,b.N⟩,i⟩,j⟩,h.sp⟩
 ·rw[uw l];simp
 ·unfold Ax;simp[aP,aY];exact⟨⟨b.data,h.da.1⟩,h.da.2⟩
 unfold Ax;simp[aP,aY];exact⟨⟨b.C,h.wo.1⟩,h.wo.2⟩
structure jb(X:Co)(k:Nat):Prop where
 ok:(uN X k).ok (10*k)
 bd:Bd X.U (uN X k).O.length (uN X k)
 rc:ce (1+2*k) (uN X k)
 ms:∃n,(uN X k).mem.size=hF n
 rt:jF (uN X k)=true
def HU(c)(prog)(m)(e:c.ok)(hp:∀x∈prog,x<=4294967295)(X)(d:X=fX c prog m)(b:jF X=true):jb X 0:=by
 subst d;refine⟨Id c prog m e hp,I4 c prog m,⟨ec.nil,(show(0:Int)<=1 from dT),(show(1:Int)<=1+2*((0:Nat):Int)from dT),?_,?_,λp hp=>(List.not_mem_nil hp).elim,?_⟩,⟨_,wE m⟩,b⟩;rotate_left 2
 ·show(prog.take _).length<=64;rw[aM];omega
 all_goals
  unfold jF at b;simp[aP,aY]at b
  first|let⟨⟨⟨⟨⟨⟨_,a⟩, _⟩, _⟩, _⟩, _⟩, _⟩:=b|let⟨⟨⟨⟨⟨_,a⟩, _⟩, _⟩, _⟩, _⟩:=b
  unfold Ax at a;simp[aP,aY]at a;exact⟨a.1.2,a.2⟩
theorem jb.next{X}{k}(h:jb X k)(j:k<=3000)(g:0<=X.U.Z∧0<=X.U.queue):jb X (k+1):=by
 have e:=EL h.ok ad h.rt;have f:uG (uN X k)=ed (uN X k):=aa h.rt;have c:=(J3 g h.bd).1;have d:∃n,(uN X (k+1)).mem.size=hF n:=by
  let⟨n,hn⟩:=h.ms;exact⟨n,(H4 h.rt).2.2.trans hn⟩
 have i:=(Ql e ad).k7;have a:ce (1+2*((k+1:Nat):Int)) (uN X (k+1)):=by
  show ce _ (uG (uN X k));rw[f,(oT:1+2*((k+1:Nat):Int)=1+2*(k:Int)+2)];exact (H' e ad ad h.rc)
 have b:(uN X (k+1)).I (10*k+10):=by show(uG (uN X k)).I _;rwa[f]
 exact⟨by rw[(oT:10*(k+1)=10*k+10)];exact b.ok,c,a,d,F7 b c a d⟩
theorem v6{X:Co}(h:jb X 0)(a:0<=X.U.Z∧0<=X.U.queue):∀k,k<=3000->jb X k
 |0,_=>h
 |k+1,b=>(v6 h a k ad).next ad a
def F8(a)(prog)(m)(C:(fX a prog m).ok 0):jF (fX a prog m)=true:=by
 have b:∀n lo c:Int,lo<=c->lo<=bV n lo c∧bV n lo c<=c:=λn lo c h=>by unfold bV;(repeat' split)<;>omega
 have g:wA (bZ a)=true:=by
  unfold wA it bZ;have o:=b a.k 1 2 dT;have p:=b a.Z 2 8 dT;have q:=b a.queue 1 4 dT;have r:=b a.W 1 4 dT;have t:=b a.o 2 6 dT;have D:=b a.L 1 4 dT;have u:=b a.ways 1 2 dT;have i:(1<=(if bV a.L 1 4=3 then 2 else bV a.L 1 4))∧(if bV a.L 1 4=3 then 2 else bV a.L 1 4)<=4∧(if bV a.L 1 4=3 then 2 else bV a.L 1 4)≠3:=by split<;>omega
  simp only[aP,aY,rC,ge_iff_le,ne_eq];refine⟨⟨⟨⟨⟨⟨⟨⟨⟨⟨⟨λx A=>?_,b a.mode 0 2 dT⟩,o⟩,p⟩,q⟩,r⟩,t⟩,⟨i.1,i.2.1⟩⟩,i.2.2⟩,u⟩,?_⟩,?_⟩
  ·obtain⟨y,_,rfl⟩:=pG.1 A;exact b y 1 8 dT
  ·rw[aH,aM];omega
  rw[aM];omega
 have B:=pD g;have k:∀s w:Int,(s=1∨s=2∨s=4)->(w=1∨w=2)->Ax (CZ s w) { (bZ a)with L:=s,ways:=w}=true:=by
  intro s w v z;rcases v with rfl|rfl|rfl<;>rcases z with rfl|rfl<;>rfl
 have d:(bZ a).L=1∨(bZ a).L=2∨(bZ a).L=4:=by
  have:=b a.L 1 4 dT;show(if bV a.L 1 4=3 then 2 else bV a.L 1 4)=1∨(if bV a.L 1 4=3 then 2 else bV a.L 1 4)=2∨(if bV a.L 1 4=3 then 2 else bV a.L 1 4)=4;split<;>omega
 have f:(bZ a).ways=1∨(bZ a).ways=2:=by
  have:=b a.ways 1 2 dT;show bV a.ways 1 2=1∨bV a.ways 1 2=2;omega
 have l:=k _ _ d f;unfold jF;have E:(fX a prog m).mem=jB m:=rfl;rw[show jB (fX a prog m).mem=(fX a prog m).mem from uw ⟨_,wE m⟩];simp only[aP,aY,rC];refine⟨⟨⟨⟨⟨⟨⟨⟨⟨⟨⟨g,?_⟩,by simp⟩,rfl⟩,?_⟩,λe j=>(List.not_mem_nil j).elim⟩,l⟩,l⟩,rfl⟩,?_⟩,?_⟩,λe j=>(List.not_mem_nil j).elim⟩
 ·show(prog.take (min prog.length 64)).length<=64;rw[aM];omega
 ·show((0:Nat):Int)<=(bZ a).Z;omega
 ·show((0:Nat):Int)<=(bZ a).queue;omega
 show((0:Nat):Int)<=(bZ a).W;omega
end Go.Proofs.YtdhclfgoomldfaaGreatDoor
