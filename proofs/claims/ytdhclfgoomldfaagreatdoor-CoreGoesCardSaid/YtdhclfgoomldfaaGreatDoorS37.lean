/- Lemmas. -/
import Derived.Test.YtdhclfgoomldfaaGreatDoorS1
import Derived.Test.YtdhclfgoomldfaaGreatDoorS30
import Derived.Test.YtdhclfgoomldfaaGreatDoorS31
import Derived.Test.YtdhclfgoomldfaaGreatDoorS33
import Derived.Test.YtdhclfgoomldfaaGreatDoorS36
set_option linter.all false
namespace Go.Proofs.YtdhclfgoomldfaaGreatDoor
open Go.Proofs.Tryz
set_option maxRecDepth 100000
set_option maxHeartbeats 4000000
open Go.RowKit
def hJ(x a t)(b:x<=4294967295)(c:a<=t)(d:t<32):bI C0 49 [vU x,vN a,vN t] (.v (.int .u32 ((an x a (t+1-a):Nat):Int))):=by
 refine bk func49 rfl ?_;exact rW _ rfl (fw (c3 ad ad))<|rW _ rfl (fw (by rw[c3 ad ad];omega))<|zC (SC x a (t+1-a) b ad ad)<|fT rfl rfl
abbrev qh(n:Nat):List AV:=[.v (.int .i64 (n:Int))]
def Mr(l)(f)(b:f<=7):bI C0 102 [.Y 1 (l.map qh) true,vU f] (.v (.int .i64 ((g' l f:Nat):Int))):=by
 refine bk func102 rfl ?_;refine zW _ (ao (bH b rfl))<|rW _ rfl (ax (λn:Nat=>bz.ok (.v (.int .i64 (n:Int)))) (aH ..))<|zW _ (am (bs _ _)) ?_;refine cb (f<l.length) qW (λa=>?_) (λa=>?_)
 ·skip
  exact zX (qh (l.getD f 0)) (.dp 1 0 (qh (l.getD f 0))) rfl (by rw[Int.toNat_natCast,aX,aA ad,aR,aA ad];rfl)<|fI rfl (rfl)
 exact fN rfl (by show 0=l.getD f 0;rw[aR,bE ad];rfl)
def A9(f g)(h:f<=7)(i:g<=127):bI C0 103 [vU f,vU g] (.v (.int .i64 ((kq f g:Nat):Int))):=by
 refine bk func103 rfl ?_;refine zW _ (am (a7 _ _)) ?_;refine dt f 1 (λa=>?_) (λa=>?_)
 ·refine zW _ (am (a7 _ _)) ?_;refine dt g 0 (λd=>?_) (λd=>?_)
  ·exact fN rfl (by unfold kq;simp[a,d])
  exact fN rfl (by unfold kq;simp[a,d])
 refine zW _ (am (a7 _ _)) ?_;refine dt f 5 (λb=>?_) (λb=>?_)
 ·refine zW _ (am (a7 _ _)) ?_;refine dt g 0 (λc=>?_) (λc=>?_)
  ·exact fN rfl (by unfold kq;simp[a,b,c])
  refine zW _ (am (a7 _ _)) ?_;refine dt g 32 (λe=>?_) (λe=>?_)
  ·exact fN rfl (by unfold kq;simp[a,b,c,e])
  exact fN rfl (by unfold kq;simp[a,b,c,e])
 exact zV (.Y 1 ([[vI 19],[vI 0],[vI 20],[vI 21],[vI 22],[vI 0],[vI 23],[vI 24]]) true)<|zC (Mr [19,0,20,21,22,0,23,24] f h)<|fN rfl (by unfold kq;simp[a,b])
def A_(f g)(e:f<=7)(i:g<=127):bI C0 104 [vU f,vU g] (.v (.int .i64 ((k_ f g:Nat):Int))):=by
 refine bk func104 rfl ?_;refine zW _ (am (a7 _ _)) ?_;refine dt g 0 (λa=>?_) (λa=>?_)
 ·exact zV (.Y 1 ([[vI 28],[vI 30],[vI 31],[vI 32],[vI 33],[vI 34],[vI 36],[vI 37]]) true)<|zC (Mr [28,30,31,32,33,34,36,37] f e)<|fN rfl (by unfold k_;simp[a])
 refine zW _ (am (a7 _ _)) ?_;refine dt g 1 (λb=>?_) (λb=>?_)
 ·exact zV (.Y 1 ([[vI 38],[vI 39],[vI 40],[vI 41],[vI 42],[vI 43],[vI 44],[vI 45]]) true)<|zC (Mr [38,39,40,41,42,43,44,45] f e)<|fN rfl (by unfold k_;simp[a,b])
 refine zW _ (am (a7 _ _))<|az rfl id (am (a7 _ _))<|zN rfl (λh=>h) ?_;refine cb (g=32∧f=0) (uA _ _ bx bx) (λc=>?_) (λc=>?_)
 ·exact fN rfl (by unfold k_;simp[a,b,c])
 refine zW _ (am (a7 _ _))<|az rfl id (am (a7 _ _))<|zN rfl (λh=>h) ?_;refine cb (g=32∧f=5) (uA _ _ bx bx) (λd=>?_) (λd=>?_)
 ·exact fN rfl (by unfold k_;simp[a,b,c,d])
 exact fN rfl (by unfold k_;simp[a,b,c,d])
def Ec(x)(m:x<=4294967295):bI C0 46 [vU x] (.v (.int .i64 ((b3 x:Nat):Int))):=by
 refine bk func46 rfl ?_;refine zC (hJ x 12 14 m dT dT)<|zC (hJ x 25 31 m dT dT) ?_;refine zW _ (am (a7 _ _)) ?_;refine dt x 15 (λa=>?_) (λa=>?_)
 ·exact fN rfl (by unfold b3 fy;simp[a])
 refine zW _ (am (a7 _ _)) ?_;refine dt x 115 (λb=>?_) (λb=>?_)
 ·exact fN rfl (by unfold b3 fy;simp[a,b])
 refine zW _ (am (a7 _ _)) ?_;refine dt x 1048691 (λc=>?_) (λc=>?_)
 ·exact fN rfl (by unfold b3 fy;simp[a,b,c])
 refine zC (hJ x 0 6 m dT dT)<|zW _ (am (a7 _ _)) ?_;refine dt (an x 0 7) 55 (λd=>?_) (λd=>?_)
 ·exact fN rfl (by unfold b3 fy;simp[a,b,c,d])
 refine zW _ (am (a7 _ _)) ?_;refine dt (an x 0 7) 23 (λe=>?_) (λe=>?_)
 ·exact fN rfl (by unfold b3 fy;simp[a,b,c,d,e])
 refine zW _ (am (a7 _ _)) ?_;refine dt (an x 0 7) 111 (λf=>?_) (λf=>?_)
 ·exact fN rfl (by unfold b3 fy;simp[a,b,c,d,e,f])
 refine zW _ (am (a7 _ _)) ?_;refine dt (an x 0 7) 103 (λh=>?_) (λh=>?_)
 ·exact zV (.Y 1 ([[vI 4]]) true)<|zC (Mr [4] (an x 12 3) (gQ rfl))<|fN rfl (by unfold b3 fy;simp[a,b,c,d,e,f,h])
 refine zW _ (am (a7 _ _)) ?_;refine dt (an x 0 7) 99 (λi=>?_) (λi=>?_)
 ·exact zV (.Y 1 ([[vI 5],[vI 6],[vI 0],[vI 0],[vI 7],[vI 8],[vI 9],[vI 10]]) true)<|zC (Mr [5,6,0,0,7,8,9,10] (an x 12 3) (gQ rfl))<|fN rfl (by unfold b3 fy;simp[a,b,c,d,e,f,h,i])
 refine zW _ (am (a7 _ _)) ?_;refine dt (an x 0 7) 3 (λk=>?_) (λk=>?_)
 ·exact zV (.Y 1 ([[vI 11],[vI 12],[vI 13],[vI 0],[vI 14],[vI 15]]) true)<|zC (Mr [11,12,13,0,14,15] (an x 12 3) (gQ rfl))<|fN rfl (by unfold b3 fy;simp[a,b,c,d,e,f,h,i,k])
 refine zW _ (am (a7 _ _)) ?_;refine dt (an x 0 7) 35 (λg=>?_) (λg=>?_)
 ·exact zV (.Y 1 ([[vI 16],[vI 17],[vI 18]]) true)<|zC (Mr [16,17,18] (an x 12 3) (gQ rfl))<|fN rfl (by unfold b3 fy;simp[a,b,c,d,e,f,h,i,k,g])
 refine zW _ (am (a7 _ _)) ?_;refine dt (an x 0 7) 19 (λj=>?_) (λj=>?_)
 ·exact zC (A9 _ _ (gQ rfl) (gQ rfl))<|fN rfl (by unfold b3 fy;simp[a,b,c,d,e,f,h,i,k,g,j])
 refine zW _ (am (a7 _ _)) ?_;refine dt (an x 0 7) 51 (λl=>?_) (λl=>?_)
 ·exact zC (A_ _ _ (gQ rfl) (gQ rfl))<|fN rfl (by unfold b3 fy;simp[a,b,c,d,e,f,h,i,k,g,j,l])
 exact fN rfl (by unfold b3 fy;simp[a,b,c,d,e,f,h,i,k,g,j,l])
def gv(x L:Nat):Nat:=
 if L=73 then cp (an x 20 12) 12 else if L=83 then cp (an x 7 5+32*an x 25 7) 12
 else if L=66 then cp (2*an x 8 4+32*an x 25 6+2048*an x 7 1+4096*an x 31 1) 13 else if L=85 then 4096*an x 12 20
 else if L=74 then cp (2*an x 21 10+2048*an x 20 1+4096*an x 12 8+1048576*an x 31 1) 21 else if L=84 then an x 20 5 else 0
def Dd(a):bT a<=255:=by unfold bT;(repeat' split)<;>decide
def lf(a):(cW a,bT a)∈[(0,0),(6,85),(7,74),(2,73),(5,66),(4,83),(3,84),(1,82),(8,87)]:=by
 unfold cW bT;(repeat' split)<;>first|decide|(exfalso;omega)
def x_(a){p:Nat->Nat->Prop}(b:p 0 0)(i:p 6 85)(j:p 7 74)(d:p 2 73)(g:p 5 66)(f:p 4 83)(e:p 3 84)(c:p 1 82)(k:p 8 87):p (cW a) (bT a):=by
 have h:=lf a;simp[dn,Prod.mk.injEq,List.not_mem_nil,or_false]at h;rcases h with h|h|h|h|h|h|h|h|h<;>rw[h.1,h.2]<;>assumption
def A'(x)(a):gv x (bT a)=EG (cW a) x:=by
 rw[A0 x _ (sB a)];exact x_ a (p:=λf L=>gv x L=qf x f) rfl rfl rfl rfl rfl rfl rfl rfl rfl
def Eh(x L:Nat)(a:x<=4294967295)(y:L<=255):bI C0 48 [vU x,.v (.int .u8 (L:Int))] (.v (.int .u32 ((gv x L:Nat):Int))):=by
 refine bk func48 rfl ?_;refine zC (hJ x 31 31 a dT dT) ?_;refine zW _ (am (a7 _ _)) ?_;refine dt L 73 (λb=>?_) (λb=>?_)
 ·exact a1 rfl (hJ x 20 31 a dT dT)<|zC (Pm (an x 20 12) 12 (aL ((ip x 20 12 4095 rfl)) dT) dT dT)<|fN rfl (by unfold gv;simp[b])
 refine zW _ (am (a7 _ _)) ?_;refine dt L 83 (λc=>?_) (λc=>?_)
 ·refine zC (hJ x 7 11 a dT dT)<|a1 rfl (hJ x 25 31 a dT dT) ?_;have o:32*(an x 25 7)<=4064:=cJ (aC 32) (ip x 25 7 127 rfl);refine rW _ rfl (ao (nJ o rfl)) ?_;have p:(an x 7 5)+(32*(an x 25 7))<=4095:=aD (ip x 7 5 31 rfl) o;exact rW _ rfl (ao (nJ p rfl))<|zC (Pm ((an x 7 5)+(32*(an x 25 7))) 12 (aL (p) dT) dT dT)<|fN rfl (by unfold gv;simp[b,c])
 refine zW _ (am (a7 _ _)) ?_;refine dt L 66 (λd=>?_) (λd=>?_)
 ·refine a1 rfl (hJ x 8 11 a dT dT) ?_;have q:2*(an x 8 4)<=30:=cJ (aC 2) (ip x 8 4 15 rfl);refine zW _ (ao (nJ q rfl))<|a1 rfl (hJ x 25 30 a dT dT) ?_;have r:32*(an x 25 6)<=2016:=cJ (aC 32) (ip x 25 6 63 rfl);refine rW _ rfl (ao (nJ r rfl)) ?_;have s:(2*(an x 8 4))+(32*(an x 25 6))<=2046:=aD q r;refine zW _ (ao (nJ s rfl))<|a1 rfl (hJ x 7 7 a dT dT) ?_;have t:2048*(an x 7 1)<=2048:=cJ (aC 2048) (ip x 7 1 1 rfl);refine rW _ rfl (ao (nJ t rfl)) ?_;have u:((2*(an x 8 4))+(32*(an x 25 6)))+(2048*(an x 7 1))<=4094:=aD s t;refine zW _ (ao (nJ u rfl)) ?_;have v:4096*(an x 31 1)<=4096:=cJ (aC 4096) (ip x 31 1 1 rfl);refine rW _ rfl (ao (nJ v rfl)) ?_;have w:(((2*(an x 8 4))+(32*(an x 25 6)))+(2048*(an x 7 1)))+(4096*(an x 31 1))<=8190:=aD u v;exact rW _ rfl (ao (nJ w rfl))<|zC (Pm ((((2*(an x 8 4))+(32*(an x 25 6)))+(2048*(an x 7 1)))+(4096*(an x 31 1))) 13 (aL (w) dT) dT dT)<|fN rfl (by unfold gv;simp[b,c,d])
 refine zW _ (am (a7 _ _)) ?_;refine dt L 85 (λe=>?_) (λe=>?_)
 ·refine a1 rfl (hJ x 12 31 a dT dT) ?_;exact zW _ (ao (nJ (cJ (aC 4096) (ip x 12 20 1048575 rfl)) rfl))<|fN rfl (by unfold gv;simp[b,c,d,e])
 refine zW _ (am (a7 _ _)) ?_;refine dt L 74 (λf=>?_) (λf=>?_)
 ·refine a1 rfl (hJ x 21 30 a dT dT) ?_;have g:2*(an x 21 10)<=2046:=cJ (aC 2) (ip x 21 10 1023 rfl);refine zW _ (ao (nJ g rfl))<|a1 rfl (hJ x 20 20 a dT dT) ?_;have h:2048*(an x 20 1)<=2048:=cJ (aC 2048) (ip x 20 1 1 rfl);refine rW _ rfl (ao (nJ h rfl)) ?_;have i:(2*(an x 21 10))+(2048*(an x 20 1))<=4094:=aD g h;refine zW _ (ao (nJ i rfl))<|a1 rfl (hJ x 12 19 a dT dT) ?_;have j:4096*(an x 12 8)<=1044480:=cJ (aC 4096) (ip x 12 8 255 rfl);refine rW _ rfl (ao (nJ j rfl)) ?_;have k:((2*(an x 21 10))+(2048*(an x 20 1)))+(4096*(an x 12 8))<=1048574:=aD i j;refine zW _ (ao (nJ k rfl)) ?_;have l:1048576*(an x 31 1)<=1048576:=cJ (aC 1048576) (ip x 31 1 1 rfl);refine rW _ rfl (ao (nJ l rfl)) ?_;have m:(((2*(an x 21 10))+(2048*(an x 20 1)))+(4096*(an x 12 8)))+(1048576*(an x 31 1))<=2097150:=aD k l;exact rW _ rfl (ao (nJ m rfl))<|zC (Pm ((((2*(an x 21 10))+(2048*(an x 20 1)))+(4096*(an x 12 8)))+(1048576*(an x 31 1))) 21 (aL (m) dT) dT dT)<|fN rfl (by unfold gv;simp[b,c,d,e,f])
 refine zW _ (am (a7 _ _)) ?_;refine dt L 84 (λn=>?_) (λn=>?_)
 ·exact zC (hJ x 20 24 a dT dT)<|fN rfl (by unfold gv;simp[b,c,d,e,f,n])
 exact fN rfl (by unfold gv;simp[b,c,d,e,f,n])
def Pl(x:Nat)(k:Nat):SI:=
 if b3 x=0 then MG else⟨k,if bT k=83∨bT k=66∨bT k=87 then 0 else(an x 7 5:Nat),if bT k=85∨bT k=74∨bT k=87 then 0 else(an x 15 5:Nat),
  if bT k=82∨bT k=83∨bT k=66 then(an x 20 5:Nat)else 0,gv x (bT k)⟩
def yw(x)(a:x<4294967296):Pl x (b3 x)=bn x:=by
 unfold Pl bn;rw[<-Wi x a];by_cases h:dw x=0
 ·rw[aa h,aa h]
 rw[dZ h,dZ h,A'];unfold xW;have b:=Fp x h;have f1:=AY (dw x:Int) ⟨oT,oT⟩;generalize EG _ _=z;revert f1;exact x_ (dw x) (p:=λf L=>1<=f->SI.mk (dw x) (if L=83∨L=66∨L=87 then 0 else(an x 7 5:Nat)) (if L=85∨L=74∨L=87 then 0 else(an x 15 5:Nat)) (if L=82∨L=83∨L=66 then(an x 20 5:Nat)else 0) z=⟨dw x,if yW f then(an x 7 5:Nat)else 0,if uS f then(an x 15 5:Nat)else 0,if vS f then(an x 20 5:Nat)else 0,z⟩) (λh=>absurd h dT) (λ_=>rfl) (λ_=>rfl) (λ_=>rfl) (λ_=>rfl) (λ_=>rfl) (λ_=>rfl) (λ_=>rfl) (λ_=>rfl)
def Br(x)(b:x<=4294967295):bI C0 18 [vU x] (.C [hK (Pl x (b3 x)),.v (.int .i64 ((if b3 x=0 then 20 else 0:Nat):Int))]):=by
 refine bk func18 rfl ?_;refine zC (Ec x b) ?_;refine zW _ (am (a7 _ _)) ?_;refine dt (b3 x) 0 (λa=>?_) (λa=>?_)
 ·exact zV (.agg [vI 0,vI 0,vI 0,vI 0,.v (.int .u32 0)])<|fT rfl (by rw[show Pl x (b3 x)=⟨0,0,0,0,0⟩from by unfold Pl;rw[aa a];rfl,aa a];rfl)
 refine zC (Vs _)<|a1 rfl (Eh x _ b (Dd _))<|zV (.agg [vN (b3 x),vI 0,vI 0,vI 0,vU (gv x (bT (b3 x)))]) ?_;refine zW _ (am (a7 _ _)) ?_;refine dt (bT (b3 x)) 87 (λc=>?_) (λc=>?_)
 ·exact fT rfl (by rw[show Pl x (b3 x)=⟨((b3 x:Nat):Int),0,0,0,(gv x (bT (b3 x)))⟩from by unfold Pl;rw[dZ a];congr 1<;>split<;>first|rfl|(exfalso;omega),dZ a];rfl)
 refine zW _ (am (de _ _))<|az rfl id (am (de _ _))<|zN rfl (λh=>h) ?_;refine cb (¬(bT (b3 x))=83∧ ¬(bT (b3 x))=66) (uA _ _ i4 i4) (λd=>?_) (λd=>?_)
 all_goals
  first|(refine a1 rfl (hJ x 7 11 b dT dT) ?_;refine zW _ (ao (bH (ip x 7 5 31 rfl) rfl)) ?_)|skip
  refine zW _ (am (de _ _))<|az rfl id (am (de _ _))<|zN rfl (λh=>h) ?_;refine cb (¬(bT (b3 x))=85∧ ¬(bT (b3 x))=74) (uA _ _ i4 i4) (λe=>?_) (λe=>?_)
  all_goals
   first|(refine a1 rfl (hJ x 15 19 b dT dT) ?_;refine zW _ (ao (bH (ip x 15 5 31 rfl) rfl)) ?_)|skip
   refine zW _ (am (a7 _ _))<|az rfl id (am (a7 _ _))<|zN rfl (by simp) ?_;refine az rfl id (am (a7 _ _))<|zN rfl (by simp) ?_;refine cb (((bT (b3 x))=82∨(bT (b3 x))=83)∨(bT (b3 x))=66) (wP _ _ (wP _ _ bx bx) bx) (λf=>?_) (λf=>?_)
   ·refine a1 rfl (hJ x 20 24 b dT dT)<|zW _ (ao (bH (ip x 20 5 31 rfl) rfl)) ?_
    first|(exact fT rfl (by rw[show Pl x (b3 x)=⟨((b3 x:Nat):Int),((an x 7 5:Nat):Int),((an x 15 5:Nat):Int),((an x 20 5:Nat):Int),(gv x (bT (b3 x)))⟩from by unfold Pl;rw[dZ a];congr 1<;>split<;>first|rfl|(exfalso;omega),dZ a];rfl))|(exact fT rfl (by rw[show Pl x (b3 x)=⟨((b3 x:Nat):Int),0,((an x 15 5:Nat):Int),((an x 20 5:Nat):Int),(gv x (bT (b3 x)))⟩from by unfold Pl;rw[dZ a];congr 1<;>split<;>first|rfl|(exfalso;omega),dZ a];rfl))|(exact fT rfl (by rw[show Pl x (b3 x)=⟨((b3 x:Nat):Int),((an x 7 5:Nat):Int),0,((an x 20 5:Nat):Int),(gv x (bT (b3 x)))⟩from by unfold Pl;rw[dZ a];congr 1<;>split<;>first|rfl|(exfalso;omega),dZ a];rfl))|(exact fT rfl (by rw[show Pl x (b3 x)=⟨((b3 x:Nat):Int),0,0,((an x 20 5:Nat):Int),(gv x (bT (b3 x)))⟩from by unfold Pl;rw[dZ a];congr 1<;>split<;>first|rfl|(exfalso;omega),dZ a];rfl))
   first|(exact fT rfl (by rw[show Pl x (b3 x)=⟨((b3 x:Nat):Int),((an x 7 5:Nat):Int),((an x 15 5:Nat):Int),0,(gv x (bT (b3 x)))⟩from by unfold Pl;rw[dZ a];congr 1<;>split<;>first|rfl|(exfalso;omega),dZ a];rfl))|(exact fT rfl (by rw[show Pl x (b3 x)=⟨((b3 x:Nat):Int),0,((an x 15 5:Nat):Int),0,(gv x (bT (b3 x)))⟩from by unfold Pl;rw[dZ a];congr 1<;>split<;>first|rfl|(exfalso;omega),dZ a];rfl))|(exact fT rfl (by rw[show Pl x (b3 x)=⟨((b3 x:Nat):Int),((an x 7 5:Nat):Int),0,0,(gv x (bT (b3 x)))⟩from by unfold Pl;rw[dZ a];congr 1<;>split<;>first|rfl|(exfalso;omega),dZ a];rfl))|(exact fT rfl (by rw[show Pl x (b3 x)=⟨((b3 x:Nat):Int),0,0,0,(gv x (bT (b3 x)))⟩from by unfold Pl;rw[dZ a];congr 1<;>split<;>first|rfl|(exfalso;omega),dZ a];rfl))
def Ei(x:Nat)(a:x<4294967296):bI C0 18 [.v (.int .u32 (x:Int))] (.C [hK (bn x),.v (.int .i64 ((hG x:Nat):Int))]):=by
 have h:=Br x (aI a);rw[yw x a]at h;unfold hG;rw[Wi x a];exact h
def Yr(s:ByteArray)(b:s.size<=4)(k)(a:k<=s.size):db (s.data.toList.drop (s.size-k)) k<=4294967295:=by
 have h:=yK (s.data.toList.drop (s.size-k)) k;have:256 ^ k<=256 ^ 4:=bU dT ad;omega
def uu(s:ByteArray)(a:s.size<=4):db s.data.toList s.size<=4294967295:=by
 have h:=Yr s a s.size (aC _)
 rwa [eK,bS]at h
def uk(s:ByteArray):s.data.toList.length=s.size:=cV
def Ys(s:ByteArray)(c:s.size<=4)(k)(a:k<s.size):(256*db (s.data.toList.drop (s.size-k)) k%4294967296+(s.data.toList.getD (((s.size:Int)-1-(k:Int))).toNat 0).toNat)%4294967296=db (s.data.toList.drop (s.size-(k+1))) (k+1):=by
 have h:=SL s.data.toList k (by rw[uk];exact a);rw[uk]at h;have b:=Yr s c (k+1) a;rw[(oT:(((s.size:Int)-1-(k:Int))).toNat=s.size-1-k),h];rw[h]at b;omega
def R_(b:UInt8):IntKind.wrap .u32 ((b.toNat:Nat):Int)=((b.toNat:Nat):Int):=by
 have:=UInt8.toNat_lt b;simp only[IntKind.wrap,IntKind.signed,IntKind.bits];simp;omega
def zx(n:Nat):IntKind.wrap .u32 (n:Int)=((n%4294967296:Nat):Int):=by
 simp only[IntKind.wrap,IntKind.signed,IntKind.bits];simp
def tl(s)(c:s.size<=4):bI C0 26 [.v (.string s)] (.C [.v (.int .u32 ((db s.data.toList s.size:Nat):Int)),.v (.int .i64 0)]):=by
 refine bk func26 rfl ?_;refine rV (vN s.size) rfl<|zW (vB (decide (s.size>4))) (am (fv _ _)) ?_;refine cb (s.size>4) qW (λa=>by omega) (λa=>?_);refine rV (vN s.size) rfl<|zW (vI ((s.size:Int)-1)) (fw (c3 ad ad))<|ee (λk=>⟨a8 [(0,.v (.string s)),(4,vU (db (s.data.toList.drop (s.size-k)) k)),(5,vI ((s.size:Int)-1-(k:Int)))],ap [],10⟩) (λk=>k<=s.size) (λk=>s.size-k) 0 (λs=>s) (av (λs=>s) ⟨⟨rfl,rfl⟩,⟨rfl,rfl⟩,⟨ax (λn:Int=>AV.v (.int .i64 n)) (by simp),rfl⟩,trivial⟩ trivial rfl) (aE _) ?_;intro k f;refine zV (vB (decide (((s.size:Int)-1-(k:Int))>=0))) ?_;refine cb (((s.size:Int)-1-(k:Int))>=0) qW (λb=>?_) (λb=>?_)
 ·skip
  have d:(256*(db (s.data.toList.drop (s.size-k)) k))%4294967296<=4294967295:=aI (aQ _ dT);refine zV (vU ((256*(db (s.data.toList.drop (s.size-k)) k))%4294967296))<|nW (.v (.int .u8 (((s.data.toList.getD ((s.size:Int)-1-(k:Int)).toNat 0).toNat:Nat):Int))) rfl rfl (⟨oT,oT⟩)<|rW (vU ((s.data.toList.getD ((s.size:Int)-1-(k:Int)).toNat 0).toNat)) rfl (fw (R_ _))<|zW (vU (db (s.data.toList.drop (s.size-(k+1))) (k+1))) (ao (by rw[<-Ys s c k ad];exact zx _))<|zW (vI ((s.size:Int)-1-((k+1:Nat):Int))) (fw (by rw[c3 ad ad];omega)) ?_;refine⟨k+1,λs=>s,av (λs=>s) wT trivial rfl,ad,ad⟩
 have e:k=s.size:=oT;subst e;exact fT rfl (by rw[eK,bS];rfl)
def Su(x k)(a:x<=4294967295)(h:x/2 ^ k>0):g2 (x/2 ^ k)=1+g2 (x/2 ^ (k+1)):=by
 have:x/2 ^ k<=x:=cO _ _;unfold g2;rw[Lib.bitLen_half _ ad ad,Nat.div_div_eq_div_mul, <-Nat.pow_succ]
def Sv(x k)(b:x<=4294967295)(h:x/2 ^ k>0):k<32:=by
 refine Nat.lt_of_not_le λa=>?_;have:(2:Nat) ^ 32<=2 ^ k:=bU dT a;rw[Nat.div_eq_of_lt ad]at h;omega
def z':g2 0=0:=dT
def tw(x)(b:x<=4294967295):bI C0 58 [vU x] (.v (.int .i64 ((g2 x:Nat):Int))):=by
 refine bk func58 rfl ?_;refine ee (λk=>⟨a8 [(0,vU (x/2 ^ k)),(3,vN k)],ap [],2⟩) (λk=>k<=32∧g2 x=k+g2 (x/2 ^ k)) (λk=>33-k) 0 (λs=>s) (av (λs=>s) ⟨⟨qc (by simp),rfl⟩,⟨rfl,rfl⟩,trivial⟩ trivial rfl) (⟨dT,by simp⟩) ?_;intro k c;refine zW (vB (decide ((x/2 ^ k)>0))) (am (fv _ _)) ?_;refine cb ((x/2 ^ k)>0) qW (λa=>?_) (λa=>?_)
 ·skip
  refine zW (vN (k+1)) (ao (bH (aD c.1 (aC 1)) rfl))<|zM (vU (x/2 ^ (k+1))) (hU (by rw[Nat.pow_succ, <-Nat.div_div_eq_div_mul];exact nJ (aL (cO _ _) (aL (cO _ _) b)) rfl)) dT ?_;refine⟨k+1,λs=>s,av (λs=>s) wT trivial rfl,⟨Sv x k b a,by rw[c.2,Su x k b a];omega⟩,(oH (Sv x k b a))⟩
 exact fN rfl (by rw[c.2,show x/2 ^ k=0 from Nat.eq_zero_of_not_pos a,z'];rfl)
def Ac(m)(a)(b)(g:a+b.size<=m.size)(o:m.size<=256)(f:a<=4294967295)(l:b.size<=4):bI C0 25 [.v (.string m),vU a,.v (.string b)] (.v (.string (DD m a b))):=by
 refine bk func25 rfl ?_;refine zV (.Y 1 ([]) true) ?_;refine jR (λk=>match k with|0=>⟨a8 [(0,.v (.string m)),(1,vU a),(2,.v (.string b)),(7,.Y 1 ([]) true),(8,vN 0)],ap [],4⟩|k+1=>⟨a8 [(0,.v (.string m)),(1,vU a),(2,.v (.string b)),(7,.S 0 0 (k+1) false),(8,vN (k+1))],ap [(0,.arr ((cu (uU m b a) (k+1)).map Sx) 1)],4⟩) (λk=>k<=m.size) (λk=>m.size-k) 0 (λs=>s) (av (λs=>s) wT trivial rfl) (aE _) ?_;intro k n;rcases k with _|k
 ·have c:0<=1000000:=dT;refine qS 0 rfl<|rV (vN m.size) rfl<|zW _ (am (bs _ _)) ?_;refine cb (0<m.size) qW (λi=>?_) (λi=>?_)
  ·refine rW _ rfl (ao (bH f rfl))<|zW _ (fw (c3 ad ad))<|zV (vB (decide ((((0:Nat):Int)-(a:Int))>=0))) ?_;refine az rfl id rfl<|az rfl cq rfl<|zN rfl (λh=>h) ?_;refine cb ((((0:Nat):Int)-(a:Int))>=0∧(((0:Nat):Int)-(a:Int))<((b.size:Nat):Int)) (uA _ _ qW qW) (λd=>?_) (λd=>?_)
   ·refine nW (.v (.int .u8 (((b.data.toList.getD (((0:Nat):Int)-(a:Int)).toNat 0).toNat:Nat):Int))) rfl rfl (⟨oT,oT⟩)<|rV (.Y 1 ([[.v (.int .u8 (((b.data.toList.getD (((0:Nat):Int)-(a:Int)).toNat 0).toNat:Nat):Int))]]) true) rfl<|zF (x:=.S 26 0 1 false) (h':=aq _ 26 (some (.arr (([])++([[.v (.int .u8 (((b.data.toList.getD (((0:Nat):Int)-(a:Int)).toNat 0).toNat:Nat):Int))]])) 1))) (rfl) (⟨by exact aJ rfl,by exact aJ rfl,trivial,trivial⟩) ?_;refine zW _ (ao (bH (aD c (aC 1)) rfl)) ?_;refine⟨0+1,λs=>match s with|0=>26|s=>s,av (λs=>match s with|0=>26|s=>s) wT ⟨⟨rfl,ax (λz=>some (ba.arr z 1)) (Jp (row:=Sx) (x:=b.data.toList.getD (((0:Nat):Int)-(a:Int)).toNat 0) (by unfold uU;rw[aa d])),rfl⟩,trivial⟩ rfl,ad,ad⟩
   refine nW (.v (.int .u8 (((m.data.toList.getD (((0:Nat):Int)).toNat 0).toNat:Nat):Int))) rfl rfl (⟨oT,oT⟩)<|rV (.Y 1 ([[.v (.int .u8 (((m.data.toList.getD (((0:Nat):Int)).toNat 0).toNat:Nat):Int))]]) true) rfl<|zF (x:=.S 26 0 1 false) (h':=aq _ 26 (some (.arr (([])++([[.v (.int .u8 (((m.data.toList.getD (((0:Nat):Int)).toNat 0).toNat:Nat):Int))]])) 1))) (rfl) (⟨by exact aJ rfl,by exact aJ rfl,trivial,trivial⟩) ?_;refine zW _ (ao (bH (aD c (aC 1)) rfl)) ?_;refine⟨0+1,λs=>match s with|0=>26|s=>s,av (λs=>match s with|0=>26|s=>s) wT ⟨⟨rfl,ax (λz=>some (ba.arr z 1)) (Jp (row:=Sx) (x:=m.data.toList.getD ((0:Nat):Int).toNat 0) (by unfold uU;rw[dZ d];rfl)),rfl⟩,trivial⟩ rfl,ad,ad⟩
  exact qX 0 rfl<|SV (([]:List UInt8)) rfl rfl rfl (trivial) (rfl)<|cN 0 rfl<|fS rfl (by rw[<-Ld m b a g];rw[(oT:m.size=0)];rfl)
 have c:k+1<=1000000:=oT;refine qS 0 rfl<|rV (vN m.size) rfl<|zW _ (am (bs _ _)) ?_;refine cb ((k+1)<m.size) qW (λj=>?_) (λj=>?_)
 ·refine rW _ rfl (ao (bH f rfl))<|zW _ (fw (c3 ad ad))<|zV (vB (decide (((((k+1):Nat):Int)-(a:Int))>=0))) ?_;refine az rfl id rfl<|az rfl cq rfl<|zN rfl (λh=>h) ?_;refine cb (((((k+1):Nat):Int)-(a:Int))>=0∧((((k+1):Nat):Int)-(a:Int))<((b.size:Nat):Int)) (uA _ _ qW qW) (λe=>?_) (λe=>?_)
  ·refine nW (.v (.int .u8 (((b.data.toList.getD ((((k+1):Nat):Int)-(a:Int)).toNat 0).toNat:Nat):Int))) rfl rfl (⟨oT,oT⟩)<|rV (.Y 1 ([[.v (.int .u8 (((b.data.toList.getD ((((k+1):Nat):Int)-(a:Int)).toNat 0).toNat:Nat):Int))]]) true) rfl ?_;refine zF (rfl) (⟨gC ad,gF,trivial⟩) ?_;refine zW _ (ao (bH (aD c (aC 1)) rfl)) ?_;refine⟨(k+1)+1,λs=>match s with|0=>26|s=>s,av (λs=>match s with|0=>26|s=>s) ⟨⟨rfl,rfl⟩,⟨rfl,rfl⟩,⟨rfl,rfl⟩,⟨ax (λz=>AV.S 26 0 z false) gL,rfl⟩,⟨rfl,rfl⟩,trivial⟩ ⟨⟨rfl,ax (λz=>some (ba.arr z 1)) (Gh (by unfold uU;rw[aa e])),rfl⟩,trivial⟩ rfl,ad,ad⟩
  refine nW (.v (.int .u8 (((m.data.toList.getD ((((k+1):Nat):Int)).toNat 0).toNat:Nat):Int))) rfl rfl (⟨oT,oT⟩)<|rV (.Y 1 ([[.v (.int .u8 (((m.data.toList.getD ((((k+1):Nat):Int)).toNat 0).toNat:Nat):Int))]]) true) rfl ?_;refine zF (rfl) (⟨gC ad,gF,trivial⟩) ?_;refine zW _ (ao (bH (aD c (aC 1)) rfl)) ?_;refine⟨(k+1)+1,λs=>match s with|0=>26|s=>s,av (λs=>match s with|0=>26|s=>s) ⟨⟨rfl,rfl⟩,⟨rfl,rfl⟩,⟨rfl,rfl⟩,⟨ax (λz=>AV.S 26 0 z false) gL,rfl⟩,⟨rfl,rfl⟩,trivial⟩ ⟨⟨rfl,ax (λz=>some (ba.arr z 1)) (Gh (by unfold uU;rw[dZ e];rfl)),rfl⟩,trivial⟩ rfl,ad,ad⟩
 exact qX 0 rfl<|SV (cu (uU m b a) (k+1)) rfl rfl rfl (Nat.le_of_eq gF) (by rw[gT];exact lN _)<|cN 0 rfl<|fS rfl (by rw[<-Ld m b a g];rw[(oT:m.size=k+1)])
def KZ(n):gU (List.take n (List.drop 0 (List.replicate n [AV.v (.int .u8 0)])))=some (List.replicate n (0:UInt8)):=by
 rw[bS,aN (by simp)];have:List.replicate n [AV.v (.int .u8 0)]=(List.replicate n (0:UInt8)).map λb=>[.v (.int .u8 (b.toNat:Int))]:=by simp
 rw[this];exact lN _
def wz(m:ByteArray)(j)(b:m.size<=256)(a:j<=4):((m.size+(⟨(List.replicate (16*2 ^ j-m.size) (0:UInt8)).toArray⟩:ByteArray).size:Nat):Int)<=IntKind.i64.max:=by
 have c:=bU (n:=2) dT a;have e:(⟨(List.replicate (16*2 ^ j-m.size) (0:UInt8)).toArray⟩:ByteArray).size=16*2 ^ j-m.size:=by
  show(List.replicate (16*2 ^ j-m.size) (0:UInt8)).toArray.size=_;simp
 rw[e];simp only[IntKind.max,IntKind.signed,IntKind.bits];simp;omega
def Mq(m:ByteArray):m.extract 0 m.size=m:=by simp
def NY(x)(n):x++(⟨(List.replicate n (0:UInt8)).toArray⟩:ByteArray)=(⟨(x.data.toList++List.replicate n 0).toArray⟩:ByteArray):=by
 refine ByteArray.ext ?_;rw[ByteArray.data_append];simp
def Vo(m)(j)(d: ¬m.size>256)(c: ¬ 16*2 ^ j<m.size)(b:j<=4)(a:j=0∨16*2 ^ (j-1)<m.size):m++(⟨(List.replicate (16*2 ^ j-m.size) (0:UInt8)).toArray⟩:ByteArray)=jB m:=by
 rw[NY];unfold jB;rw[lq ad,Mq,NE b ad a]
def Sw(m)(j)(d:m.size>256)(b: ¬ 16*2 ^ j<(m.extract 0 256).size)(a:j<=4)(c:j=0∨16*2 ^ (j-1)<(m.extract 0 256).size):m.extract 0 256++(⟨(List.replicate (16*2 ^ j-(m.extract 0 256).size) (0:UInt8)).toArray⟩:ByteArray)=jB m:=by
 have e:(m.extract 0 256).size=256:=by rw[dA];omega
 rw[NY];unfold jB;rw[Nat.min_eq_right ad, <-NE a ad ad,e]
def Ej{n j:Nat}(b:n<=256)(a:j<=4)(h:16*2 ^ j<n):j+1<=4:=IQ (n:=n) a ad
def Ak(m):bI C0 11 [.v (.string m)] (.v (.string (jB m))):=by
 refine bk func11 rfl ?_;refine rV (vN m.size) rfl<|zW (vB (decide (m.size>256))) (am (fv _ _)) ?_;refine cb (m.size>256) qW (λf=>?_) (λf=>?_)
 ·refine zM (.v (.string (m.extract 0 256))) rfl (⟨dT,by show(0:Int)<=256;decide,by show(256:Int)<=((m.size:Nat):Int);omega⟩) ?_;have b:(m.extract 0 256).size<=256:=by rw[dA];omega
  refine ee (κ:=Nat) (λj=>⟨a8 [(0,.v (.string (m.extract 0 256))),(3,vN (16*2 ^ j))],ap [],8⟩) (λj=>j<=4∧(j=0∨16*2 ^ (j-1)<(m.extract 0 256).size)) (λj=>4-j) 0 (λs=>s) (av (λs=>s) wT trivial rfl) (⟨dT,.inl rfl⟩) ?_;intro j a;refine rV (vN ((m.extract 0 256).size)) rfl<|zW (vB (decide ((16*2 ^ j)<((m.extract 0 256).size)))) (am (bs _ _)) ?_;refine cb ((16*2 ^ j)<((m.extract 0 256).size)) qW (λd=>?_) (λd=>?_)
  ·refine zW (vN (16*2 ^ (j+1))) (by show bz.ok (.v (.int .i64 (IntKind.wrap .i64 (2*((16*2 ^ j:Nat):Int)))))=_;have c:=bU (n:=2) dT a.1;rw[c3 ad ad];congr 3;rw[Nat.pow_succ];omega) ?_;refine⟨j+1,λs=>s,av (λs=>s) wT trivial rfl,⟨Ej b a.1 d,.inr (sU d)⟩,(oH (Ej b a.1 d))⟩
  refine rV (vN ((m.extract 0 256).size)) rfl<|rW (vN (16*2 ^ j-(m.extract 0 256).size)) rfl (fw (by have c:=bU (n:=2) dT a.1;rw[c3 ad ad];omega)) ?_;refine zF (h':=aq _ 16 (some (.arr (List.replicate (16*2 ^ j-(m.extract 0 256).size) [AV.v (.int .u8 0)]) 1))) (rfl) (by have c:=bU (n:=2) dT a.1;refine⟨oT,oT,?_⟩;simp[jH];omega) ?_;exact SV (List.replicate (16*2 ^ j-(m.extract 0 256).size) (0:UInt8)) rfl rfl rfl (by show 0+(16*2 ^ j-(m.extract 0 256).size)<=(List.replicate (16*2 ^ j-(m.extract 0 256).size) [AV.v (.int .u8 0)]).length;rw[cM];omega) (KZ _)<|zM (.v (.string (jB m))) (ax (λx=>bz.Z9 _ (.v (.string x))) (Sw m j ad ad a.1 a.2)) (wz (m.extract 0 256) j b a.1)<|fT rfl rfl
 skip
 have b:m.size<=256:=oT;refine ee (κ:=Nat) (λj=>⟨a8 [(0,.v (.string m)),(3,vN (16*2 ^ j))],ap [],5⟩) (λj=>j<=4∧(j=0∨16*2 ^ (j-1)<m.size)) (λj=>4-j) 0 (λs=>s) (av (λs=>s) wT trivial rfl) (⟨dT,.inl rfl⟩) ?_;intro j a;refine rV (vN m.size) rfl<|zW (vB (decide ((16*2 ^ j)<m.size))) (am (bs _ _)) ?_;refine cb ((16*2 ^ j)<m.size) qW (λe=>?_) (λe=>?_)
 ·refine zW (vN (16*2 ^ (j+1))) (by show bz.ok (.v (.int .i64 (IntKind.wrap .i64 (2*((16*2 ^ j:Nat):Int)))))=_;have c:=bU (n:=2) dT a.1;rw[c3 ad ad];congr 3;rw[Nat.pow_succ];omega) ?_;refine⟨j+1,λs=>s,av (λs=>s) wT trivial rfl,⟨Ej b a.1 e,.inr (sU e)⟩,(oH (Ej b a.1 e))⟩
 refine rV (vN m.size) rfl<|rW (vN (16*2 ^ j-m.size)) rfl (fw (by have c:=bU (n:=2) dT a.1;rw[c3 ad ad];omega)) ?_;refine zF (h':=aq _ 13 (some (.arr (List.replicate (16*2 ^ j-m.size) [AV.v (.int .u8 0)]) 1))) (rfl) (by have c:=bU (n:=2) dT a.1;refine⟨oT,oT,?_⟩;simp[jH];omega) ?_;exact SV (List.replicate (16*2 ^ j-m.size) (0:UInt8)) rfl rfl rfl (by show 0+(16*2 ^ j-m.size)<=(List.replicate (16*2 ^ j-m.size) [AV.v (.int .u8 0)]).length;rw[cM];omega) (KZ _)<|zM (.v (.string (jB m))) (ax (λx=>bz.Z9 _ (.v (.string x))) (Vo m j ad ad a.1 a.2)) (wz m j b a.1)<|fT rfl rfl
def Av(size a n)(f:size<=256)(b:a<=4294967295)(c:n<=4):bI C0 23 [vN size,vU a,vN n] (.v (.bool (kZ (size:Int) a (n:Int)))):=by
 refine bk func23 rfl ?_;refine zW _ (am (de _ _))<|az rfl id (am (de _ _))<|zN rfl (λh=>h) ?_;refine az rfl id (am (de _ _))<|zN rfl (λh=>h) ?_;refine cb ((¬n=1∧ ¬n=2)∧ ¬n=4) (uA _ _ (uA _ _ i4 i4) i4) (λe=>?_) (λe=>?_)
 ·exact io rfl (by have d:n=0∨n=1∨n=2∨n=3∨n=4:=ad;rw[bB];rcases d with rfl|rfl|rfl|rfl|rfl<;>simp[c2,kZ]<;>omega)
 refine rW _ rfl (ao (nJ c rfl)) ?_;have g:a%n<=4294967295:=aL (gR _ _) b;refine nW (vU (a%n)) rfl rfl ad<|zW _ (am (a7 _ _))<|az rfl id (am (jb _ _))<|zN rfl (λh=>h)<|fQ rfl id (ao (nJ b rfl))<|az rfl id (ao (nJ c rfl)) ?_;exact fQ rfl cq (ao (nJ (aD b c) rfl))<|az rfl id (ao (nJ f rfl))<|az rfl cq (am (jk _ _))<|zN rfl (λh=>h)<|io rfl (by have d:n=0∨n=1∨n=2∨n=3∨n=4:=ad;rw[bB];rcases d with rfl|rfl|rfl|rfl|rfl<;>simp[c2,kZ]<;>omega)
def Vp{a}{s}(h: ¬ak a=3∨ ¬s.size=be a):hV a s=0:=by
 unfold hV;exact dZ (λe=>h.elim (λq=>q e.1) λq=>q e.2)
def Jo{a}{s}(h: ¬(¬ak a=3∨ ¬s.size=be a)):hV a s=(if a=11 then cp (db s.data.toList s.size) 8 else if a=12 then cp (db s.data.toList s.size) 16 else db s.data.toList s.size):=by
 unfold hV;exact aa ⟨eg λq=>h (.inl q),eg λq=>h (.inr q)⟩
def A6(a)(s):bI C0 27 [vI a,.v (.string s)] (.v (.int .u32 ((hV a s:Nat):Int))):=by
 refine bk func27 rfl ?_;refine a1 rfl (np a)<|zW _ (am (de _ _))<|fQ rfl id rfl<|jQ rfl rfl rfl rfl (λh=>h) rfl rfl rfl (.inl rfl) rfl (λe=>tC a) ?_;refine az rfl cq (am (de _ _))<|zN rfl (by simp) ?_;refine cb (¬(ak a)=3∨ ¬s.size=(be a)) (wP _ _ i4 i4) (λb=>?_) (λb=>?_)
 ·exact fI rfl (by rw[Vp b];rfl)
 refine zC (tl s (oH (lQ a)))<|ck a 11 (λc=>?_) (λc=>?_)
 ·exact zC (Pm _ 8 (uu s (oH (lQ a))) dT dT)<|fI rfl (by rw[Jo b,aa c])
 refine ck a 12 (λd=>?_) (λd=>?_)
 ·exact zC (Pm _ 16 (uu s (oH (lQ a))) dT dT)<|fI rfl (by rw[Jo b,dZ c,aa d])
 exact fI rfl (by rw[Jo b,dZ c,dZ d])
def A7(c)(a b)(f:a<=4294967295)(g:b<=4294967295):bI C0 30 [vI c,vU a,vU b] (.v (.int .i64 ((e4 c a b:Nat):Int))):=by
 refine bk func30 rfl ?_;have d:b9 c a<=4294967295:=aI (pT c a (bG f));have e:b9 c b<=4294967295:=aI (pT c b (bG g));refine zV (vB (decide (c<42)))<|az rfl id rfl<|zN rfl (by simp) ?_;refine cb (c<42∨c>45) (wP _ _ qW qW) (λh=>?_) (λh=>?_)
 ·exact fI rfl (by unfold e4;rw[aa ad];rfl)
 refine zC (Wg c a f)<|zC (Wg c b g) ?_;refine zW _ (am (a7 _ _))<|az rfl cq (am (bs _ _))<|zN rfl (by simp) ?_;refine cb (b=0∨(b9 c a)<(b9 c b)) (wP _ _ bx qW) (λi=>?_) (λi=>?_)
 ·exact fI rfl (by unfold e4;rw[dZ ad,aa ad];rfl)
 refine rW _ rfl (ao (nJ d rfl))<|a1 rfl (tw _ d) ?_;exact zW _ (ao (bH (aD (aC 3) (IM _ (bG d))) rfl))<|rW _ rfl (ao (nJ e rfl))<|a1 rfl (tw _ e)<|zV (vI (IntKind.wrap .i64 (((3+(g2 (b9 c a)):Nat):Int)-((g2 (b9 c b):Nat):Int))))<|fI rfl (by unfold e4;rw[dZ ad,dZ ad];have j:=IM _ (bG d);have k:=Kz (b9 c b) (b9 c a) ad ad ad (oH (yJ c b ad ad));rw[c3 ad ad];omega)
def ul{c}(a b)(h:c=28∨c=19):b0 c a b=(a+b)%4294967296:=by rcases h with rfl|rfl<;>simp[b0]
def Ea{c}(a b)(h:c=29):b0 c a b=(a+4294967296-b)%4294967296:=by subst h;simp[b0]
def um{c}(a b)(h:c=37∨c=24):b0 c a b=a&&&b:=by rcases h with rfl|rfl<;>simp[b0]
def uo{c}(a b)(h:c=36∨c=23):b0 c a b=a ||| b:=by rcases h with rfl|rfl<;>simp[b0]
def uq{c}(a b)(h:c=33∨c=22):b0 c a b=a^^^b:=by rcases h with rfl|rfl<;>simp[b0]
def ur{c}(a b)(h:c=30∨c=25):b0 c a b=a*2 ^ (b%32)%4294967296:=by rcases h with rfl|rfl<;>simp[b0]
def ut{c}(a b)(h:c=34∨c=26):b0 c a b=a/2 ^ (b%32):=by rcases h with rfl|rfl<;>simp[b0]
def tZ{c}(a b)(h:c=35∨c=27):b0 c a b=e_ (bu a/2 ^ (b%32)):=by rcases h with rfl|rfl<;>simp[b0]
def t_{c}(a b)(h:c=31∨c=20):b0 c a b=(if bu a<bu b then 1 else 0):=by rcases h with rfl|rfl<;>simp[b0]
def t'{c}(a b)(h:c=32∨c=21):b0 c a b=(if a<b then 1 else 0):=by rcases h with rfl|rfl<;>simp[b0]
def RZ{c}(a b)(h:c=1):b0 c a b=b:=by subst h;simp[b0]
def sg{c}(a b)(h:∀k∈[28,19,29,37,24,36,23,33,22,30,25,34,26,35,27,31,20,32,21,1],c≠k):b0 c a b=0:=by
 simp[dn,List.not_mem_nil,or_false,forall_eq_or_imp,forall_eq]at h;unfold b0
 (repeat rw[dZ ad])
def R4(d )(a b)(c:a<=4294967295)(e:b<=4294967295):bI C0 53 [vI d,vU a,vU b] (.v (.int .u32 ((b0 d a b:Nat):Int))):=by
 refine bk func53 rfl ?_;refine nW (vU (b%32)) rfl rfl dT<|zW _ (ao (bH (aI (aQ _ dT)) rfl))<|ck d 28 (λk=>?_) (λk=>?_)
 ·refine zT (bx.2 k)<|zW _ (ao (nJ c rfl))<|rW _ rfl (ao (nJ e rfl)) ?_;refine rW _ rfl (ao (nJ (aD c e) rfl)) ?_;exact nW (.v (.int .u64 (((a+b)%4294967296:Nat):Int))) rfl rfl dT<|zW _ (ao (nJ (aI (aQ _ dT)) rfl))<|fN rfl (ul a b ad).symm
 refine ck d 19 (λu=>?_) (λu=>?_)
 ·refine zW _ (ao (nJ c rfl))<|rW _ rfl (ao (nJ e rfl)) ?_;refine rW _ rfl (ao (nJ (aD c e) rfl)) ?_;exact nW (.v (.int .u64 (((a+b)%4294967296:Nat):Int))) rfl rfl dT<|zW _ (ao (nJ (aI (aQ _ dT)) rfl))<|fN rfl (ul a b ad).symm
 refine ck d 29 (λv=>?_) (λv=>?_)
 ·refine rW _ rfl (ao (nJ c rfl)) ?_;refine zW _ (ao (nJ (aD c (aC 4294967296)) rfl))<|rW _ rfl (ao (nJ e rfl)) ?_;have z:((a+4294967296)+18446744073709551616-b)%18446744073709551616<=18446744073709551615:=aI (aQ _ dT);refine rW _ rfl (ao (yn e rfl)) ?_;exact nW (.v (.int .u64 (((((a+4294967296)+18446744073709551616-b)%18446744073709551616)%4294967296:Nat):Int))) rfl rfl dT<|zW _ (ao (nJ (aI (aQ _ dT)) rfl))<|fN rfl (by rw[Ea a b ad];omega)
 refine ck d 37 (λr=>?_) (λr=>?_)
 ·exact zT (bx.2 r)<|zC (Pn 1 a b c e)<|fN rfl ((um a b ad).trans (Oa a b c e).symm).symm
 refine ck d 24 (λw=>?_) (λw=>?_)
 ·exact zC (Pn 1 a b c e)<|fN rfl ((um a b ad).trans (Oa a b c e).symm).symm
 refine ck d 36 (λs=>?_) (λs=>?_)
 ·exact zT (bx.2 s)<|zC (Pn 2 a b c e)<|fN rfl ((uo a b ad).trans (SJ a b c e).symm).symm
 refine ck d 23 (λx=>?_) (λx=>?_)
 ·exact zC (Pn 2 a b c e)<|fN rfl ((uo a b ad).trans (SJ a b c e).symm).symm
 refine ck d 33 (λt=>?_) (λt=>?_)
 ·exact zT (bx.2 t)<|zC (Pn 3 a b c e)<|fN rfl ((uq a b ad).trans (Ob a b c e).symm).symm
 refine ck d 22 (λy=>?_) (λy=>?_)
 ·exact zC (Pn 3 a b c e)<|fN rfl ((uq a b ad).trans (Ob a b c e).symm).symm
 refine ck d 30 (λf=>?_) (λf=>?_)
 ·exact zT (bx.2 f)<|zC (Hg a (((b%32:Nat):Int)) (0) c ad ad ad)<|fN rfl ((ur a b ad).trans (La a (b%32) c ad).symm).symm
 refine ck d 25 (λl=>?_) (λl=>?_)
 ·exact zC (Hg a (((b%32:Nat):Int)) (0) c ad ad ad)<|fN rfl ((ur a b ad).trans (La a (b%32) c ad).symm).symm
 refine ck d 34 (λg=>?_) (λg=>?_)
 ·exact zT (bx.2 g)<|rW _ rfl (fw (by rw[Int.zero_sub];exact c3 ad ad))<|zC (Hg a (-((b%32:Nat):Int)) (0) c ad ad ad)<|fN rfl ((ut a b ad).trans (FD a (b%32) c ad).symm).symm
 refine ck d 26 (λm=>?_) (λm=>?_)
 ·exact rW _ rfl (fw (by rw[Int.zero_sub];exact c3 ad ad))<|zC (Hg a (-((b%32:Nat):Int)) (0) c ad ad ad)<|fN rfl ((ut a b ad).trans (FD a (b%32) c ad).symm).symm
 refine ck d 35 (λh=>?_) (λh=>?_)
 ·exact zT (bx.2 h)<|zW _ (fw (by rw[Int.zero_sub];exact c3 ad ad))<|a1 rfl (Pu a 31 c dT)<|zC (Hg a (-((b%32:Nat):Int)) (a/2 ^ 31%2) c ad ad ad)<|fN rfl ((tZ a b ad).trans (Lb a (b%32) c ad).symm).symm
 refine ck d 27 (λn=>?_) (λn=>?_)
 ·exact zW _ (fw (by rw[Int.zero_sub];exact c3 ad ad))<|a1 rfl (Pu a 31 c dT)<|zC (Hg a (-((b%32:Nat):Int)) (a/2 ^ 31%2) c ad ad ad)<|fN rfl ((tZ a b ad).trans (Lb a (b%32) c ad).symm).symm
 refine ck d 31 (λi=>?_) (λi=>?_)
 ·exact zT (bx.2 i)<|zC (wL a c)<|a1 rfl (wL b e)<|rV (vB (decide ((bu a)<(bu b)))) rfl<|zC (oo _)<|fN rfl (by rw[t_ a b ad];simp[aY])
 refine ck d 20 (λo=>?_) (λo=>?_)
 ·exact zC (wL a c)<|a1 rfl (wL b e)<|rV (vB (decide ((bu a)<(bu b)))) rfl<|zC (oo _)<|fN rfl (by rw[t_ a b ad];simp[aY])
 refine ck d 32 (λj=>?_) (λj=>?_)
 ·exact zT (bx.2 j)<|rW _ rfl (am (bs _ _))<|zC (oo _)<|fN rfl (by rw[t' a b ad];simp[aY])
 refine ck d 21 (λp=>?_) (λp=>?_)
 ·exact rW _ rfl (am (bs _ _))<|zC (oo _)<|fN rfl (by rw[t' a b ad];simp[aY])
 refine ck d 1 (λq=>?_) (λq=>?_)
 ·exact fN rfl (RZ a b ad).symm
 exact fN rfl (sg a b (by simp;omega)).symm
def bP(i:SI)(b:Nat):Nat:=if((i.op=1∨bT i.op=84)∨((bT i.op=73∧ ¬i.op=4)∧ ¬ak i.op=3))then i.x else b
def p6{i}{b}(c:i.x<=4294967295)(a:b<=4294967295):bP i b<=4294967295:=by unfold bP;split<;>assumption
def Wf{i}{b}(h:ak i.op=1∨ak i.op=2):bP i b=b:=by
 unfold bP;refine dZ ?_;have:=oG i.op;have:=dN i.op;omega
def A8(i)(a b):b0 i.op a (bP i b)=b0 i.op a (if UB i.op=true then i.x else b):=by
 by_cases h:((i.op=1∨bT i.op=84)∨((bT i.op=73∧ ¬i.op=4)∧ ¬ak i.op=3))↔UB i.op=true
 ·unfold bP;simp[h]
 have c:i.op=11∨i.op=12∨i.op=13∨i.op=14∨i.op=15:=by
  have d:=oG i.op;have e:=dN i.op;simp[UB,dE,aP,aY]at h;omega
 rw[sg _ _ (by simp;omega),sg _ _ (by simp;omega)]
def rB(i)(b:Nat)(f:i.x<=4294967295)(e:b<=4294967295):bI C0 50 [hK i,.v (.int .u32 (b:Int))] (.v (.int .u32 ((bP i b:Nat):Int))):=by
 refine bk func50 rfl ?_;refine zC (Vs _) ?_;refine zV (vB (i.op==1))<|az rfl id (am (a7 _ _))<|zN rfl (by simp)<|az rfl id (am (a7 _ _))<|zG rfl id<|gS rfl id<|az rfl id rfl<|pB rfl rfl rfl rfl (λh=>h) rfl rfl (λa d=>by first|(rw[a,d];rfl)|simp_all)<|zG rfl id<|gS rfl id ?_;refine jQ rfl rfl rfl rfl (λh=>h) rfl rfl rfl (.inl rfl) rfl (λa=>np _)<|az rfl id (am (de _ _))<|pB rfl rfl rfl rfl (λh=>h) rfl rfl (λa d=>by first|(rw[a,d];rfl)|simp_all)<|zN rfl (by simp) ?_;refine cb ((i.op=1∨(bT i.op)=84)∨(((bT i.op)=73∧ ¬i.op=4)∧ ¬(ak i.op)=3)) (wP _ _ (wP _ _ bx bx) (uA _ _ (uA _ _ bx i4) i4)) (λc=>?_) (λc=>?_)
 ·exact fI rfl (by unfold bP;rw[aa c])
 exact fI rfl (by unfold bP;rw[dZ c])
def AI(i)(pc a b:Nat)(g:i.x<=4294967295)(k:pc<=4294967295)(j:a<=4294967295)(f:b<=4294967295):bI C0 21 [hK i,.v (.int .u32 (pc:Int)),.v (.int .u32 (a:Int)),.v (.int .u32 (b:Int))] (.v (.int .u32 ((BF i.op i.x pc a b:Nat):Int))):=by
 refine bk func21 rfl ?_;refine zC (rB i b g f) ?_;refine a1 rfl (np _)<|zW _ (am (a7 _ _)) ?_;refine dt (ak i.op) 1 (λc=>?_) (λc=>?_)
 ·exact zC (C7 i.op a (bP i b) j (p6 g f))<|fN rfl (by unfold BF;rw[Wf (.inl c),aa c])
 refine a1 rfl (np _)<|zW _ (am (a7 _ _)) ?_;refine dt (ak i.op) 2 (λd=>?_) (λd=>?_)
 ·exact zC (C_ i.op a (bP i b) j (p6 g f))<|fN rfl (by unfold BF;rw[Wf (.inr d),dZ c,aa d])
 refine ck i.op 2 (λe=>?_) (λe=>?_)
 ·skip
  have l:(pc+i.x)%4294967296<=4294967295:=aI (aQ _ dT);exact zV (vU ((pc+i.x)%4294967296))<|fN rfl (by unfold BF;rw[dZ c,dZ d,aa e])
 refine zV (vB (i.op==3))<|gS rfl id<|az rfl id rfl<|zN rfl (by simp) ?_;refine cb (i.op=3∨i.op=4) (wP _ _ bx bx) (λh=>?_) (λh=>?_)
 ·skip
  have m:(pc+4)%4294967296<=4294967295:=aI (aQ _ dT);exact zV (vU ((pc+4)%4294967296))<|fN rfl (by unfold BF;rw[dZ c,dZ d,dZ e,aa h])
 exact zC (R4 i.op a (bP i b) j (p6 g f))<|fN rfl (by unfold BF;rw[A8,dZ c,dZ d,dZ e,dZ h])
def Mp{prog}{pc k x}(h:pc=4*k)(a:prog[k]?=some x):en prog pc=some x:=by
 unfold en;rw[aa ad,(oT:pc/4=k),a]
def Pk{prog}{pc}(h:∀i,i<prog.length->pc≠4*i):en prog pc=none:=by
 refine NC ?_;by_cases a:pc%4=0
 ·exact .inr (Nat.le_of_not_lt λb=>h _ b ad)
 exact .inl a
def D'(o:Option Nat):AV:=.C [.v (.int .u32 ((o.getD 0:Nat):Int)),.v (.bool o.isSome)]
def zw(prog)(pc:Nat)(a)(hp:∀x∈prog,x<=4294967295)(m:prog.length<=1000000)(j:pc<=4294967295):bI C0 16 [.Y 1 (prog.map dU) a,.v (.int .u32 (pc:Int))] (D' (en prog pc)):=by
 refine bk func16 rfl ?_;refine zW _ (ax (λn:Nat=>bz.ok (.v (.int .i64 (n:Int)))) (aH ..))<|ee (κ:=Nat) (λk=>⟨a8 [(0,.Y 1 (prog.map dU) a),(1,.v (.int .u32 (pc:Int))),(4,.v (.int .u32 0)),(5,.v (.bool false)),(8,.Y 1 (prog.map dU) a),(9,.v (.int .i64 ((prog.length:Nat):Int))),(10,.v (.int .i64 (k:Int)))],ap [],5⟩) (λk=>k<=prog.length∧∀i,i<k->pc≠4*i) (λk=>prog.length-k) 0 (λs=>s) (av (λs=>s) wT trivial rfl) (⟨aE _,λi h=>absurd h (dG i)⟩) ?_;intro k f;have c:k<=1000000:=aL f.1 m;refine b7 (am (bs _ _)) (λb=>?_) (λb=>?_)
 ·skip
  obtain⟨x,g⟩:∃x,prog[k]?=some x:=⟨_,aA (a6 b)⟩;have o:=hp x (aB g);refine zX (dU x) (.dp 1 0 (dU x)) rfl (by rw[Int.toNat_natCast,aX,g];rfl) ?_;refine zW _ (ao (nJ j rfl))<|rW _ rfl (ao (nJ c rfl)) ?_;refine rW _ rfl (ao (nJ (cJ (aC 4) c) rfl))<|b7 (am (a7 _ _)) (λd=>?_) (λd=>?_)
  ·exact fT rfl (by rw[Mp (sU d) g];rfl)
  skip
  refine zW _ (ao (bH (aD c (aC 1)) rfl)) ?_;refine⟨k+1,λs=>s,av (λs=>s) wT trivial rfl,⟨a6 b,λi l=>if e:i=k then e ▸ (sU d)else f.2 i ad⟩,by have:=a6 b;show prog.length-(k+1)<prog.length-k;omega⟩
 exact fT rfl (by rw[Pk (λi l=>f.2 i (oH (aF b)))];rfl)
def A5(m)(a n:Nat)(d:a+n<=m.size)(b:a<=4294967295)(c:n<=4):bI C0 28 [.v (.string m),.v (.int .u32 (a:Int)),.v (.int .i64 (n:Int))] (.v (.string (Cv m a n))):=by
 refine bk func28 rfl ?_;exact zW _ (ao (bH b rfl))<|zW _ (ao (bH b rfl))<|rW _ rfl (ao (c3 ad ad))<|zM (.v (.string (Cv m a n))) rfl (⟨aG _,by show(a:Int)<=((a+n:Nat):Int);omega,by show((a+n:Nat):Int)<=((m.size:Nat):Int);omega⟩)<|qY rfl trivial rfl rfl
def Sg{r}(h:∀k,r k<=4294967295){v}(a:v<=4294967295)(n):∀k,iw r n v k<=4294967295:=by
 intro k;unfold iw;split
 ·exact a
 exact h k
def Ml{m}{a}{b}(h:a+b.size<=m.size):(DD m a b).size=m.size:=by
 show(DD m a b).data.size=m.data.size;have h':a+b.data.size<=m.data.size:=h;simp only[DD,kP,aU,aM,bD,cV];show min a m.data.size+b.data.size+(m.data.size-(a+b.data.size))=m.data.size;omega
def Bb{s:St}(h:s.ok)(b:Int)(a:Nat):(Gc s b a).1.ok:=⟨h.L,h.r,h.mem⟩
def Sh{s}(h:s.ok){i}{a b d}{tk}(g:i.x<=4294967295)(e:a<=4294967295)(f:b<=4294967295)(c:d<=4294967295):(IJ s i a b d tk).1.ok:=by
 unfold IJ;split
 ·exact⟨c,h.r,h.mem⟩
 exact⟨c,Sg h.r (aI (Rp i.op i.x s.L a b (bG g) (bG e) (bG f))) _,h.mem⟩
def Vh{prog}{s}(h:s.ok):(gE prog s).1.ok:=by
 unfold gE;split
 ·split
  ·split
   ·exact Bb h _ _
   have a:(rA prog s).x<=4294967295:=aI (IK (bi prog s.L)).2.2.2.2.2.2;unfold gh;split
   ·exact Bb h _ _
   split
   ·exact Bb h _ _
   split
   ·unfold sN;split
    ·rename_i b;split
     ·exact⟨uT _,h.r,by rw[Ml (by rw[mP];exact (sQ b).1)];exact h.mem⟩
     split
     ·exact⟨uT _,h.r,h.mem⟩
     exact⟨uT _,Sg h.r (MT _ _) _,h.mem⟩
    exact Bb h _ _
   unfold oN;split
   ·split
    ·exact Sh h a (h.r _) (h.r _) (aI (Ed _ _ _ _ _))
    exact Bb h _ _
   exact Sh h a (h.r _) (h.r _) (uT _)
  exact Bb h _ _
 exact h
def Wc{ev:Operand->AV}{h:AH}{s b n v:Nat}{a x:Operand}{pc:Nat}{r:Nat->Nat}{m:ByteArray}{c:Int}(d:ev a=.ptr b (1+n*1))(e:h b=some (.box (gx pc r m c)))(g:ev x=vU v)(f:n<32):
  bh C1 ev h s (.store 28 a x)=.fx True .any (aq h b (some (.box (gx pc (iw r n v) m c)))):=R7 (s:=s) d e g f
def jm(prog:List Nat)(s:St):Nat->St
 |0=>s
 |k+1=>(gE prog (jm prog s k)).1
theorem Si{prog:List Nat}{s:St}(h:s.ok):∀k,(jm prog s k).ok
 |0=>h
 |k+1=>Vh (Si h k)
theorem Sj(prog:List Nat)(s:St):∀k,jm prog (gE prog s).1 k=jm prog s (k+1)
 |0=>rfl
 |k+1=>ax (λz=>(gE prog z).1) (Sj prog s k)
def kf(prog:List Nat)(s:St)(k:Nat):List (St×Sp):=(List.range k).map λi=>gE prog (jm prog s i)
def KW(prog:List Nat)(s:St)(k:Nat):kf prog s k++[gE prog (jm prog s k)]=kf prog s (k+1):=by
 unfold kf;rw[gZ,dH];rfl
def uw(prog:List Nat)(s:St)(k:Nat):(kf prog s k).length=k:=by unfold kf;rw[aH,fV]
def ed(prog:List Nat):Nat->St->Nat
 |0,_=>0
 |n+1,s=>if s.halt=0 then ed prog n (gE prog s).1+1 else 0
theorem AB(prog:List Nat):∀n s,ed prog n s<=n
 |0,_=>aC 0
 |n+1,s=>by
  have:=AB prog n (gE prog s).1;unfold ed;split<;>omega
theorem Hd{prog:List Nat}:∀{n:Nat} {s:St} {k:Nat},k<ed prog n s->(jm prog s k).halt=0
 |0,s,k,h=>absurd h (dG k)
 | n+1,s,k,h=>by
  unfold ed at h;split at h
  ·rename_i a
   cases k with
   |zero=>exact a
   |succ k=>rw[<-Sj];exact Hd (n:=n) ad
  ·omega
theorem Dj{prog:List Nat}:∀{n:Nat} {s:St},ed prog n s<n->(jm prog s (ed prog n s)).halt≠0
 |0,s,h=>absurd h (dG _)
 | n+1,s,h=>by
  unfold ed at h⊢;split at h
  ·rename_i a;rw[aa a, <-Sj];exact Dj ad
  ·rename_i a;rw[dZ a];exact a
def ou(s:St)(l:List (St×Sp)):St:=(l.getLast?.map (·.1)).getD s
def NT(s:St)(l:List (St×Sp))(x:St×Sp):ou s (l++[x])=x.1:=by unfold ou;rw[List.getLast?_concat];rfl
def Jj(prog:List Nat)(s:St)(k:Nat):ou s (kf prog s k)=jm prog s k:=by
 cases k with
 |zero=>rfl
 |succ k=>rw[<-KW,NT];rfl
def g3(m:ByteArray):St:=⟨0,λ_=>0,jB m,0⟩
def Jk(m:ByteArray):(g3 m).ok:=⟨aE _,λ_=>aE _,by show(jB m).size<=256;rw[wE];exact(RA _)⟩
def BK(s)(b)(a:Nat)(d:s.ok)(c:a<=4294967295):bI C0 17 [lw s,.v (.int .i64 b),.v (.int .u32 (a:Int))] (jn (Gc s b a)):=by
 refine ey func17 rfl ?_;exact pO rfl rfl<|oR 7 rfl<|rV (.agg [.v (.int .u32 ((s.L:Nat):Int)),.v (.int .u32 ((s.L:Nat):Int)),.v (.int .i64 0),.v (.int .u32 0),.v (.int .u32 (a:Int)),.v (.int .i64 0),.v (.bool false),.v (.int .i64 b),.v (.int .i64 0)]) rfl<|bc rfl<|bc rfl<|rE 19<|And.intro (by kernel_rfl)<|c1 0 rfl<|fT rfl rfl
def sR{x:Nat}(h: ¬¬hG x=0): ¬dw x=0:=λq=>h (by unfold hG;rw[aa q];decide)
def tj(prog)(s)(v)(hp:∀x∈prog,x<=4294967295)(J:prog.length<=1000000)(l:s.ok):bI C0 10 [.Y 1 (prog.map dU) v,lw s] (jn (gE prog s)):=by
 refine dJ func10 ?_;have w:=Ei (bi prog s.L) (bG (KE hp s.L));have o:=IK (bi prog s.L);have K:=ta (bi prog s.L);obtain⟨i,hI⟩:∃i,bn (bi prog s.L)=i:=⟨_,rfl⟩;have c:rA prog s=i:=hI;rw[hI]at w o K;replace o:0<=i.rd∧i.rd<32∧0<=i.j∧i.j<32∧0<=i.u∧i.u<32∧i.x<=4294967295:=⟨o.1,o.2.1,o.2.2.1,o.2.2.2.1,o.2.2.2.2.1,o.2.2.2.2.2.1,aI o.2.2.2.2.2.2⟩;obtain⟨a,j⟩:∃a,s.r i.j.toNat=a:=⟨_,rfl⟩;obtain⟨b,k⟩:∃b,s.r i.u.toNat=b:=⟨_,rfl⟩;have C:a<=4294967295:=j ▸ l.r _;have y:b<=4294967295:=k ▸ l.r _;have L:qP i.op i.x s.L a b<=4294967295:=aI (Ed _ _ _ _ _);refine qS 0 rfl<|rV (.v (.bool (s.halt != 0))) rfl ?_;refine c_ 0 rfl<|jv (¬s.halt=0) i4 (λd=>?_) (λd=>?_)
 ·exact qC 0 rfl<|rV (.agg [.v (.int .u32 0),.v (.int .u32 0),.v (.int .i64 0),.v (.int .u32 0),.v (.int .u32 0),.v (.int .i64 0),.v (.bool false),.v (.int .i64 0),.v (.int .i64 0)]) rfl<|cN 0 rfl<|fT rfl (by unfold gE;rw[dZ d];rfl)
 refine qC 0 rfl<|a1 rfl (zw prog s.L v hp J l.L) ?_;refine c_ 0 rfl<|jv (¬(((en prog s.L).isSome)=true)) (tX Iff.rfl) (λe=>?_) (λe=>?_)
 ·exact qC 0 rfl<|a1 rfl (BK s (1) (0) l dT)<|cN 0 rfl<|fT rfl (by unfold gE;rw[aa (b'.1 d),dZ e];rfl)
 refine qC 0 rfl<|a1 rfl (w)<|qR 0 rfl<|rW (.v (.bool ((hG (bi prog s.L)) != 0))) rfl (am (de _ _)) ?_;refine c_ 0 rfl<|jv (¬(hG (bi prog s.L))=0) i4 (λf=>?_) (λf=>?_)
 ·exact qC 0 rfl<|a1 rfl (BK s (2) (0) l dT)<|cN 0 rfl<|fT rfl (by unfold gE;rw[aa (b'.1 d),aa (b'.1 e),aa (eg λq=>f (by unfold hG;rw[dZ q]))];rfl)
 refine qC 0 rfl<|rV (.v (.bool (i.op==47))) rfl ?_;refine c_ 0 rfl<|ka i.op 47 (λg=>?_) (λg=>?_)
 ·exact qC 0 rfl<|a1 rfl (BK s (6) (0) l dT)<|cN 0 rfl<|fT rfl (by unfold gE;rw[aa (b'.1 d),aa (b'.1 e),dZ (sR f),c];unfold gh;rw[aa g];rfl)
 refine qC 0 rfl<|rV (.v (.bool (i.op==48))) rfl ?_;refine c_ 0 rfl<|ka i.op 48 (λh=>?_) (λh=>?_)
 ·exact qC 0 rfl<|a1 rfl (BK s (7) (0) l dT)<|cN 0 rfl<|fT rfl (by unfold gE;rw[aa (b'.1 d),aa (b'.1 e),dZ (sR f),c];unfold gh;rw[dZ g,aa h];rfl)
 refine qC 0 rfl<|nW (.ptr 0 (1+(i.j).toNat*1)) rfl rfl ad<|rW (.v (.int .u32 (a:Int))) rfl ((x9 _ _ _ _ _ ad).trans (by rw[j]))<|qR 0 rfl<|nW (.ptr 0 (1+(i.u).toNat*1)) rfl rfl ad<|rW (.v (.int .u32 (b:Int))) rfl ((x9 _ _ _ _ _ ad).trans (by rw[k])) ?_;refine qR 0 rfl<|a1 rfl (np i.op)<|c_ 0 rfl<|a'<|oR 4 rfl<|rV (.v (.int .u32 ((b8 s.L:Nat):Int))) rfl<|oR 1 rfl<|a1 rfl (yy i)<|rV (.agg [.v (.int .u32 ((s.L:Nat):Int)),.v (.int .u32 ((b8 s.L:Nat):Int)),.v (.int .i64 (wr i)),.v (.int .u32 0),.v (.int .u32 0),.v (.int .i64 0),.v (.bool false),.v (.int .i64 0),.v (.int .i64 0)]) rfl<|e5 57 rfl rfl<|bc rfl<|rE 59 ?_;refine qX 0 rfl<|a1 rfl (AI i s.L a b o.2.2.2.2.2.2 l.L C y)<|qR 0 rfl<|rW (.v (.bool ((ak i.op)==3))) rfl (am (a7 _ _)) ?_;refine qR 0 rfl<|az rfl id (am (a7 _ _))<|bO rfl rfl rfl (by simp) ?_;refine c_ 0 rfl<|jv ((ak i.op)=3∨(ak i.op)=4) (wP _ _ bx bx) (λm=>?_) (λm=>?_)
 ·refine qC 0 rfl<|rV (.v (.int .u32 ((gy i a:Nat):Int))) rfl<|qR 0 rfl<|a1 rfl (tC i.op) ?_;refine qR 0 rfl<|rV (.v (.int .i64 (s.mem.size:Int))) rfl<|qR 0 rfl<|a1 rfl (Av s.mem.size (gy i a) (be i.op) l.mem (Ay i a) (lQ i.op)) ?_;refine c_ 0 rfl<|jv (¬((kZ (s.mem.size:Int) (gy i a) ((be i.op:Nat):Int))=true)) (tX Iff.rfl) (λr=>?_) (λr=>?_)
  ·refine qC 0 rfl<|rW (.v (.bool ((ak i.op)==3))) rfl (am (a7 _ _)) ?_;refine c_ 0 rfl<|ka (ak i.op) 3 (λI=>?_) (λI=>?_)
   ·exact qC 0 rfl<|a1 rfl (BK s (4) ((gy i a)) l (Ay i a))<|cN 0 rfl<|fT rfl (by unfold gE;rw[aa (b'.1 d),aa (b'.1 e),dZ (sR f),c];unfold gh;rw[dZ g,dZ h,aa m,j,k];unfold sN;rw[dZ r,dZ ad];rfl)
   exact qC 0 rfl<|a1 rfl (BK s (5) ((gy i a)) l (Ay i a))<|cN 0 rfl<|fT rfl (by unfold gE;rw[aa (b'.1 d),aa (b'.1 e),dZ (sR f),c];unfold gh;rw[dZ g,dZ h,aa m,j,k];unfold sN;rw[dZ r,aa ad];rfl)
  refine qC 0 rfl<|rW (.v (.bool ((ak i.op)==4))) rfl (am (a7 _ _)) ?_;refine c_ 0 rfl<|ka (ak i.op) 4 (λt=>?_) (λt=>?_)
  ·refine qC 0 rfl<|a1 rfl (AT b (be i.op) y (lQ i.op)) ?_;have H:=sQ (sU r);refine qR 0 rfl<|a1 rfl (Ac s.mem (gy i a) (oF b (be i.op)) (by rw[mP];exact H.1) l.mem (Ay i a) (by rw[mP];exact lQ i.op)) ?_;refine qR 0 rfl<|a1 rfl (tl _ (by rw[mP];exact lQ i.op))<|c_ 0 rfl<|pO rfl rfl ?_;exact oR 2 rfl<|bc rfl<|bc rfl<|rE 133<|And.intro (by kernel_rfl)<|c1 0 rfl<|fT rfl (by unfold gE;rw[aa (b'.1 d),aa (b'.1 e),dZ (sR f),c];unfold gh;rw[dZ g,dZ h,aa m,j,k];unfold sN;rw[aa (b'.1 r),aa t];rw[show(ak i.op==4)=true from pU.2 t];rfl)
  refine kc 0 rfl<|a'<|oR 3 rfl ?_;refine oR 5 rfl<|a1 rfl (A5 s.mem (gy i a) (be i.op) (sQ (sU r)).1 (Ay i a) (lQ i.op))<|a1 rfl (A6 i.op _)<|oR 1 rfl<|rE 108<|qX 0 rfl<|rW (.v (.bool ((ak i.op)==5))) rfl (am (a7 _ _)) ?_;refine c_ 0 rfl<|ka (ak i.op) 5 (λz=>absurd z (oH (oG i.op))) (λz=>?_);refine qC 0 rfl<|rW (.v (.bool ((ak i.op)==2))) rfl (am (a7 _ _)) ?_;refine c_ 0 rfl<|ka (ak i.op) 2 (λA=>absurd A (oH (oG i.op))) (λA=>?_);refine qC 0 rfl<|rV (.v (.bool (decide ((wr i)>0)))) rfl ?_;refine c_ 0 rfl<|jv ((wr i)>0) qW (λD=>?_) (λD=>?_)
  ·refine qC 0 rfl<|nW (.ptr 67 (1+(wr i).toNat*1)) rfl rfl ad<|Ow rfl rfl (Wc rfl rfl rfl ad) (trivial) ?_;exact c_ 0 rfl<|pO rfl rfl<|oR 2 rfl<|bc rfl<|bc rfl<|rE 132<|And.intro (by kernel_rfl)<|c1 0 rfl<|fT rfl (by unfold gE;rw[aa (b'.1 d),aa (b'.1 e),dZ (sR f),c];unfold gh;rw[dZ g,dZ h,aa m,j,k];unfold sN;rw[aa (b'.1 r),dZ t,dZ ad];rw[show(ak i.op==4)=false from beq_false_of_ne t];rfl)
  exact kc 0 rfl<|pO rfl rfl<|oR 2 rfl<|bc rfl<|bc rfl<|rE 123<|And.intro (by kernel_rfl)<|c1 0 rfl<|fT rfl (by unfold gE;rw[aa (b'.1 d),aa (b'.1 e),dZ (sR f),c];unfold gh;rw[dZ g,dZ h,aa m,j,k];unfold sN;rw[aa (b'.1 r),dZ t,aa ad];rw[show(ak i.op==4)=false from beq_false_of_ne t];rfl)
 refine qC 0 rfl<|rW (.v (.bool ((ak i.op)==5))) rfl (am (a7 _ _)) ?_;refine c_ 0 rfl<|ka (ak i.op) 5 (λn=>?_) (λn=>?_)
 ·refine qC 0 rfl<|a1 rfl (CJ i s.L a b o.2.2.2.2.2.2 l.L C y) ?_;have M:(qP i.op i.x s.L a b)%4<=3:=aI (aQ _ dT);refine qR 0 rfl<|nW (.v (.int .u32 (((qP i.op i.x s.L a b)%4:Nat):Int))) rfl rfl dT<|rW (.v (.bool (((qP i.op i.x s.L a b)%4) != 0))) rfl (am (de _ _)) ?_;refine c_ 0 rfl<|jv (¬((qP i.op i.x s.L a b)%4)=0) i4 (λu=>?_) (λu=>?_)
  ·exact qC 0 rfl<|a1 rfl (BK s (3) (0) l dT)<|cN 0 rfl<|fT rfl (by unfold gE;rw[aa (b'.1 d),aa (b'.1 e),dZ (sR f),c];unfold gh;rw[dZ g,dZ h,dZ m,j,k];unfold oN IJ;rw[aa n,dZ u];rfl)
  refine qC 0 rfl<|rW (.v (.bool ((ak i.op)==2))) rfl (am (a7 _ _)) ?_;refine c_ 0 rfl<|ka (ak i.op) 2 (λB=>absurd B (oH (oG i.op))) (λB=>?_);refine qC 0 rfl<|rV (.v (.bool (decide ((wr i)>0)))) rfl ?_;refine c_ 0 rfl<|jv ((wr i)>0) qW (λE=>?_) (λE=>?_)
  ·refine qC 0 rfl<|nW (.ptr 67 (1+(wr i).toNat*1)) rfl rfl ad<|Ow rfl rfl (Wc rfl rfl rfl ad) (trivial) ?_;exact c_ 0 rfl<|pO rfl rfl<|oR 2 rfl<|bc rfl<|bc rfl<|rE 111<|And.intro (by kernel_rfl)<|c1 0 rfl<|fT rfl (by unfold gE;rw[aa (b'.1 d),aa (b'.1 e),dZ (sR f),c];unfold gh;rw[dZ g,dZ h,dZ m,j,k];unfold oN IJ;rw[aa n,aa (b'.1 u),dZ ad];rfl)
  exact kc 0 rfl<|pO rfl rfl<|oR 2 rfl<|bc rfl<|bc rfl<|rE 102<|And.intro (by kernel_rfl)<|c1 0 rfl<|fT rfl (by unfold gE;rw[aa (b'.1 d),aa (b'.1 e),dZ (sR f),c];unfold gh;rw[dZ g,dZ h,dZ m,j,k];unfold oN IJ;rw[aa n,aa (b'.1 u),aa ad];rfl)
 refine qC 0 rfl<|rW (.v (.bool ((ak i.op)==2))) rfl (am (a7 _ _)) ?_;refine c_ 0 rfl<|ka (ak i.op) 2 (λp=>?_) (λp=>?_)
 ·refine qC 0 rfl<|a1 rfl (A7 i.op a b C y)<|qR 0 rfl<|rV (.v (.bool (decide ((wr i)>0)))) rfl ?_;refine c_ 0 rfl<|jv ((wr i)>0) qW (λF=>?_) (λF=>?_)
  ·refine qC 0 rfl<|nW (.ptr 67 (1+(wr i).toNat*1)) rfl rfl ad<|Ow rfl rfl (Wc rfl rfl rfl ad) (trivial) ?_;exact c_ 0 rfl<|pO rfl rfl<|oR 2 rfl<|bc rfl<|bc rfl<|rE 106<|And.intro (by kernel_rfl)<|c1 0 rfl<|fT rfl (by unfold gE;rw[aa (b'.1 d),aa (b'.1 e),dZ (sR f),c];unfold gh;rw[dZ g,dZ h,dZ m,j,k];unfold oN IJ;rw[dZ n,dZ ad,aa p];rfl)
  exact kc 0 rfl<|pO rfl rfl<|oR 2 rfl<|bc rfl<|bc rfl<|rE 97<|And.intro (by kernel_rfl)<|c1 0 rfl<|fT rfl (by unfold gE;rw[aa (b'.1 d),aa (b'.1 e),dZ (sR f),c];unfold gh;rw[dZ g,dZ h,dZ m,j,k];unfold oN IJ;rw[dZ n,aa ad,aa p];rfl)
 refine qC 0 rfl<|rV (.v (.bool (decide ((wr i)>0)))) rfl ?_;refine c_ 0 rfl<|jv ((wr i)>0) qW (λG=>?_) (λG=>?_)
 ·refine qC 0 rfl<|nW (.ptr 67 (1+(wr i).toNat*1)) rfl rfl ad<|Ow rfl rfl (Wc rfl rfl rfl ad) (trivial) ?_;exact c_ 0 rfl<|pO rfl rfl<|oR 2 rfl<|bc rfl<|bc rfl<|rE 99<|And.intro (by kernel_rfl)<|c1 0 rfl<|fT rfl (by unfold gE;rw[aa (b'.1 d),aa (b'.1 e),dZ (sR f),c];unfold gh;rw[dZ g,dZ h,dZ m,j,k];unfold oN IJ;rw[dZ n,dZ ad,dZ p];rfl)
 exact kc 0 rfl<|pO rfl rfl<|oR 2 rfl<|bc rfl<|bc rfl<|rE 90<|And.intro (by kernel_rfl)<|c1 0 rfl<|fT rfl (by unfold gE;rw[aa (b'.1 d),aa (b'.1 e),dZ (sR f),c];unfold gh;rw[dZ g,dZ h,dZ m,j,k];unfold oN IJ;rw[dZ n,aa ad,dZ p];rfl)
abbrev lC(x:St×Sp):List AV:=bj x.2
def tf{prog:List Nat}{s:St}{k:Nat}(h:(jm prog s (ed prog k s)).halt=0):ed prog (k+1) s=ed prog k s+1:=by
 have a:=AB prog k s;have b:=AB prog (k+1) s;have c:ed prog k s=k:=eg λq=>Dj ad h;refine eg λq=>Dj (prog:=prog) (n:=k+1) (s:=s) ad ?_;rcases fm (ed prog (k+1) s) (ed prog k s)with l|l
 ·exact Hd l
 rw[(oT:ed prog (k+1) s=ed prog k s)];exact h
def tg{prog:List Nat}{s:St}{k:Nat}(h: ¬(jm prog s (ed prog k s)).halt=0):ed prog (k+1) s=ed prog k s:=by
 have a:=AB prog k s;rcases Nat.lt_trichotomy (ed prog (k+1) s) (ed prog k s)with l|l|l
 ·exact absurd (Hd l) (Dj ad)
 ·exact l
 exact absurd (Hd l) h
def qL(prog:List Nat)(s:St)(k:Nat):List (List AV):=((kf prog s (ed prog k s)).map Prod.snd).map bj
def cn(prog:List Nat)(s:St)(k:Nat):St:=jm prog s (ed prog k s)
def Jn{prog:List Nat}{s:St}{k:Nat}(h:(cn prog s k).halt=0):qL prog s (k+1)=qL prog s k++[lC (gE prog (cn prog s k))]:=by
 unfold qL;rw[tf h, <-KW,dH,dH];rfl
def Sr{prog:List Nat}{s:St}{k:Nat}(h:(cn prog s k).halt=0):cn prog s (k+1)=(gE prog (cn prog s k)).1:=by
 unfold cn;rw[tf h];rfl
def Ss{prog:List Nat}{s:St}{k:Nat}(h: ¬(cn prog s k).halt=0):qL prog s (k+1)=qL prog s k:=by
 unfold qL;rw[tg h]
def Yo{prog:List Nat}{s:St}{k:Nat}(h: ¬(cn prog s k).halt=0):cn prog s (k+1)=cn prog s k:=by
 unfold cn;rw[tg h]
def th{prog:List Nat}{s:St}(k:Nat)(h:s.ok):(cn prog s k).ok:=Si h _
def zv(prog:List Nat)(s:St)(k:Nat):(qL prog s k).length<=k:=by
 unfold qL;rw[aH,aH,uw];exact AB prog k s
def NV(prog:List Nat)(s:St)(k:Nat):(List.take (qL prog s k).length (List.drop 0 (qL prog s k)))=qL prog s k:=by rw[bS,cH]
def Yp{S:Nat->Prop}{w:World}{v:Value}(h:au S w cr (.Y 9 [] true) v):au S w cr (.Y 9 [] false) v:=by
 cases h with
 |Y _ _ _ A c b o u f g k a e j d i=>exact .Y 9 [] false A c b o u f g (λh=>by cases h) a e j d i
def Yq{S:Nat->Prop}{w:World}{v:Value}{x:AV}(h:au S w cr (.C [x,.Y 9 [] true]) v):au S w cr (.C [x,.Y 9 [] false]) v:=by
 cases h with
 |C _ c b h=>
  refine .C _ c b λi a u p q=>?_
  match i,p with
  |0,p=>exact h 0 a u p q
  |1,p=>injection p with p;subst p;exact Yp (h 1 _ u rfl q)
  |i+2,p=>simp at p
def FB{a b:Bool}(h:cE a b false=true):a=true∧b=true:=by cases a<;>cases b<;>simp_all[cE]
def Hf{p q:Prop}[Decidable p][Decidable q](h:cE (decide p) (decide q) false=false): ¬p∨ ¬q:=by by_cases hp:p<;>by_cases a:q<;>simp_all[cE]
def D_(prog:List Nat)(m:ByteArray)(n:Int)(a:Bool)(hp:∀x∈prog,x<=4294967295)(j:prog.length<=1000000):bI C0 8 [.Y 1 (prog.map dU) a,.v (.string m),.v (.int .i64 n)] (.C [lw (ou (g3 m) (kf prog (g3 m) (ed prog (min n 10000).toNat (g3 m)))),.Y 9 (((kf prog (g3 m) (ed prog (min n 10000).toNat (g3 m))).map Prod.snd).map bj) false]):=by
 rw[Jj];change bI C0 _ _ (.C [lw (cn prog (g3 m) (min n 10000).toNat),.Y 9 (qL prog (g3 m) (min n 10000).toNat) false]);refine dI func8 ?_;obtain⟨Z,d⟩:∃z,g3 m=z:=⟨_,rfl⟩;have hZ:Z.ok:=d ▸ Jk m;have c:(cn prog Z 0).halt=0:=by rw[<-d];rfl
 rw[d];refine qS 0 rfl<|a1 rfl (Ak m)<|zV (.agg (gx 0 (λ_=>0) (jB m) 0))<|zV (.Y 9 ([]) true) ?_;refine jR (κ:=Nat) (λk=>match k with|0=>⟨a8 [(0,.Y 1 (prog.map dU) a),(2,.v (.int .i64 n)),(8,.ptr 5 0),(6,.ptr 0 0),(9,.Y 9 ([]) true),(10,.v (.int .i64 ((0:Nat):Int)))],ap [(5,.box (gx ((cn prog Z 0).L) ((cn prog Z 0).r) ((cn prog Z 0).mem) ((cn prog Z 0).halt))),(0,.box (gx 0 (λ_=>0) (⟨#[]⟩:ByteArray) 0))],10⟩|k+1=>⟨a8 [(0,.Y 1 (prog.map dU) a),(2,.v (.int .i64 n)),(8,.ptr 5 0),(6,.ptr 0 0),(9,.S 10 0 ((qL prog Z (k+1)).length) false),(10,.v (.int .i64 (((k+1):Nat):Int)))],ap [(5,.box (gx ((cn prog Z (k+1)).L) ((cn prog Z (k+1)).r) ((cn prog Z (k+1)).mem) ((cn prog Z (k+1)).halt))),(0,.box (gx 0 (λ_=>0) (⟨#[]⟩:ByteArray) 0)),(10,.arr (qL prog Z (k+1)) 9)],11⟩) (λk=>k<=10000∧(k=0∨(k:Int)<=n)) (λk=>10000-k) 0 (λs=>s) (av (λs=>s) wT ⟨⟨rfl,ax (λs:St=>some (ba.box (gx s.L s.r s.mem s.halt))) d,rfl⟩,⟨rfl,rfl,rfl⟩,trivial⟩ rfl) (⟨aE _,.inl rfl⟩) ?_;intro k i;rcases k with _|k
 ·refine qS 0 rfl<|zV (.v (.bool (decide (((0:Nat):Int)<n))))<|az (x:=.v (.bool (decide (0<10000)))) rfl id (am (bs _ _))<|zN rfl (λh=>h) ?_;refine zB rfl (λe=>?_) (λe=>?_)
  ·refine zV (.v (.bool (((cn prog Z 0).halt)==0))) ?_;refine zB rfl (λ_=>?_) (λl=>by exact absurd c (sU l));refine zC (tj prog (cn prog Z 0) a hp j (th 0 hZ)) ?_;refine rV (.Y 9 ([[.v (.int .u32 ((((gE prog (cn prog Z 0)).2).L:Nat):Int)),.v (.int .u32 ((((gE prog (cn prog Z 0)).2).next:Nat):Int)),.v (.int .i64 (((gE prog (cn prog Z 0)).2).rd)),.v (.int .u32 ((((gE prog (cn prog Z 0)).2).value:Nat):Int)),.v (.int .u32 ((((gE prog (cn prog Z 0)).2).V:Nat):Int)),.v (.int .i64 (((gE prog (cn prog Z 0)).2).size)),.v (.bool (((gE prog (cn prog Z 0)).2).store)),.v (.int .i64 (((gE prog (cn prog Z 0)).2).halt)),.v (.int .i64 (((gE prog (cn prog Z 0)).2).ZW))]]) true) rfl<|zF (x:=.S 35 0 1 false) (h':=aq _ 35 (some (.arr ([lC (gE prog (cn prog Z 0))]) 9))) (rfl) (⟨by show 1<=1000000;decide,Nat.zero_lt_one,trivial,trivial⟩)<|zV (.v (.int .i64 (IntKind.wrap .i64 (((0:Nat):Int)+1)))) ?_;have q:=FB e;have p:=a6 q.1;have r:=a6 q.2;refine⟨0+1,λs=>match s with|10=>35|s=>s,av _ ⟨⟨rfl,rfl⟩,⟨rfl,rfl⟩,⟨rfl,rfl⟩,⟨rfl,rfl⟩,⟨ax (λz=>AV.S 35 0 z false) (show 1=(qL prog Z (0+1)).length from by rw[Jn c];rfl),rfl⟩,⟨ax (λz:Int=>AV.v (.int .i64 z)) (show IntKind.wrap .i64 (((0:Nat):Int)+1)=((0+1:Nat):Int)from by rw[c3 ad ad];omega),rfl⟩,trivial⟩ ⟨⟨rfl,ax (λs:St=>some (ba.box (gx s.L s.r s.mem s.halt))) (Sr c).symm,rfl⟩,⟨rfl,rfl,rfl⟩,⟨rfl,ax (λz=>some (ba.arr z 9)) (show [lC (gE prog (cn prog Z 0))]=qL prog Z (0+1)from by rw[Jn c];rfl),rfl⟩,trivial⟩ rfl,ad,(by show(10000-(0+1):Nat)<10000-0;omega)⟩
  refine c1 0 rfl ?_;have g:(min n 10000).toNat=0:=by have q:=Hf e;have:=i;omega
  refine⟨_,rfl,trivial,rfl,λS w v o=>?_⟩;rw[g];exact Yq o
 refine qS 0 rfl<|zV (.v (.bool (decide ((((k+1):Nat):Int)<n))))<|az (x:=.v (.bool (decide ((k+1)<10000)))) rfl id (am (bs _ _))<|zN rfl (λh=>h) ?_;refine zB rfl (λf=>?_) (λf=>?_)
 ·refine zV (.v (.bool (((cn prog Z (k+1)).halt)==0))) ?_;refine zB rfl (λb=>?_) (λb=>?_)
  all_goals
   first|(refine zC (tj prog (cn prog Z (k+1)) a hp j (th (k+1) hZ)) ?_;refine rV (.Y 9 ([[.v (.int .u32 ((((gE prog (cn prog Z (k+1))).2).L:Nat):Int)),.v (.int .u32 ((((gE prog (cn prog Z (k+1))).2).next:Nat):Int)),.v (.int .i64 (((gE prog (cn prog Z (k+1))).2).rd)),.v (.int .u32 ((((gE prog (cn prog Z (k+1))).2).value:Nat):Int)),.v (.int .u32 ((((gE prog (cn prog Z (k+1))).2).V:Nat):Int)),.v (.int .i64 (((gE prog (cn prog Z (k+1))).2).size)),.v (.bool (((gE prog (cn prog Z (k+1))).2).store)),.v (.int .i64 (((gE prog (cn prog Z (k+1))).2).halt)),.v (.int .i64 (((gE prog (cn prog Z (k+1))).2).ZW))]]) true) rfl ?_;refine zF (x:=.S 36 0 ((List.take (qL prog Z (k+1)).length (List.drop 0 (qL prog Z (k+1)))).length+([lC (gE prog (cn prog Z (k+1)))]:List (List AV)).length) false) (h':=aq (aq _ 10 none) 36 (some (.arr (List.take (qL prog Z (k+1)).length (List.drop 0 (qL prog Z (k+1)))++[lC (gE prog (cn prog Z (k+1)))]) 9))) (rfl) (⟨by show(List.take (qL prog Z (k+1)).length (List.drop 0 (qL prog Z (k+1)))).length+1<=1000000;rw[NV];have:=zv prog Z (k+1);have:=i;omega,by show 0+(qL prog Z (k+1)).length=(qL prog Z (k+1)).length;omega,trivial⟩) ?_)|skip
   refine zV (.v (.int .i64 (IntKind.wrap .i64 ((((k+1):Nat):Int)+1)))) ?_;have q:=FB f;have p:=a6 q.1;have r:=a6 q.2
   first|(refine⟨(k+1)+1,λs=>match s with|10=>36|s=>s,av _ ⟨⟨rfl,rfl⟩,⟨rfl,rfl⟩,⟨rfl,rfl⟩,⟨rfl,rfl⟩,⟨ax (λz=>AV.S 36 0 z false) (show(List.take (qL prog Z (k+1)).length (List.drop 0 (qL prog Z (k+1)))).length+1=(qL prog Z ((k+1)+1)).length from by rw[NV,Jn (sU b:(cn prog Z (k+1)).halt=0)];simp),rfl⟩,⟨ax (λz:Int=>AV.v (.int .i64 z)) (show IntKind.wrap .i64 ((((k+1):Nat):Int)+1)=(((k+1)+1:Nat):Int)from by rw[c3 ad ad];omega),rfl⟩,trivial⟩ ⟨⟨rfl,ax (λs:St=>some (ba.box (gx s.L s.r s.mem s.halt))) (Sr (sU b:(cn prog Z (k+1)).halt=0)).symm,rfl⟩,⟨rfl,rfl,rfl⟩,⟨rfl,ax (λz=>some (ba.arr z 9)) (show List.take (qL prog Z (k+1)).length (List.drop 0 (qL prog Z (k+1)))++[lC (gE prog (cn prog Z (k+1)))]=qL prog Z ((k+1)+1)from by rw[NV,Jn (sU b:(cn prog Z (k+1)).halt=0)]),rfl⟩,trivial⟩ rfl,ad,(by show(10000-((k+1)+1):Nat)<10000-(k+1);omega)⟩)|(refine⟨(k+1)+1,λs=>s,av _ ⟨⟨rfl,rfl⟩,⟨rfl,rfl⟩,⟨rfl,rfl⟩,⟨rfl,rfl⟩,⟨ax (λz=>AV.S 10 0 (List.length z) false) (show(qL prog Z (k+1))=qL prog Z ((k+1)+1)from(Ss (sU b:¬(cn prog Z (k+1)).halt=0)).symm),rfl⟩,⟨ax (λz:Int=>AV.v (.int .i64 z)) (show IntKind.wrap .i64 ((((k+1):Nat):Int)+1)=(((k+1)+1:Nat):Int)from by rw[c3 ad ad];omega),rfl⟩,trivial⟩ ⟨⟨rfl,ax (λs:St=>some (ba.box (gx s.L s.r s.mem s.halt))) (Yo (sU b:¬(cn prog Z (k+1)).halt=0)).symm,rfl⟩,⟨rfl,rfl,rfl⟩,⟨rfl,ax (λz=>some (ba.arr z 9)) (show(qL prog Z (k+1))=qL prog Z ((k+1)+1)from(Ss (sU b:¬(cn prog Z (k+1)).halt=0)).symm),rfl⟩,trivial⟩ rfl,ad,(by show(10000-((k+1)+1):Nat)<10000-(k+1);omega)⟩)
 refine c1 0 rfl ?_;have g:(min n 10000).toNat=(k+1):=by have q:=Hf f;have:=i;omega
 refine qY rfl ⟨he,Nat.le_of_eq (bJ _),trivial⟩ rfl ?_;rw[g];show AV.C [lw (cn prog Z (k+1)),.Y 9 (List.take (qL prog Z (k+1)).length (List.drop 0 (qL prog Z (k+1)))) false]=_;rw[NV]
def ij(c:Cf)(k:Nat):List Int:=(c.J.take (min k 64)).map λn=>bV n 1 8
def ik(c:Cf)(k:Nat):List Nat:=c.tape.take (min k 64)
def IN{c:Cf}{k:Nat}(h:k<=c.J.length):(ij c k).length=min k 64:=by unfold ij;rw[aH,aM];omega
def HU{c:Cf}{k:Nat}(h:k<=c.tape.length):(ik c k).length=min k 64:=by unfold ik;rw[aM];omega
def vr{c:Cf}{k:Nat}{x:Int}(h:c.J[k]?=some x)(a:k<64):ij c k++[bV x 1 8]=ij c (k+1):=by
 unfold ij;rw[(oT:min k 64=k),(oT:min (k+1) 64=k+1),bW,h];simp
def G1{c:Cf}{k:Nat}(a: ¬k<64):ij c k=ij c (k+1):=by unfold ij;rw[(oT:min k 64=min (k+1) 64)]
def vi{c:Cf}{k:Nat}{x:Nat}(h:c.tape[k]?=some x)(a:k<64):ik c k++[x]=ik c (k+1):=by
 unfold ik;rw[(oT:min k 64=k),(oT:min (k+1) 64=k+1),bW,h];simp
def F_{c:Cf}{k:Nat}(a: ¬k<64):ik c k=ik c (k+1):=by unfold ik;rw[(oT:min k 64=min (k+1) 64)]
def v3{c:Cf}{k:Nat}(h:c.J.length<=k):ij c k=(bZ c).J:=by
 unfold ij bZ;show _=(c.J.take 64).map _;congr 1;by_cases a:c.J.length<=64
 ·rw[aN oT,aN a]
 rw[(oT:min k 64=64)]
def vt{c:Cf}{k:Nat}(h:c.tape.length<=k):ik c k=(bZ c).tape:=by
 unfold ik bZ;show _=c.tape.take 64;by_cases a:c.tape.length<=64
 ·rw[aN oT,aN a]
 rw[(oT:min k 64=64)]
def j5(n lo a:Int)(h:lo<=a):bI C0 45 [vI n,vI lo,vI a] (vI (bV n lo a)):=by
 apply bk func45 rfl;apply bw (x:=vB (decide (n<lo))) rfl rfl rfl;refine c_ 0 rfl<|zB rfl (λb=>?_) (λb=>?_)
 ·have d:=a6 b;exact dK rfl trivial rfl (ax vI (by unfold bV;(repeat' split)<;>omega))
 have d:=aF b;apply bw (x:=vB (decide (n>a))) rfl rfl rfl;refine c_ 0 rfl<|zB rfl (λc=>?_) (λc=>?_)
 ·have e:=a6 c;exact dK rfl trivial rfl (ax vI (by unfold bV;(repeat' split)<;>omega))
 have e:=aF c;exact dK rfl trivial rfl (ax vI (by unfold bV;(repeat' split)<;>omega))
def ws(c:Cf)(a:c.ok):bI C0 14 [.agg (g0 c false false)] (.agg (g0 (bZ c) false false)):=by
 apply ey func14 rfl;refine Wz rfl<|oR 2 rfl<|g4 rfl (.inl rfl) (j5 c.mode 0 2 dT)<|oR 2 rfl<|g4 rfl (.inl rfl) (j5 c.o 1 2 dT)<|oR 2 rfl<|g4 rfl (.inl rfl) (j5 c.Z 2 8 dT)<|oR 2 rfl<|g4 rfl (.inl rfl) (j5 c.queue 1 4 dT)<|oR 2 rfl ?_;refine g4 rfl (.inl rfl) (j5 c.W 1 4 dT)<|oR 2 rfl<|g4 rfl (.inl rfl) (j5 c.A 2 6 dT)<|oR 2 rfl<|g4 rfl (.inl rfl) (j5 c.Q 1 4 dT)<|oR 2 rfl<|g4 rfl (.inl rfl) (j5 c.ways 1 2 dT)<|oR 2 rfl<|bw (x:=.agg [vI (bV c.mode 0 2),vI (bV c.o 1 2),vI (bV c.Z 2 8),vI (bV c.queue 1 4),vI (bV c.W 1 4),vI (bV c.A 2 6),vI (bV c.Q 1 4),vI (bV c.ways 1 2),.Y 0 ([]) true,vB c.tables,.Y 0 ([]) true]) rfl rfl rfl<|e5 29 rfl rfl<|bc rfl<|rE 31 ?_;refine yb 0 0 rfl<|Fq (κ:=Unit) (λf=>⟨a8 [(1,.ptr 0 0),(2,.ptr 1 0),(3,.ptr 29 0)],ap [(0,.box [vI c.mode,vI c.o,vI c.Z,vI c.queue,vI c.W,vI c.A,vI c.Q,vI c.ways,.Y 1 (c.J.map bf) false,vB c.tables,.Y 1 (c.tape.map dU) false]),(1,.box [vI 0,vI 0,vI 0,vI 0,vI 0,vI 0,vI 0,vI 0,.Y 0 ([]) true,vB false,.Y 0 ([]) true]),(29,.box [vI (bV c.mode 0 2),vI (bV c.o 1 2),vI (bV c.Z 2 8),vI (bV c.queue 1 4),vI (bV c.W 1 4),vI (bV c.A 2 6),vI ((bZ c).Q),vI (bV c.ways 1 2),.Y 0 ([]) true,vB c.tables,.Y 0 ([]) true])],31⟩) (λf=>True) ?_ ?_
 ·refine qS 0 rfl<|bw (x:=vB ((bV c.Q 1 4)==3)) rfl rfl rfl ?_;refine c_ 0 rfl<|zB rfl (λj=>?_) (λj=>?_)
  ·have p:=mT j;refine .mk _ (.refl _) ⟨(),λs=>s,av (λs=>s) wT ⟨c9,c9,⟨rfl,(by rw[show(bZ c).Q=2 from aa (sU j)];rfl),rfl⟩,trivial⟩ rfl,rfl,trivial⟩
  have p:=nA j;refine .mk _ (.refl _) ⟨(),λs=>s,av (λs=>s) wT ⟨c9,c9,⟨rfl,(by rw[show(bZ c).Q=bV c.Q 1 4 from dZ (sU j)];rfl),rfl⟩,trivial⟩ rfl,rfl,trivial⟩
 intro f _;apply Fq (κ:=Unit) (λf=>⟨a8 [(1,.ptr 0 0),(2,.ptr 1 0),(3,.ptr 29 0)],ap [(0,.box [vI c.mode,vI c.o,vI c.Z,vI c.queue,vI c.W,vI c.A,vI c.Q,vI c.ways,.Y 1 (c.J.map bf) false,vB c.tables,.Y 1 (c.tape.map dU) false]),(1,.box [vI 0,vI 0,vI 0,vI 0,vI 0,vI 0,vI 0,vI 0,.Y 0 ([]) true,vB false,.Y 0 ([]) true]),(29,.box [vI (bV c.mode 0 2),vI (bV c.o 1 2),vI (bV c.Z 2 8),vI (bV c.queue 1 4),vI (bV c.W 1 4),vI (bV c.A 2 6),vI ((bZ c).Q),vI (bV c.ways 1 2),.Y 1 (((bZ c).J).map bf) false,vB c.tables,.Y 0 ([]) true])],31⟩) (λf=>True)
 ·refine qS 0 rfl<|bw (x:=vN c.J.length) rfl rfl (cD bf c.J)<|c_ 0 rfl<|jR (κ:=Nat) (λk=>match k with|0=>⟨a8 [(1,.ptr 0 0),(2,.ptr 1 0),(3,.ptr 29 0),(40,.Y 1 (c.J.map bf) false),(41,vN c.J.length),(42,vN 0)],ap [(0,.box [vI c.mode,vI c.o,vI c.Z,vI c.queue,vI c.W,vI c.A,vI c.Q,vI c.ways,.Y 1 (c.J.map bf) false,vB c.tables,.Y 1 (c.tape.map dU) false]),(1,.box [vI 0,vI 0,vI 0,vI 0,vI 0,vI 0,vI 0,vI 0,.Y 0 ([]) true,vB false,.Y 0 ([]) true]),(29,.box [vI (bV c.mode 0 2),vI (bV c.o 1 2),vI (bV c.Z 2 8),vI (bV c.queue 1 4),vI (bV c.W 1 4),vI (bV c.A 2 6),vI ((bZ c).Q),vI (bV c.ways 1 2),.Y 0 ([]) true,vB c.tables,.Y 0 ([]) true])],101⟩|k+1=>⟨a8 [(1,.ptr 0 0),(2,.ptr 1 0),(3,.ptr 29 0),(40,.Y 1 (c.J.map bf) false),(41,vN c.J.length),(42,vN (k+1))],ap [(0,.box [vI c.mode,vI c.o,vI c.Z,vI c.queue,vI c.W,vI c.A,vI c.Q,vI c.ways,.Y 1 (c.J.map bf) false,vB c.tables,.Y 1 (c.tape.map dU) false]),(1,.box [vI 0,vI 0,vI 0,vI 0,vI 0,vI 0,vI 0,vI 0,.Y 0 ([]) true,vB false,.Y 0 ([]) true]),(29,.box [vI (bV c.mode 0 2),vI (bV c.o 1 2),vI (bV c.Z 2 8),vI (bV c.queue 1 4),vI (bV c.W 1 4),vI (bV c.A 2 6),vI ((bZ c).Q),vI (bV c.ways 1 2),.S 100 0 (min (k+1) 64) false,vB c.tables,.Y 0 ([]) true]),(100,.arr ((ij c (k+1)).map bf) 1)],101⟩) (λk=>k<=c.J.length) (λk=>c.J.length-k) 0 (λs=>s) (av (λs=>s) wT wH rfl) (aE _) ?_;intro k o;rcases k with _|k
  ·refine qS 0 rfl<|bw (x:=vB (decide (0<c.J.length))) rfl rfl (am (bs _ _)) ?_;refine c_ 0 rfl<|zB rfl (λg=>?_) (λg=>?_)
   ·have q:=a6 g;let⟨x,b⟩:=d7 c.J 0;refine FO (bf x) (x:=.dp 1 0 (bf x)) rfl rfl rfl (⟨dT,iH b⟩) rfl<|qR 0 rfl<|bw (x:=vB (decide (0<64))) rfl rfl (am (bs _ _)) ?_;refine c_ 0 rfl<|aV rfl (λ_=>?_) (λB=>by exact absurd B dT);refine Wz rfl<|oR 3 rfl<|g4 rfl (.inl rfl) (j5 x 1 8 dT)<|bw (x:=.Y 1 ([[vI (bV x 1 8)]]) true) rfl rfl rfl<|ez (x:=.S 114 0 1 false) (h':=aq _ 114 (some (.arr (([(bV x 1 8:Int)]).map bf) 1))) rfl rfl (Iw ad) (⟨rfl,by exact ad,by exact ad,trivial⟩)<|oR 1 rfl<|bc rfl<|rE 117 ?_;have D:0+1<=9223372036854775807:=by have:=a.J;have:=a.tape;omega
    refine qX 0 rfl<|bw (x:=vN (0+1)) rfl rfl (ao (bH (show 0+1<=9223372036854775807 by have:=a.J;have:=a.tape;omega) rfl)) ?_;refine cN 0 rfl<|⟨0+1,λi=>match i with|100=>114|i=>i,av (λi=>match i with|100=>114|i=>i) wT ⟨c9,c9,c9,⟨rfl,(ax (λz:List Int=>some (ba.arr (z.map bf) 1)) (vr b oT)),rfl⟩,trivial⟩ rfl,oH (a6 g),by have:=a6 g;show c.J.length-(0+1)<c.J.length-(0);omega⟩
   have q:=aF g;refine c1 0 rfl<|.mk _ (.step none (et (l:=[(1,.ptr 0 0),(2,.ptr 1 0),(3,.ptr 29 0)]) (hp:=[(0,.box [vI c.mode,vI c.o,vI c.Z,vI c.queue,vI c.W,vI c.A,vI c.Q,vI c.ways,.Y 1 (c.J.map bf) false,vB c.tables,.Y 1 (c.tape.map dU) false]),(1,.box [vI 0,vI 0,vI 0,vI 0,vI 0,vI 0,vI 0,vI 0,.Y 0 ([]) true,vB false,.Y 0 ([]) true]),(29,.box [vI (bV c.mode 0 2),vI (bV c.o 1 2),vI (bV c.Z 2 8),vI (bV c.queue 1 4),vI (bV c.W 1 4),vI (bV c.A 2 6),vI ((bZ c).Q),vI (bV c.ways 1 2),.Y 1 ([]) false,vB c.tables,.Y 0 ([]) true])]) trivial iu ⟨⟨trivial,_,rfl,.refl _⟩,⟨trivial,_,rfl,.refl _⟩,⟨trivial,_,rfl,ew.ZT ⟨.refl _,.refl _,.refl _,.refl _,.refl _,.refl _,.refl _,.refl _,.nil 1 false,.refl _,.refl _,trivial⟩⟩,trivial⟩) (.refl _)) ⟨(),λs=>s,av (λs=>s) wT ⟨c9,c9,⟨rfl,(by rw[<-v3 (c:=c) (k:=0) (oH (aF g))];rfl),rfl⟩,trivial⟩ rfl,rfl,trivial⟩
  have y:k+1<=9223372036854775807:=oH a.J;have n:=IN (c:=c) (k:=k+1) o;refine qS 0 rfl<|bw (x:=vB (decide ((k+1)<c.J.length))) rfl rfl (am (bs _ _)) ?_;refine c_ 0 rfl<|zB rfl (λd=>?_) (λd=>?_)
  ·have r:=a6 d;let⟨x,b⟩:=d7 c.J (k+1);refine FO (bf x) (x:=.dp 1 0 (bf x)) rfl rfl rfl (⟨aG _,iH b⟩) rfl<|qR 0 rfl<|bw (x:=vB (decide ((k+1)<64))) rfl rfl (am (bs _ _)) ?_;refine c_ 0 rfl<|aV rfl (λl=>?_) (λl=>?_)
   all_goals
    first|(have t:=a6 l;refine Wz rfl<|oR 3 rfl<|g4 rfl (.inl rfl) (j5 x 1 8 dT)<|bw (x:=.Y 1 ([[vI (bV x 1 8)]]) true) rfl rfl rfl<|ez (x:=.S 114 0 (min (k+1) 64+1) false) (h':=aq (aq _ 100 none) 114 (some (.arr (((ij c (k+1))++([(bV x 1 8:Int)])).map bf) 1))) rfl rfl (iP bf (ij c (k+1)) ([(bV x 1 8:Int)]) ad ad) (⟨by exact ad,by exact ad,trivial⟩)<|oR 1 rfl<|bc rfl<|rE 117 ?_)|have t:=aF l
    have E:k+1+1<=9223372036854775807:=by have:=a.J;have:=a.tape;omega
    first|refine qX 0 rfl ?_|refine qC 0 rfl ?_
    refine bw (x:=vN (k+1+1)) rfl rfl (ao (bH (show k+1+1<=9223372036854775807 by have:=a.J;have:=a.tape;omega) rfl)) ?_;apply cN 0 rfl
    first|(refine⟨(k+1)+1,λi=>match i with|100=>114|i=>i,av (λi=>match i with|100=>114|i=>i) wT ⟨c9,c9,⟨rfl,(by rw[(oT:min (k+1) 64+1=min (k+1+1) 64)];rfl),rfl⟩,⟨rfl,(ax (λz:List Int=>some (ba.arr (z.map bf) 1)) (vr b oT)),rfl⟩,trivial⟩ rfl,oH (a6 d),by have:=a6 d;show c.J.length-((k+1)+1)<c.J.length-(k+1);omega⟩)|(refine⟨(k+1)+1,λi=>i,av (λi=>i) wT ⟨c9,c9,⟨rfl,(by rw[(oH (aF l):min (k+1) 64=min (k+1+1) 64)];rfl),rfl⟩,⟨rfl,(ax (λz:List Int=>some (ba.arr (z.map bf) 1)) (G1 (c:=c) (oH (aF l)))),rfl⟩,trivial⟩ rfl,oH (a6 d),by have:=a6 d;show c.J.length-((k+1)+1)<c.J.length-(k+1);omega⟩)
  have r:=aF d;refine c1 0 rfl<|.mk _ (.step (some (100,1,(ij c (k+1)).map bf)) (et (l:=[(1,.ptr 0 0),(2,.ptr 1 0),(3,.ptr 29 0)]) (hp:=[(0,.box [vI c.mode,vI c.o,vI c.Z,vI c.queue,vI c.W,vI c.A,vI c.Q,vI c.ways,.Y 1 (c.J.map bf) false,vB c.tables,.Y 1 (c.tape.map dU) false]),(1,.box [vI 0,vI 0,vI 0,vI 0,vI 0,vI 0,vI 0,vI 0,.Y 0 ([]) true,vB false,.Y 0 ([]) true]),(29,.box [vI (bV c.mode 0 2),vI (bV c.o 1 2),vI (bV c.Z 2 8),vI (bV c.queue 1 4),vI (bV c.W 1 4),vI (bV c.A 2 6),vI ((bZ c).Q),vI (bV c.ways 1 2),.Y 1 ((ij c (k+1)).map bf) false,vB c.tables,.Y 0 ([]) true])]) rfl iu ⟨⟨rfl,_,rfl,.refl _⟩,⟨rfl,_,rfl,.refl _⟩,⟨rfl,_,rfl,ew.ZT ⟨.refl _,.refl _,.refl _,.refl _,.refl _,.refl _,.refl _,.refl _,nB n,.refl _,.refl _,trivial⟩⟩,trivial⟩) (.refl _)) ⟨(),λs=>s,av (λs=>s) wT ⟨c9,c9,⟨rfl,(by rw[<-v3 (c:=c) (k:=k+1) (oH (aF d))];rfl),rfl⟩,trivial⟩ rfl,rfl,trivial⟩
 intro f _;apply Fq (κ:=Unit) (λf=>⟨a8 [(1,.ptr 0 0),(2,.ptr 1 0),(3,.ptr 29 0)],ap [(0,.box [vI c.mode,vI c.o,vI c.Z,vI c.queue,vI c.W,vI c.A,vI c.Q,vI c.ways,.Y 1 (c.J.map bf) false,vB c.tables,.Y 1 (c.tape.map dU) false]),(1,.box [vI 0,vI 0,vI 0,vI 0,vI 0,vI 0,vI 0,vI 0,.Y 0 ([]) true,vB false,.Y 0 ([]) true]),(29,.box [vI (bV c.mode 0 2),vI (bV c.o 1 2),vI (bV c.Z 2 8),vI (bV c.queue 1 4),vI (bV c.W 1 4),vI (bV c.A 2 6),vI ((bZ c).Q),vI (bV c.ways 1 2),.Y 1 (((bZ c).J).map bf) false,vB c.tables,.Y 1 (((bZ c).tape).map dU) false])],31⟩) (λf=>True)
 ·refine qS 0 rfl<|bw (x:=vN c.tape.length) rfl rfl (cD dU c.tape)<|c_ 0 rfl<|jR (κ:=Nat) (λk=>match k with|0=>⟨a8 [(1,.ptr 0 0),(2,.ptr 1 0),(3,.ptr 29 0),(58,.Y 1 (c.tape.map dU) false),(59,vN c.tape.length),(60,vN 0)],ap [(0,.box [vI c.mode,vI c.o,vI c.Z,vI c.queue,vI c.W,vI c.A,vI c.Q,vI c.ways,.Y 1 (c.J.map bf) false,vB c.tables,.Y 1 (c.tape.map dU) false]),(1,.box [vI 0,vI 0,vI 0,vI 0,vI 0,vI 0,vI 0,vI 0,.Y 0 ([]) true,vB false,.Y 0 ([]) true]),(29,.box [vI (bV c.mode 0 2),vI (bV c.o 1 2),vI (bV c.Z 2 8),vI (bV c.queue 1 4),vI (bV c.W 1 4),vI (bV c.A 2 6),vI ((bZ c).Q),vI (bV c.ways 1 2),.Y 1 (((bZ c).J).map bf) false,vB c.tables,.Y 0 ([]) true])],101⟩|k+1=>⟨a8 [(1,.ptr 0 0),(2,.ptr 1 0),(3,.ptr 29 0),(58,.Y 1 (c.tape.map dU) false),(59,vN c.tape.length),(60,vN (k+1))],ap [(0,.box [vI c.mode,vI c.o,vI c.Z,vI c.queue,vI c.W,vI c.A,vI c.Q,vI c.ways,.Y 1 (c.J.map bf) false,vB c.tables,.Y 1 (c.tape.map dU) false]),(1,.box [vI 0,vI 0,vI 0,vI 0,vI 0,vI 0,vI 0,vI 0,.Y 0 ([]) true,vB false,.Y 0 ([]) true]),(29,.box [vI (bV c.mode 0 2),vI (bV c.o 1 2),vI (bV c.Z 2 8),vI (bV c.queue 1 4),vI (bV c.W 1 4),vI (bV c.A 2 6),vI ((bZ c).Q),vI (bV c.ways 1 2),.Y 1 (((bZ c).J).map bf) false,vB c.tables,.S 100 0 (min (k+1) 64) false]),(100,.arr ((ik c (k+1)).map dU) 1)],101⟩) (λk=>k<=c.tape.length) (λk=>c.tape.length-k) 0 (λs=>s) (av (λs=>s) wT wH rfl) (aE _) ?_;intro k o;rcases k with _|k
  ·refine qS 0 rfl<|bw (x:=vB (decide (0<c.tape.length))) rfl rfl (am (bs _ _)) ?_;refine c_ 0 rfl<|zB rfl (λh=>?_) (λh=>?_)
   ·have u:=a6 h;let⟨x,b⟩:=d7 c.tape 0;have A:=a.tp x (aB b);refine FO (dU x) (x:=.dp 1 0 (dU x)) rfl rfl rfl (⟨dT,iH b⟩) rfl<|qR 0 rfl<|bw (x:=vB (decide (0<64))) rfl rfl (am (bs _ _)) ?_;refine c_ 0 rfl<|zB rfl (λ_=>?_) (λC=>by exact absurd C dT);refine bw (x:=.Y 1 ([[vU x]]) true) rfl rfl rfl<|zF (x:=.S 113 0 1 false) (h':=aq _ 113 (some (.arr (([x]).map dU) 1))) (Iw ad) (⟨rfl,by exact ad,by exact ad,trivial⟩) ?_;have F:0+1<=9223372036854775807:=by have:=a.J;have:=a.tape;omega
    refine bw (x:=vN (0+1)) rfl rfl (ao (bH (show 0+1<=9223372036854775807 by have:=a.J;have:=a.tape;omega) rfl)) ?_;refine cN 0 rfl<|⟨0+1,λi=>match i with|100=>113|i=>i,av (λi=>match i with|100=>113|i=>i) wT ⟨c9,c9,c9,⟨rfl,(ax (λz:List Nat=>some (ba.arr (z.map dU) 1)) (vi b oT)),rfl⟩,trivial⟩ rfl,oH (a6 h),by have:=a6 h;show c.tape.length-(0+1)<c.tape.length-(0);omega⟩
   have u:=aF h;refine c1 0 rfl<|.mk _ (.step none (et (l:=[(1,.ptr 0 0),(2,.ptr 1 0),(3,.ptr 29 0)]) (hp:=[(0,.box [vI c.mode,vI c.o,vI c.Z,vI c.queue,vI c.W,vI c.A,vI c.Q,vI c.ways,.Y 1 (c.J.map bf) false,vB c.tables,.Y 1 (c.tape.map dU) false]),(1,.box [vI 0,vI 0,vI 0,vI 0,vI 0,vI 0,vI 0,vI 0,.Y 0 ([]) true,vB false,.Y 0 ([]) true]),(29,.box [vI (bV c.mode 0 2),vI (bV c.o 1 2),vI (bV c.Z 2 8),vI (bV c.queue 1 4),vI (bV c.W 1 4),vI (bV c.A 2 6),vI ((bZ c).Q),vI (bV c.ways 1 2),.Y 1 (((bZ c).J).map bf) false,vB c.tables,.Y 1 ([]) false])]) trivial iu ⟨⟨trivial,_,rfl,.refl _⟩,⟨trivial,_,rfl,.refl _⟩,⟨trivial,_,rfl,ew.ZT ⟨.refl _,.refl _,.refl _,.refl _,.refl _,.refl _,.refl _,.refl _,.refl _,.refl _,.nil 1 false,trivial⟩⟩,trivial⟩) (.refl _)) ⟨(),λs=>s,av (λs=>s) wT ⟨c9,c9,⟨rfl,(by rw[<-vt (c:=c) (k:=0) (oH (aF h))];rfl),rfl⟩,trivial⟩ rfl,rfl,trivial⟩
  have y:k+1<=9223372036854775807:=oH a.tape;have n:=HU (c:=c) (k:=k+1) o;refine qS 0 rfl<|bw (x:=vB (decide ((k+1)<c.tape.length))) rfl rfl (am (bs _ _)) ?_;refine c_ 0 rfl<|zB rfl (λe=>?_) (λe=>?_)
  ·have v:=a6 e;let⟨x,b⟩:=d7 c.tape (k+1);have A:=a.tp x (aB b);refine FO (dU x) (x:=.dp 1 0 (dU x)) rfl rfl rfl (⟨aG _,iH b⟩) rfl<|qR 0 rfl<|bw (x:=vB (decide ((k+1)<64))) rfl rfl (am (bs _ _)) ?_;refine c_ 0 rfl<|zB rfl (λm=>?_) (λm=>?_)
   all_goals
    first|(have w:=a6 m;refine bw (x:=.Y 1 ([[vU x]]) true) rfl rfl rfl<|zF (x:=.S 113 0 (min (k+1) 64+1) false) (h':=aq (aq _ 100 none) 113 (some (.arr (((ik c (k+1))++([x])).map dU) 1))) (iP dU (ik c (k+1)) ([x]) ad ad) (⟨by exact ad,by exact ad,trivial⟩) ?_)|have w:=aF m
    have G:k+1+1<=9223372036854775807:=by have:=a.J;have:=a.tape;omega
    refine bw (x:=vN (k+1+1)) rfl rfl (ao (bH (show k+1+1<=9223372036854775807 by have:=a.J;have:=a.tape;omega) rfl)) ?_;apply cN 0 rfl
    first|(refine⟨(k+1)+1,λi=>match i with|100=>113|i=>i,av (λi=>match i with|100=>113|i=>i) wT ⟨c9,c9,⟨rfl,(by rw[(oT:min (k+1) 64+1=min (k+1+1) 64)];rfl),rfl⟩,⟨rfl,(ax (λz:List Nat=>some (ba.arr (z.map dU) 1)) (vi b oT)),rfl⟩,trivial⟩ rfl,oH (a6 e),by have:=a6 e;show c.tape.length-((k+1)+1)<c.tape.length-(k+1);omega⟩)|(refine⟨(k+1)+1,λi=>i,av (λi=>i) wT ⟨c9,c9,⟨rfl,(by rw[(oH (aF m):min (k+1) 64=min (k+1+1) 64)];rfl),rfl⟩,⟨rfl,(ax (λz:List Nat=>some (ba.arr (z.map dU) 1)) (F_ (c:=c) (oH (aF m)))),rfl⟩,trivial⟩ rfl,oH (a6 e),by have:=a6 e;show c.tape.length-((k+1)+1)<c.tape.length-(k+1);omega⟩)
  have v:=aF e;refine c1 0 rfl<|.mk _ (.step (some (100,1,(ik c (k+1)).map dU)) (et (l:=[(1,.ptr 0 0),(2,.ptr 1 0),(3,.ptr 29 0)]) (hp:=[(0,.box [vI c.mode,vI c.o,vI c.Z,vI c.queue,vI c.W,vI c.A,vI c.Q,vI c.ways,.Y 1 (c.J.map bf) false,vB c.tables,.Y 1 (c.tape.map dU) false]),(1,.box [vI 0,vI 0,vI 0,vI 0,vI 0,vI 0,vI 0,vI 0,.Y 0 ([]) true,vB false,.Y 0 ([]) true]),(29,.box [vI (bV c.mode 0 2),vI (bV c.o 1 2),vI (bV c.Z 2 8),vI (bV c.queue 1 4),vI (bV c.W 1 4),vI (bV c.A 2 6),vI ((bZ c).Q),vI (bV c.ways 1 2),.Y 1 (((bZ c).J).map bf) false,vB c.tables,.Y 1 ((ik c (k+1)).map dU) false])]) rfl iu ⟨⟨rfl,_,rfl,.refl _⟩,⟨rfl,_,rfl,.refl _⟩,⟨rfl,_,rfl,ew.ZT ⟨.refl _,.refl _,.refl _,.refl _,.refl _,.refl _,.refl _,.refl _,.refl _,.refl _,nB n,trivial⟩⟩,trivial⟩) (.refl _)) ⟨(),λs=>s,av (λs=>s) wT ⟨c9,c9,⟨rfl,(by rw[<-vt (c:=c) (k:=k+1) (oH (aF e))];rfl),rfl⟩,trivial⟩ rfl,rfl,trivial⟩
 intro f _;apply i5 0 rfl;exact dK rfl cy rfl rfl
def F7{x}(a: -9223372036854775808<=x)(b:x<9223372036854775808):wrap64 x=x:=by unfold wrap64;omega
def vg(q)(k)(agY)(left)(a):yH (Bi q k agY left a)=yH q+if k=4 then 0 else 1:=by
 unfold yH Bi;rw[mL,aU];by_cases h:k=4<;>simp[h]
def F8(q):yH (eH q).1<=yH q:=by
 cases q with
 |nil=>exact aC _
 |cons x r=>
  unfold eH;dsimp only;split
  ·unfold yH;simp[List.filter_cons];by_cases h:x.kind=4<;>simp[h]
  ·unfold yH;simp[List.filter_cons];by_cases h:x.kind=4<;>simp[h]
structure Bd(f:Cf)(a:Nat)(c:Co):Prop where
 U:c.U=f
 Z:(c.Z.length:Int)<=f.Z
 Z6:(c.O.length:Int)<=f.queue
 Z':(c.W.length:Int)<=f.W
 rd:(yH c.X:Int)<=f.A
 ret:c.N.length=a
def pm(c)(agY):((oK c agY).X=c.X∧(oK c agY).asked=c.asked)∨∃l d,(oK c agY).X=Bi c.X 4 l (lX c.U c.asked) d∧(oK c agY).asked=wrap64 (c.asked+1):=by
 unfold oK;rcases a:iQ c.data c.X c.mem agY (lX c.U c.asked)with ⟨d,q,b⟩;show(q=c.X∧(if b=true then wrap64 (c.asked+1)else c.asked)=c.asked)∨∃l d,q=Bi c.X 4 l _ d∧(if b=true then wrap64 (c.asked+1)else c.asked)=wrap64 _;unfold iQ at a;split at a
 ·cases a;exact .inl a9
 split at a
 ·cases a;exact .inl a9
 split at a
 split at a
 ·cases a;exact .inr ⟨_,_,rfl,rfl⟩
 cases a;exact .inl a9
def E5(c)(agY):yH (oK c agY).X<=yH c.X:=by
 rcases pm c agY with ⟨h, -⟩|⟨l,d,h, -⟩
 ·rw[h];exact aC _
 rw[h,vg,aa rfl];exact aC _
def F9(c)(agY):(oK c agY).U=c.U∧(oK c agY).Z=c.Z∧(oK c agY).O=c.O∧(oK c agY).W=c.W∧(oK c agY).N=c.N:=by
 rw[<-uY];exact⟨rfl,rfl,rfl,rfl,rfl⟩
theorem Bd.ZL{f}{a}{c}(h:Bd f a c)(agY):Bd f a (oK c agY):=by
 let⟨h1,h2,h3,h4,bb⟩:=F9 c agY;have:=E5 c agY;exact⟨h1.trans h.U,h2 ▸ h.Z,h3 ▸ h.Z6,h4 ▸ h.Z',oH h.rd,bb ▸ h.ret⟩
def Jx{c}{b}(h:tA c b=true):(yH c.X:Int)<c.U.A:=by
 unfold tA at h;split at h
 ·exact a6 h
 have:=a6 h;omega
theorem Bd.ask{f}{a}{c}(h:Bd f a c){k}{b}(hr:tA c b=true∨k=4)(agY)(d):Bd f a (jE c k agY d):=by
 refine⟨h.U,h.Z,h.Z6,h.Z',?_,h.ret⟩;show((yH (Bi c.X k agY _ d):Nat):Int)<=_;rw[vg];have e:=h.rd;rcases hr with hr|hr
 ·have:=Jx hr;rw[h.U]at this;split<;>omega
 rw[aa hr];omega
def wn{f}{a}{c}(h:Bd f a c):Bd f a (lM c):=by
 have b:Bd f a (jJ c):=⟨h.U,h.Z,h.Z6,h.Z',by have:=F8 c.X;have:=h.rd;show((yH (eH c.X).1:Nat):Int)<=_;omega,h.ret⟩;rw[kC];split
 ·unfold ID
  repeat' split
  ·exact⟨b.U,by show((List.map _ _).length:Int)<=_;rw[aH];exact b.Z,b.Z6,b.Z',b.rd,b.ret⟩
  ·exact⟨b.U,b.Z,b.Z6,b.Z',b.rd,b.ret⟩
  ·exact b.ZL _
  ·exact⟨b.U,b.Z,b.Z6,b.Z',b.rd,b.ret⟩
  exact b
 exact b
def JP(l)(i):(dk l i).length<=l.length:=by
 unfold dk;split
 ·rename_i e a;have:=(Em.1 a).1;rw[aU,aM];simp;omega
 exact aC _
def wq{f}{a}{c}(h:Bd f a c)(b:0<=f.queue):Bd f a (kK c):=by
 have d:=nN c;unfold kK;split
 ·exact h
 split
 ·rename_i i _;exact⟨h.U,by have:=JP (bt c) i;have:=h.Z;show((dk _ i).length:Int)<=_;omega,b,h.Z',h.rd,h.ret⟩
 exact⟨h.U,by have:=h.Z;show((bt c).length:Int)<=_;omega,h.Z6,h.Z',h.rd,h.ret⟩
def wj{f}{a}{c}(h:Bd f a c)(s)(g: ¬(s.store=true∧(c.W.length:Int)>=c.U.W)):Bd f (a+1) (fZ c s):=by
 refine⟨h.U,h.Z,h.Z6,?_,h.rd,by show(c.N++[s]).length=_;rw[aU,h.ret];rfl⟩;show(((match iJ s with|some p=>c.W++[p]|none=>c.W).length:Nat):Int)<=_;split
 ·rename_i p hp;have b:s.store=true:=by
   unfold iJ at hp;split at hp
   ·cases hp
   ·rename_i q;cases e:s.store with
    |true=>rfl
    |false=>exact absurd (.inl e) q
  have d: ¬(c.W.length:Int)>=c.U.W:=λq=>g ⟨b,q⟩;rw[h.U]at d;rw[aU];show((c.W.length+1:Nat):Int)<=_;omega
 ·exact h.Z'
def HR{f}{a}{c}(h:Bd f a c)(e)(b: ¬((cA e).store=true∧(c.W.length:Int)>=c.U.W)):Bd f (a+1) (Bm c e):=by
 have k:=wj h _ b;exact⟨k.U,by have:=h.Z;show((c.Z.drop 1).length:Int)<=_;rw[bD];omega,k.Z6,k.Z',k.rd,k.ret⟩
def HS{f}{a}{c}(h:Bd f a c)(e)(b: ¬((cA e).store=true∧(c.W.length:Int)>=c.U.W)):Bd f (a+1) (MP c e):=by
 have k:=(wj h _ b).ZL (cA e).V;rw[<-uY]at k;exact⟨k.U,by have:=h.Z;show((c.Z.drop 1).length:Int)<=_;rw[bD];omega,k.Z6,k.Z',k.rd,k.ret⟩
theorem o9{f:Cf}(d:0<=f.Z∧0<=f.queue):∀(n:Nat) (c:Co) (a:Nat),Bd f a c->∃b,a<=b∧b<=a+n∧Bd f b (eC n c)
 |0,c,a,h=>⟨a,aC _,aC _,h⟩
 | n + 1,c,a,h=>by
  by_cases j:c.halt≠0∨c.Z.length=0
  ·rw[mG j];exact⟨a,aC _,oT,h⟩
  ·have m:c.Z[0]?=some (c.Z[0]'ad):=aA ad;rw[iX ad (λq=>j (.inl q)) m];split
   ·exact⟨a,aC _,oT,h⟩
   ·split
    ·exact⟨a+1,oT,oT,⟨h.U,d.1,d.2,h.Z',h.rd,by show(c.N++[_]).length=_;rw[aU,h.ret];rfl⟩⟩
    ·split
     ·exact⟨a,aC _,oT,h⟩
     ·rename_i i;rw[kB];by_cases g:ak (c.Z[0]'ad).i.op=3
      ·rw[Ke g];let⟨b,k,l,e⟩:=o9 d n _ _ (HS h _ i);exact⟨b,oT,oT,e⟩
      ·rw[An g];let⟨b,k,l,e⟩:=o9 d n _ _ (HR h _ i);exact⟨b,oT,oT,e⟩
theorem Bd.setE{f:Cf}{a:Nat}{c:Co}(h:Bd f a c)(i:Nat)(e:ai):Bd f a (b1 c i e):=⟨h.U,by show((c.Z.set i e).length:Int)<=_;rw[cC];exact h.Z,h.Z6,h.Z',h.rd,h.ret⟩
def J0{f}{a}{c}(h:Bd f a c)(i):Bd f a (oE c i):=by
 unfold oE
 cases c.Z[i]? with
 |none=>exact h
 |some e=>
  dsimp only
  repeat' split
  all_goals first|exact h|exact h.setE _ _|(rename_i q;exact(h.ask (.inl q.1) _ _).setE _ _)
def IH{f}{a}{c}(h:Bd f a c)(i):Bd f a (iS c i):=by
 unfold iS
 cases c.Z[i]? with
 |none=>exact h
 | some e=>
  dsimp only;split
  ·exact h.setE _ _
  ·split
   ·exact J0 (h.setE _ _) i
   ·exact h.setE _ _
theorem vq{f:Cf}{a:Nat}:∀(p:List Nat) (c:Co),Bd f a c->Bd f a (p.foldl iS c)
 |[],_,h=>h
 |i::p,_,h=>vq p _ (IH h i)
def v'{f}{a}{c}(h:Bd f a c):Bd f a (gY c):=by
 unfold gY;split
 ·exact h
 exact vq _ c h
theorem vh{f:Cf}{a:Nat}:∀(n:Nat) (c:Co),Bd f a c->Bd f a (kV n c)
 |0,_,h=>h
 | n+1,c,h=>by
  by_cases b:(c.Z.length:Int)>=c.U.Z∨c.O.length=0
  ·rw[Ap b];exact h
  ·have g:c.O[0]?=some (c.O[0]'ad):=aA ad;have e:=CU (n:=n+1) (k:=0) ad (λq=>b (.inl q)) g;rw[(oT:n+1-(0+1)=n),(oT:n+1-0=n+1)]at e;rw[<-e];have d:=h.U;refine vh n _ ⟨h.U,?_,?_,h.Z',h.rd,h.ret⟩
   ·show((c.Z++[_]).length:Int)<=_;rw[aU];show((c.Z.length+1:Nat):Int)<=_;rw[d]at b;omega
   ·have:=h.Z6;show((c.O.drop 1).length:Int)<=_;rw[bD];omega
def wa{f}{a}{c}(h:Bd f a c):Bd f a (lP c):=by
 unfold lP;split
 ·exact h
 exact vh _ c h
theorem u6{f:Cf}{a:Nat}:∀(n:Nat) (c:Co),Bd f a c->Bd f a (eL n c)
 |0,_,h=>h
 | n +1,c,h=>by
  by_cases b:c.stop=true∨(c.O.length:Int)>=c.U.queue
  ·rw[yZ b];exact h
  ·have g:((c.O.length+1:Nat):Int)<=f.queue:=by have:=h.U;rw[this]at b;omega
   by_cases d:(en c.prog c.K).isSome=false
   ·rw[Aq ad b d];exact⟨h.U,h.Z,by show((c.O++[_]).length:Int)<=_;rw[aU];exact g,h.Z',h.rd,h.ret⟩
   ·by_cases i:(bK c.y (ab c.K)).2.isSome=false
    ·rw[uD ad b d i];split
     ·rename_i q;exact h.ask (.inl q.2) _ _
     ·exact h
    ·have e:=BC (n:=n+1) (k:=0) ad b d i;rw[(oT:n+1-(0+1)=n),(oT:n+1-0=n+1)]at e;rw[<-e];refine u6 n _ ?_;have r:∀w,(dM (lJ c) w).1.U=c.U∧(dM (lJ c) w).1.Z=c.Z∧(dM (lJ c) w).1.O=c.O∧(dM (lJ c) w).1.W=c.W∧(dM (lJ c) w).1.X=c.X∧(dM (lJ c) w).1.N=c.N:=by
      intro w;unfold dM
      repeat' split
      all_goals exact⟨rfl,rfl,rfl,rfl,rfl,rfl⟩
     let⟨j,k,l,m,o,p⟩:=r (bi c.prog c.K);refine⟨j.trans h.U,?_,?_,?_,?_,?_⟩
     ·show(((dM (lJ c) (bi c.prog c.K)).1.Z.length:Nat):Int)<=_;rw[k];exact h.Z
     ·show((((dM (lJ c) (bi c.prog c.K)).1.O++[_]).length:Nat):Int)<=_;rw[l,aU];exact g
     ·show(((dM (lJ c) (bi c.prog c.K)).1.W.length:Nat):Int)<=_;rw[m];exact h.Z'
     ·show((yH (dM (lJ c) (bi c.prog c.K)).1.X:Nat):Int)<=_;rw[o];exact h.rd
     ·show(dM (lJ c) (bi c.prog c.K)).1.N.length=_;rw[p];exact h.ret
def v4{f}{a}{c}(h:Bd f a c):Bd f a (eN c):=by
 unfold eN;split
 ·exact h
 exact u6 _ c h
def wb{f}{a}{c}(h:Bd f a c):Bd f a (tY c):=by
 have e:Bd f a (aW c):=by
  refine⟨h.U,h.Z,h.Z6,?_,h.rd,h.ret⟩;have:=h.Z';show(((sL c.W c.data).1.length:Nat):Int)<=_;unfold sL
  repeat' split
  all_goals first|omega|(rename_i b _;rw[b]at this;simp at this⊢;omega)|(rename_i b;simp[b]at this⊢;omega)|(simp at this⊢;omega)
 have i:∀{d:Co},Bd f a d->Bd f a (tW d):=λ{d} k=>by
  unfold tW;split
  ·exact k
  split
  ·rename_i q;exact k.ask (.inl q.2) _ _
  exact k
 have g:∀{d:Co},Bd f a d->Bd f a (nP d):=λ{d} k=>by
  unfold nP;split
  ·exact k
  unfold pE;split
  ·split
   ·rename_i w _ _;have q:=k.ask (b:=true) (.inr rfl) w.R w.data;exact⟨q.U,q.Z,q.Z6,q.Z',q.rd,q.ret⟩
   exact k
  exact k
 rw[mO];split
 ·exact g (i e)
 exact g e
def J1{f}(d:0<=f.Z∧0<=f.queue){c}{a}(h:Bd f a c):∃b,a<=b∧b<=a+f.o.toNat∧Bd f b (uG c):=by
 unfold uG;split
 ·have k:Bd f a (s0 c):=⟨h.U,h.Z,h.Z6,h.Z',h.rd,h.ret⟩;have g:=wq (wn k) d.2;let⟨b,i,e,j⟩:=o9 d (kK (lM (s0 c))).U.o.toNat _ a g;rw[g.U]at e;exact⟨b,i,e,wb (v4 (wa (v' j)))⟩
 exact⟨a,aC _,oT,h⟩
def fp(e):xJ e=true↔((0<=e.is∧e.is<=3)∧(e.is=1->0<e.left)∧(e.is≠1->e.left=0)∧(e.is=2->ak e.i.op=3∧e.known=true)∧(e.halt≠0->e.is=3∨(e.is=1∧ak e.i.op=5∧e.halt=3))∧(Xq e.i=true∨e.halt=1∨e.halt=2)):=by
 unfold xJ;by_cases i:e.is<0∨e.is>3
 ·rw[aa i];exact⟨λh=>(by cases h),λh=>by omega⟩
 rw[dZ i];by_cases f:(e.is=1∧e.left<=0)∨(e.is≠1∧e.left≠0)
 ·rw[aa f];refine⟨λh=>(by cases h),λ⟨_,a,b,_⟩=>?_⟩;rcases f with ⟨x,y⟩|⟨x,y⟩
  ·have:=a x;omega
  ·exact absurd (b x) y
 rw[dZ f];by_cases c:e.is=2∧(ak e.i.op≠3∨e.known=false)
 ·rw[aa c];refine⟨λh=>(by cases h),λ⟨_,_,_,a,_⟩=>?_⟩;have:=a c.1;rcases c.2 with x|x
  ·exact absurd this.1 x
  ·rw[this.2]at x;cases x
 rw[dZ c];by_cases d:e.halt≠0∧e.is≠3∧ ¬(e.is=1∧ak e.i.op=5∧e.halt=3)
 ·rw[aa d];refine⟨λh=>(by cases h),λ⟨_,_,_,_,a,_⟩=>?_⟩;rcases a d.1 with x|x
  ·exact absurd x d.2.1
  ·exact absurd x d.2.2
 rw[dZ d];have k:e.is=2->ak e.i.op=3∧e.known=true:=λx=>by
  refine⟨eg λy=>c ⟨x,.inl y⟩,?_⟩
  cases n:e.known with
  |true=>rfl
  |false=>exact absurd ⟨x,.inr n⟩ c
 have l:e.halt≠0->e.is=3∨(e.is=1∧ak e.i.op=5∧e.halt=3):=λx=>eg λy=>d ⟨x,λz=>y (.inl z),λz=>y (.inr z)⟩;have j:e.is=1->0<e.left:=λx=>eg λy=>f (.inl ⟨x,oT⟩);have m:e.is≠1->e.left=0:=λx=>eg λy=>f (.inr ⟨x,y⟩);by_cases g:Xq e.i=true
 ·rw[aa g];exact⟨λ_=>⟨oT,j,m,k,l,.inl g⟩,λ_=>rfl⟩
 ·rw[dZ g];refine⟨λh=>⟨oT,j,m,k,l,.inr (sU h)⟩,λ⟨_,_,_,_,_,a⟩=>?_⟩;rcases a with a|a
  ·exact absurd a g
  ·simpa using a
structure eu(M:Int)(e:ai):Prop where
 st:xJ e=true
 kn:e.known=true->ak e.i.op=3∨ak e.i.op=4->kZ M e.V (be e.i.op)=true
 s4:ak e.i.op=4->e.is=0∨e.is=3
 k4:ak e.i.op=4->e.is=3->e.halt=0->e.known=true
theorem eu.go{M}{e}(h:eu M e):eu M (a0 e):=by
 let⟨h1,h2,h3,h4,b4,bb⟩:=(fp e).1 h.st;unfold a0;by_cases c:e.is≠1
 ·rwa[aa c]
 rw[dZ c];have f:ak e.i.op≠4:=λq=>by rcases h.s4 q with x|x<;>omega
 by_cases d:wrap64 (e.left-1)<=0
 ·rw[aa d];refine⟨(fp _).2 ⟨by simp,λq=>absurd q (by simp),λ_=>rfl,λq=>absurd q (by simp),λ_=>.inl rfl,bb⟩,λa b=>?_,λq=>absurd q f,λq=>absurd q f⟩;refine h.kn ?_ b;have a:(if ak e.i.op=5∧e.halt=0 then true else e.known)=true:=a;have b:ak e.i.op=3∨ak e.i.op=4:=b
  rwa [dZ ad]at a
 rw[dZ d];refine⟨(fp _).2 ⟨h1,λ_=>by show 0<wrap64 _;omega,λq=>absurd (b'.1 c) q,h4,b4,bb⟩,h.kn,h.s4,h.k4⟩
def In{c}{a b}(d:ak c=2)(g:a<=4294967295)(h:b<=4294967295):0<e4 c a b:=by
 have i:42<=c∧c<=45:=by
  unfold ak at d
  (repeat' split at d)<;>omega
 unfold e4;rw[dZ ad];split
 ·decide
 rename_i q;have e:b9 c b<=b9 c a:=oT;have f:=yJ c b ad (λz=>q (.inl z));have:=Kz (b9 c b) (b9 c a) (pT c b ad) (pT c a ad) oT ad;omega
theorem eu.start{M}{e}(h:eu M e){a b}(l:a<=4294967295)(m:b<=4294967295):eu M (rJ e a b):=by
 let⟨h1,h2,h3,h4,b4,bb⟩:=(fp e).1 h.st;unfold rJ;by_cases g:e.is≠0∨ak e.i.op=3∨ak e.i.op=4
 ·rwa[aa g]
 rw[dZ g];have f:e.halt=0:=eg λq=>by rcases b4 q with x|x<;>omega
 have c:ak e.i.op≠4:=λq=>g (.inr (.inr q));have d: ¬(ak e.i.op=3∨ak e.i.op=4):=λq=>g (.inr q);by_cases k:ak e.i.op=1
 ·rw[aa k];exact⟨(fp _).2 ⟨by simp,λ_=>by simp,λq=>absurd rfl q,λq=>absurd q (by simp),λq=>absurd f q,bb⟩,λ_ q=>absurd q d,λq=>absurd q c,λq=>absurd q c⟩
 rw[dZ k];by_cases i:ak e.i.op=2
 ·rw[aa i];exact⟨(fp _).2 ⟨by simp,λ_=>by have:=In i l m;show(0:Int)<((e4 e.i.op a b:Nat):Int);omega,λq=>absurd rfl q,λq=>absurd q (by simp),λq=>absurd f q,bb⟩,λ_ q=>absurd q d,λq=>absurd q c,λq=>absurd q c⟩
 rw[dZ i];by_cases j:ak e.i.op=5
 ·rw[aa j];split
  ·exact⟨(fp _).2 ⟨by simp,λ_=>by simp,λq=>absurd rfl q,λq=>absurd q (by simp),λq=>absurd f q,bb⟩,λ_ q=>absurd q d,λq=>absurd q c,λq=>absurd q c⟩
  refine⟨(fp _).2 ⟨by simp,λ_=>by simp,λq=>absurd rfl q,λq=>absurd q (by simp),λ_=>.inr ⟨rfl,j,rfl⟩,?_⟩,λ_ q=>absurd q d,λq=>absurd q c,λq=>absurd q c⟩;rcases bb with x|x|x
  ·exact .inl x
  ·omega
  omega
 rw[dZ j];exact⟨(fp _).2 ⟨by simp,λ_=>by simp,λq=>absurd rfl q,λq=>absurd q (by simp),λq=>absurd f q,bb⟩,λ_ q=>absurd q d,λq=>absurd q c,λq=>absurd q c⟩
theorem eu.V{M}{e}(h:eu M e)(a):eu M (yC e M a):=by
 let⟨h1,h2,h3,h4,bb,b4⟩:=(fp e).1 h.st;unfold yC;by_cases b:(ak e.i.op≠3∧ak e.i.op≠4)∨e.is≠0∨e.known=true
 ·rwa[aa b]
 rw[dZ b];have i:e.is=0:=eg λq=>b (.inr (.inl q));have g:e.halt=0:=eg λq=>by rcases bb q with x|x<;>omega
 split
 ·rename_i f;exact⟨(fp _).2 ⟨h1,h2,h3,λq=>absurd (show e.is=2 from q) ad,bb,b4⟩,λ_ _=>f,h.s4,λ_ _ _=>rfl⟩
 ·have c:e.known=false:=by cases d:e.known with
   |false=>rfl
   |true=>exact absurd (.inr (.inr d)) b
  refine⟨(fp _).2 ⟨by simp,λq=>absurd q (by simp),λ_=>(h3 ad),λq=>absurd q (by simp),λ_=>.inl rfl,?_⟩,λq=>(by rw[show e.known=true from q]at c;cases c),λ_=>.inr rfl,λ_ _ q=>?_⟩
  ·rcases b4 with x|x|x
   ·exact .inl x
   ·omega
   ·omega
  ·have q:(if ak e.i.op=4 then(5:Int)else 4)=0:=q;split at q<;>omega
theorem eu.take{M}{e}(h:eu M e)(s):eu M (uM e s):=by
 let⟨h1,h2,h3,h4,bb,b4⟩:=(fp e).1 h.st;unfold uM;by_cases a:ak e.i.op≠3∨e.known=false∨(e.is≠0∧e.is≠2)
 ·rwa[aa a]
 rw[dZ a];have c:ak e.i.op=3:=eg λq=>a (.inl q);have b:e.halt=0:=eg λq=>by rcases bb q with x|x<;>omega
 exact⟨(fp _).2 ⟨by simp,λ_=>by simp,λq=>absurd rfl q,λq=>absurd q (by simp),λq=>absurd b q,b4⟩,h.kn,λq=>absurd (show ak e.i.op=4 from q) ad,λq=>absurd (show ak e.i.op=4 from q) ad⟩
theorem eu.store{M}{e}(h:eu M e)(b):eu M (uF e b):=by
 let⟨h1,h2,h3,h4,b4,bb⟩:=(fp e).1 h.st;unfold uF;by_cases a:ak e.i.op≠4∨e.known=false∨e.is≠0
 ·rwa[aa a]
 rw[dZ a];have f:e.is=0:=eg λq=>a (.inr (.inr q))
 have c:e.known=true:=by cases d:e.known with
  |true=>rfl
  |false=>exact absurd (.inr (.inl d)) a
 exact⟨(fp _).2 ⟨by simp,λq=>absurd q (by simp),λ_=>h3 ad,λq=>absurd q (by simp),λ_=>.inl rfl,bb⟩,h.kn,λ_=>.inr rfl,λ_ _ _=>c⟩
theorem eu.fill{M}{e}(h:eu M e)(c)(agY):eu M (wO c agY e):=by
 unfold wO;split
 ·exact eu.take (e:={e with Z4:=true}) ⟨h.st,h.kn,h.s4,h.k4⟩ _
 exact h
theorem eu.wait{M}{e}(h:eu M e)(a:ak e.i.op=3)(c:e.known=true)(d:e.is=0∨e.is=2):eu M {e with is:=2}:=by
 let⟨h1,h2,cs,h4,bb,b4⟩:=(fp e).1 h.st;have b:e.halt=0:=eg λq=>by rcases bb q with x|x<;>omega
 exact⟨(fp _).2 ⟨by simp,λq=>absurd q (by simp),λ_=>cs ad,λ_=>⟨a,c⟩,λq=>absurd b q,b4⟩,h.kn,λq=>absurd (show ak e.i.op=4 from q) ad,λq=>absurd (show ak e.i.op=4 from q) ad⟩
def K'(e):(a0 e).no=e.no:=by unfold a0;(repeat' split)<;>rfl
def Ix(e)(a b):(rJ e a b).no=e.no:=by unfold rJ;(repeat' split)<;>rfl
def v_(e)(M)(a):(yC e M a).no=e.no:=by unfold yC;(repeat' split)<;>rfl
def qt(e)(s):(uM e s).no=e.no:=by unfold uM;split<;>rfl
def IA(e)(b):(uF e b).no=e.no:=by unfold uF;split<;>rfl
def IF(c)(agY)(e):(wO c agY e).no=e.no:=by
 unfold wO;split
 ·rw[qt]
 rfl
structure ec(M nx:Int)(l:List ai):Prop where
 ev:∀e∈l,eu M e∧e.no<nx
 up:(l.map (·.no)).Pairwise (· < ·)
theorem ec.nil{M a}:ec M a []:=⟨λ_ h=>(List.not_mem_nil h).elim,.nil⟩
theorem ec.map{M c}{l}(h:ec M c l){f}(g:∀e,eu M e->eu M (f e))(a:∀e,(f e).no=e.no):ec M c (l.map f):=by
 refine⟨λe d=>?_,?_⟩
 ·obtain⟨x,b,rfl⟩:=pG.1 d;exact⟨g x (h.ev x b).1,by rw[a];exact(h.ev x b).2⟩
 rw[List.map_map,show((λe:ai=>e.no)∘f)=λe=>e.no from funext a];exact h.up
theorem ec.set{M d}{l}(h:ec M d l){i}{x e}(a:l[i]?=some x)(f:eu M e)(c:e.no=x.no):ec M d (l.set i e):=by
 refine⟨λy g=>?_,?_⟩
 ·rcases List.mem_or_eq_of_mem_set g with q|rfl
  ·exact h.ev y q
  exact⟨f,by rw[c];exact(h.ev x (aB a)).2⟩
 rw[List.map_set,c,show(l.map _).set i x.no=l.map (·.no)from ?_]
 ·exact h.up
 refine dD λj=>?_;by_cases b:i=j
 ·subst b;rw[aZ (by rw[aH];exact ((Em.1 a).1)),aX,a];rfl
 rw[kX b]
theorem ec.sub{M b}{l k}(h:ec M b l)(a:k.Sublist l):ec M b k:=
 ⟨λe c=>h.ev e (a.mem c),h.up.sublist (a.map _)⟩
theorem ec.cut{M c}{l}(h:ec M c l)(i):ec M c (dk l i):=by
 unfold dk;split
 ·rename_i e b;have d:(l.take i++[{e with M:=e.next}])=(l.set i {e with M:=e.next}).take (i+1):=by
   rw[bW,aZ ((Em.1 b).1),List.take_set_of_le (aC _)];rfl
  rw[d];have a:=(h.ev e (aB b)).1;exact(h.set b (e:={e with M:=e.next}) ⟨a.st,a.kn,a.s4,a.k4⟩ rfl).sub (List.take_sublist _ _)
 exact h
theorem ec.push{M d}{l}(h:ec M d l){e}(i:eu M e)(j:e.no=d):ec M (d+1) (l++[e]):=by
 refine⟨λy c=>?_,?_⟩
 ·rcases cz.1 c with q|q
  ·have:=h.ev y q;exact⟨this.1,oT⟩
  rw[uJ.1 q];exact⟨i,oT⟩
 rw[dH,List.pairwise_append];refine⟨h.up,List.pairwise_singleton _ _,λa g b f=>?_⟩;obtain⟨y,c,rfl⟩:=pG.1 g;have:=(h.ev y c).2;have f:b=e.no:=sU f;omega
theorem ec.right{M d}{l}(h:ec M d l)(c:l.length<=8):Ff l=true:=by
 unfold Ff;rw[aP,rC];refine⟨jP c,λi f=>?_⟩;unfold IB;split
 ·rename_i e a;rw[aP];refine⟨?_,(h.ev e (aB a)).1.st⟩
  cases i with
  |zero=>rfl
  |succ i=>
   have g:=(Em.1 a).1;have:=List.pairwise_iff_getElem.1 h.up i _ (by rw[aH];omega) (by rw[aH];omega) ad;rw[List.getElem_map,List.getElem_map]at this;have b:l[i+1]=e:=(Em.1 a).2;rw[b]at this;unfold p7;rw[(oT:i+1-1=i),aA ad];simp[this]
 ·rfl
theorem ec.W{M a:Int}{r:Nat->Nat}{l:List ai}(h:ec M a l):∀k,ec M a (bv r l k)
 |0=>h
 | k+1=>by
  have ih:=ec.W (r:=r) h k;show ec M a (e9 r (bv r l k) k);unfold e9;split
  ·rename_i e b;split
   ·split
    ·exact ih.set b ((ih.ev e (aB b)).1.store _) (IA _ _)
    ·exact ih
   ·exact ih
  ·exact ih
end Go.Proofs.YtdhclfgoomldfaaGreatDoor
