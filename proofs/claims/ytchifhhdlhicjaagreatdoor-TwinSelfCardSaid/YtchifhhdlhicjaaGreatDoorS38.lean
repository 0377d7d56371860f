/- Lemmas. -/
import Derived.Test.YtchifhhdlhicjaaGreatDoorS1
import Derived.Test.YtchifhhdlhicjaaGreatDoorS30
import Derived.Test.YtchifhhdlhicjaaGreatDoorS36
import Derived.Test.YtchifhhdlhicjaaGreatDoorS37
set_option linter.all false
namespace Go.Proofs.YtchifhhdlhicjaaGreatDoor
open Go.Proofs.Tryz
set_option maxRecDepth 100000
set_option maxHeartbeats 4000000
open Go.RowKit
def rFd(x a t:Nat)(hx:x<=4294967295)(e1:a<=t)(e2:t<32):bI C0 62 [vU x,vN a,vN t] (.v (.int .u32 ((field x a (t+1-a):Nat):Int))):=by
 refine dIZ func62 rfl ?_;refine rW _ rfl (okN (wrap_i64 omT omT))<|rW _ rfl (okN (by rw[wrap_i64 omT omT];omega))<|zC (SC x a (t+1-a) hx omT omT) ?_;exact fT rfl rfl
abbrev ae7(n:Nat):List AV:=[.v (.int .i64 (n:Int))]
def Mr(l:List Nat)(f:Nat)(hf:f<=7):bI C0 119 [.sl 1 (l.map ae7) true,vU f] (.v (.int .i64 ((pickN l f:Nat):Int))):=by
 refine dIZ func119 rfl ?_;refine zW _ (okI (bH hf rfl))<|rW _ rfl (af2 (λn:Nat=>Res.ok (.v (.int .i64 (n:Int)))) (aH ..))<|zW _ (okB (ltN _ _)) ?_;refine zPr (f<l.length) qW (λh1=>?_) (λh1=>?_)
 ·skip
  refine zX (ae7 (l.getD f 0)) (.dp 1 0 (ae7 (l.getD f 0))) rfl (by rw[Int.toNat_natCast,aX,aA omT,aR,aA omT];rfl) ?_;exact fI rfl (rfl)
 exact fN rfl (by show 0=l.getD f 0;rw[aR,bE omT];rfl)
def ac5(f g:Nat)(hf:f<=7)(hg:g<=127):bI C0 120 [vU f,vU g] (.v (.int .i64 ((immR f g:Nat):Int))):=by
 refine dIZ func120 rfl ?_;refine zW _ (okB (eqN _ _)) ?_;refine zEq f 1 (λh1=>?_) (λh1=>?_)
 ·refine zW _ (okB (eqN _ _)) ?_;refine zEq g 0 (λh2=>?_) (λh2=>?_)
  ·exact fN rfl (by unfold immR;simp[h1,h2])
  exact fN rfl (by unfold immR;simp[h1,h2])
 refine zW _ (okB (eqN _ _)) ?_;refine zEq f 5 (λh3=>?_) (λh3=>?_)
 ·refine zW _ (okB (eqN _ _)) ?_;refine zEq g 0 (λh4=>?_) (λh4=>?_)
  ·exact fN rfl (by unfold immR;simp[h1,h3,h4])
  refine zW _ (okB (eqN _ _)) ?_;refine zEq g 32 (λh5=>?_) (λh5=>?_)
  ·exact fN rfl (by unfold immR;simp[h1,h3,h4,h5])
  exact fN rfl (by unfold immR;simp[h1,h3,h4,h5])
 refine zV (.sl 1 ([[vI 19],[vI 0],[vI 20],[vI 21],[vI 22],[vI 0],[vI 23],[vI 24]]) true)<|zC (Mr [19,0,20,21,22,0,23,24] f hf) ?_;exact fN rfl (by unfold immR;simp[h1,h3])
def ac6(f g:Nat)(hf:f<=7)(hg:g<=127):bI C0 121 [vU f,vU g] (.v (.int .i64 ((regR f g:Nat):Int))):=by
 refine dIZ func121 rfl ?_;refine zW _ (okB (eqN _ _)) ?_;refine zEq g 0 (λh1=>?_) (λh1=>?_)
 ·refine zV (.sl 1 ([[vI 28],[vI 30],[vI 31],[vI 32],[vI 33],[vI 34],[vI 36],[vI 37]]) true)<|zC (Mr [28,30,31,32,33,34,36,37] f hf) ?_;exact fN rfl (by unfold regR;simp[h1])
 refine zW _ (okB (eqN _ _)) ?_;refine zEq g 1 (λh2=>?_) (λh2=>?_)
 ·refine zV (.sl 1 ([[vI 38],[vI 39],[vI 40],[vI 41],[vI 42],[vI 43],[vI 44],[vI 45]]) true)<|zC (Mr [38,39,40,41,42,43,44,45] f hf) ?_;exact fN rfl (by unfold regR;simp[h1,h2])
 refine zW _ (okB (eqN _ _))<|gBS (x:=vB (f==0)) rfl id (okB (eqN _ _))<|zN rfl (λh=>h) ?_;refine zPr (g=32∧f=0) (uA _ _ pEq pEq) (λh3=>?_) (λh3=>?_)
 ·exact fN rfl (by unfold regR;simp[h1,h2,h3])
 refine zW _ (okB (eqN _ _))<|gBS (x:=vB (f==5)) rfl id (okB (eqN _ _))<|zN rfl (λh=>h) ?_;refine zPr (g=32∧f=5) (uA _ _ pEq pEq) (λh4=>?_) (λh4=>?_)
 ·exact fN rfl (by unfold regR;simp[h1,h2,h3,h4])
 exact fN rfl (by unfold regR;simp[h1,h2,h3,h4])
def aeX(x:Nat)(hx:x<=4294967295):bI C0 59 [vU x] (.v (.int .i64 ((refOp x:Nat):Int))):=by
 refine dIZ func59 rfl ?_;refine zC (rFd x 12 14 hx dT dT)<|zC (rFd x 25 31 hx dT dT) ?_;refine zW _ (okB (eqN _ _)) ?_;refine zEq x 15 (λh1=>?_) (λh1=>?_)
 ·exact fN rfl (by unfold refOp refTab;simp[h1])
 refine zW _ (okB (eqN _ _)) ?_;refine zEq x 115 (λh2=>?_) (λh2=>?_)
 ·exact fN rfl (by unfold refOp refTab;simp[h1,h2])
 refine zW _ (okB (eqN _ _)) ?_;refine zEq x 1048691 (λh3=>?_) (λh3=>?_)
 ·exact fN rfl (by unfold refOp refTab;simp[h1,h2,h3])
 refine zC (rFd x 0 6 hx dT dT)<|zW _ (okB (eqN _ _)) ?_;refine zEq (field x 0 7) 55 (λh4=>?_) (λh4=>?_)
 ·exact fN rfl (by unfold refOp refTab;simp[h1,h2,h3,h4])
 refine zW _ (okB (eqN _ _)) ?_;refine zEq (field x 0 7) 23 (λh5=>?_) (λh5=>?_)
 ·exact fN rfl (by unfold refOp refTab;simp[h1,h2,h3,h4,h5])
 refine zW _ (okB (eqN _ _)) ?_;refine zEq (field x 0 7) 111 (λh6=>?_) (λh6=>?_)
 ·exact fN rfl (by unfold refOp refTab;simp[h1,h2,h3,h4,h5,h6])
 refine zW _ (okB (eqN _ _)) ?_;refine zEq (field x 0 7) 103 (λh7=>?_) (λh7=>?_)
 ·refine zV (.sl 1 ([[vI 4]]) true)<|zC (Mr [4] (field x 12 3) (gQ rfl)) ?_;exact fN rfl (by unfold refOp refTab;simp[h1,h2,h3,h4,h5,h6,h7])
 refine zW _ (okB (eqN _ _)) ?_;refine zEq (field x 0 7) 99 (λh8=>?_) (λh8=>?_)
 ·refine zV (.sl 1 ([[vI 5],[vI 6],[vI 0],[vI 0],[vI 7],[vI 8],[vI 9],[vI 10]]) true)<|zC (Mr [5,6,0,0,7,8,9,10] (field x 12 3) (gQ rfl)) ?_;exact fN rfl (by unfold refOp refTab;simp[h1,h2,h3,h4,h5,h6,h7,h8])
 refine zW _ (okB (eqN _ _)) ?_;refine zEq (field x 0 7) 3 (λh9=>?_) (λh9=>?_)
 ·refine zV (.sl 1 ([[vI 11],[vI 12],[vI 13],[vI 0],[vI 14],[vI 15]]) true)<|zC (Mr [11,12,13,0,14,15] (field x 12 3) (gQ rfl)) ?_;exact fN rfl (by unfold refOp refTab;simp[h1,h2,h3,h4,h5,h6,h7,h8,h9])
 refine zW _ (okB (eqN _ _)) ?_;refine zEq (field x 0 7) 35 (λh10=>?_) (λh10=>?_)
 ·refine zV (.sl 1 ([[vI 16],[vI 17],[vI 18]]) true)<|zC (Mr [16,17,18] (field x 12 3) (gQ rfl)) ?_;exact fN rfl (by unfold refOp refTab;simp[h1,h2,h3,h4,h5,h6,h7,h8,h9,h10])
 refine zW _ (okB (eqN _ _)) ?_;refine zEq (field x 0 7) 19 (λh11=>?_) (λh11=>?_)
 ·refine zC (ac5 _ _ (gQ rfl) (gQ rfl)) ?_;exact fN rfl (by unfold refOp refTab;simp[h1,h2,h3,h4,h5,h6,h7,h8,h9,h10,h11])
 refine zW _ (okB (eqN _ _)) ?_;refine zEq (field x 0 7) 51 (λh12=>?_) (λh12=>?_)
 ·refine zC (ac6 _ _ (gQ rfl) (gQ rfl)) ?_;exact fN rfl (by unfold refOp refTab;simp[h1,h2,h3,h4,h5,h6,h7,h8,h9,h10,h11,h12])
 exact fN rfl (by unfold refOp refTab;simp[h1,h2,h3,h4,h5,h6,h7,h8,h9,h10,h11,h12])
def numL(x L:Nat):Nat:=
 if L=73 then sext (field x 20 12) 12 else if L=83 then sext (field x 7 5+32*field x 25 7) 12
 else if L=66 then sext (2*field x 8 4+32*field x 25 6+2048*field x 7 1+4096*field x 31 1) 13 else if L=85 then 4096*field x 12 20
 else if L=74 then sext (2*field x 21 10+2048*field x 20 1+4096*field x 12 8+1048576*field x 31 1) 21 else if L=84 then field x 20 5 else 0
def ae6(op:Int):letterOf op<=255:=by unfold letterOf;(repeat' split)<;>decide
def lf(op:Int):(cW op,letterOf op)∈[(0,0),(6,85),(7,74),(2,73),(5,66),(4,83),(3,84),(1,82),(8,87)]:=by
 unfold cW letterOf;(repeat' split)<;>first|decide|(exfalso;omega)
def lfc(op:Int){p:Nat->Nat->Prop}(h0:p 0 0)(h6:p 6 85)(h7:p 7 74)(h2:p 2 73)(h5:p 5 66)(h4:p 4 83)(h3:p 3 84)(h1:p 1 82)(h8:p 8 87):p (cW op) (letterOf op):=by
 have h:=lf op;simp only[al_List_mem_cons,Prod.mk.injEq,List.not_mem_nil,or_false]at h;rcases h with h|h|h|h|h|h|h|h|h<;>rw[h.1,h.2]<;>assumption
def ac7(x:Nat)(op:Int):numL x (letterOf op)=EG (cW op) x:=by
 rw[abN x _ (sB op)];exact lfc op (p:=λf L=>numL x L=adH x f) rfl rfl rfl rfl rfl rfl rfl rfl rfl
def aeY(x L:Nat)(hx:x<=4294967295)(hL:L<=255):bI C0 61 [vU x,.v (.int .u8 (L:Int))] (.v (.int .u32 ((numL x L:Nat):Int))):=by
 refine dIZ func61 rfl ?_;refine zC (rFd x 31 31 hx dT dT) ?_;refine zW _ (okB (eqN _ _)) ?_;refine zEq L 73 (λh1=>?_) (λh1=>?_)
 ·refine rCi rfl (rFd x 20 31 hx dT dT)<|zC (Pm (field x 20 12) 12 (aL ((fle x 20 12 4095 rfl)) dT) dT dT) ?_;exact fN rfl (by unfold numL;simp[h1])
 refine zW _ (okB (eqN _ _)) ?_;refine zEq L 83 (λh2=>?_) (λh2=>?_)
 ·refine zC (rFd x 7 11 hx dT dT)<|rCi rfl (rFd x 25 31 hx dT dT) ?_;have b1:32*(field x 25 7)<=4064:=cJ (aC 32) (fle x 25 7 127 rfl);refine rW _ rfl (okI (nJ b1 rfl)) ?_;have b2:(field x 7 5)+(32*(field x 25 7))<=4095:=aD (fle x 7 5 31 rfl) b1;refine rW _ rfl (okI (nJ b2 rfl))<|zC (Pm ((field x 7 5)+(32*(field x 25 7))) 12 (aL (b2) dT) dT dT) ?_;exact fN rfl (by unfold numL;simp[h1,h2])
 refine zW _ (okB (eqN _ _)) ?_;refine zEq L 66 (λh3=>?_) (λh3=>?_)
 ·refine rCi rfl (rFd x 8 11 hx dT dT) ?_;have b3:2*(field x 8 4)<=30:=cJ (aC 2) (fle x 8 4 15 rfl);refine zW _ (okI (nJ b3 rfl))<|rCi rfl (rFd x 25 30 hx dT dT) ?_;have b4:32*(field x 25 6)<=2016:=cJ (aC 32) (fle x 25 6 63 rfl);refine rW _ rfl (okI (nJ b4 rfl)) ?_;have b5:(2*(field x 8 4))+(32*(field x 25 6))<=2046:=aD b3 b4;refine zW _ (okI (nJ b5 rfl))<|rCi rfl (rFd x 7 7 hx dT dT) ?_;have b6:2048*(field x 7 1)<=2048:=cJ (aC 2048) (fle x 7 1 1 rfl);refine rW _ rfl (okI (nJ b6 rfl)) ?_;have b7:((2*(field x 8 4))+(32*(field x 25 6)))+(2048*(field x 7 1))<=4094:=aD b5 b6;refine zW _ (okI (nJ b7 rfl)) ?_;have b8:4096*(field x 31 1)<=4096:=cJ (aC 4096) (fle x 31 1 1 rfl);refine rW _ rfl (okI (nJ b8 rfl)) ?_;have b9:(((2*(field x 8 4))+(32*(field x 25 6)))+(2048*(field x 7 1)))+(4096*(field x 31 1))<=8190:=aD b7 b8;refine rW _ rfl (okI (nJ b9 rfl))<|zC (Pm ((((2*(field x 8 4))+(32*(field x 25 6)))+(2048*(field x 7 1)))+(4096*(field x 31 1))) 13 (aL (b9) dT) dT dT) ?_;exact fN rfl (by unfold numL;simp[h1,h2,h3])
 refine zW _ (okB (eqN _ _)) ?_;refine zEq L 85 (λh4=>?_) (λh4=>?_)
 ·refine rCi rfl (rFd x 12 31 hx dT dT) ?_;have b10:4096*(field x 12 20)<=4294963200:=cJ (aC 4096) (fle x 12 20 1048575 rfl);refine zW _ (okI (nJ b10 rfl)) ?_;exact fN rfl (by unfold numL;simp[h1,h2,h3,h4])
 refine zW _ (okB (eqN _ _)) ?_;refine zEq L 74 (λh5=>?_) (λh5=>?_)
 ·refine rCi rfl (rFd x 21 30 hx dT dT) ?_;have b11:2*(field x 21 10)<=2046:=cJ (aC 2) (fle x 21 10 1023 rfl);refine zW _ (okI (nJ b11 rfl))<|rCi rfl (rFd x 20 20 hx dT dT) ?_;have b12:2048*(field x 20 1)<=2048:=cJ (aC 2048) (fle x 20 1 1 rfl);refine rW _ rfl (okI (nJ b12 rfl)) ?_;have b13:(2*(field x 21 10))+(2048*(field x 20 1))<=4094:=aD b11 b12;refine zW _ (okI (nJ b13 rfl))<|rCi rfl (rFd x 12 19 hx dT dT) ?_;have b14:4096*(field x 12 8)<=1044480:=cJ (aC 4096) (fle x 12 8 255 rfl);refine rW _ rfl (okI (nJ b14 rfl)) ?_;have b15:((2*(field x 21 10))+(2048*(field x 20 1)))+(4096*(field x 12 8))<=1048574:=aD b13 b14;refine zW _ (okI (nJ b15 rfl)) ?_;have b16:1048576*(field x 31 1)<=1048576:=cJ (aC 1048576) (fle x 31 1 1 rfl);refine rW _ rfl (okI (nJ b16 rfl)) ?_;have b17:(((2*(field x 21 10))+(2048*(field x 20 1)))+(4096*(field x 12 8)))+(1048576*(field x 31 1))<=2097150:=aD b15 b16;refine rW _ rfl (okI (nJ b17 rfl))<|zC (Pm ((((2*(field x 21 10))+(2048*(field x 20 1)))+(4096*(field x 12 8)))+(1048576*(field x 31 1))) 21 (aL (b17) dT) dT dT) ?_;exact fN rfl (by unfold numL;simp[h1,h2,h3,h4,h5])
 refine zW _ (okB (eqN _ _)) ?_;refine zEq L 84 (λh6=>?_) (λh6=>?_)
 ·refine zC (rFd x 20 24 hx dT dT) ?_;exact fN rfl (by unfold numL;simp[h1,h2,h3,h4,h5,h6])
 exact fN rfl (by unfold numL;simp[h1,h2,h3,h4,h5,h6])
def Pl(x:Nat)(k:Nat):SI:=
 if refOp x=0 then MG else⟨k,if letterOf k=83∨letterOf k=66∨letterOf k=87 then 0 else(field x 7 5:Nat),if letterOf k=85∨letterOf k=74∨letterOf k=87 then 0 else(field x 15 5:Nat),
  if letterOf k=82∨letterOf k=83∨letterOf k=66 then(field x 20 5:Nat)else 0,numL x (letterOf k)⟩
def Yu(x:Nat)(hx:x<4294967296):Pl x (refOp x)=decN x:=by
 unfold Pl decN;rw[<-Wi x hx];by_cases h:opOf x=0
 ·rw[af1 h,af1 h]
 rw[dZ h,dZ h,ac7];unfold xW;have hk:=Fp x h;have f1:=AY (opOf x:Int) ⟨oT,oT⟩;generalize EG _ _=z;revert f1;exact lfc (opOf x) (p:=λf L=>1<=f->SI.mk (opOf x) (if L=83∨L=66∨L=87 then 0 else(field x 7 5:Nat)) (if L=85∨L=74∨L=87 then 0 else(field x 15 5:Nat)) (if L=82∨L=83∨L=66 then(field x 20 5:Nat)else 0) z=⟨opOf x,if yW f then(field x 7 5:Nat)else 0,if uS f then(field x 15 5:Nat)else 0,if vS f then(field x 20 5:Nat)else 0,z⟩) (λh=>absurd h dT) (λ_=>rfl) (λ_=>rfl) (λ_=>rfl) (λ_=>rfl) (λ_=>rfl) (λ_=>rfl) (λ_=>rfl) (λ_=>rfl)
def ac8(x:Nat)(hx:x<=4294967295):bI C0 24 [vU x] (.tup [siA (Pl x (refOp x)),.v (.int .i64 ((if refOp x=0 then 20 else 0:Nat):Int))]):=by
 refine dIZ func24 rfl ?_;refine zC (aeX x hx) ?_;refine zW _ (okB (eqN _ _)) ?_;refine zEq (refOp x) 0 (λh1=>?_) (λh1=>?_)
 ·refine zV (.agg [vI 0,vI 0,vI 0,vI 0,.v (.int .u32 0)]) ?_;exact fT rfl (by rw[show Pl x (refOp x)=⟨0,0,0,0,0⟩from by unfold Pl;rw[af1 h1];rfl,af1 h1];rfl)
 refine zC (Vs _)<|rCi rfl (aeY x _ hx (ae6 _))<|zV (.agg [vN (refOp x),vI 0,vI 0,vI 0,vU (numL x (letterOf (refOp x)))]) ?_;refine zW _ (okB (eqN _ _)) ?_;refine zEq (letterOf (refOp x)) 87 (λh2=>?_) (λh2=>?_)
 ·exact fT rfl (by rw[show Pl x (refOp x)=⟨((refOp x:Nat):Int),0,0,0,(numL x (letterOf (refOp x)))⟩from by unfold Pl;rw[dZ h1];congr 1<;>split<;>first|rfl|(exfalso;omega),dZ h1];rfl)
 refine zW _ (okB (neN _ _))<|gBS (x:=vB ((letterOf (refOp x)) != 66)) rfl id (okB (neN _ _))<|zN rfl (λh=>h) ?_;refine zPr (¬(letterOf (refOp x))=83∧ ¬(letterOf (refOp x))=66) (uA _ _ pNe pNe) (λh3=>?_) (λh3=>?_)
 all_goals
  first|(refine rCi rfl (rFd x 7 11 hx dT dT) ?_;refine zW _ (okI (bH (fle x 7 5 31 rfl) rfl)) ?_)|skip
  refine zW _ (okB (neN _ _))<|gBS (x:=vB ((letterOf (refOp x)) != 74)) rfl id (okB (neN _ _))<|zN rfl (λh=>h) ?_;refine zPr (¬(letterOf (refOp x))=85∧ ¬(letterOf (refOp x))=74) (uA _ _ pNe pNe) (λh4=>?_) (λh4=>?_)
  all_goals
   first|(refine rCi rfl (rFd x 15 19 hx dT dT) ?_;refine zW _ (okI (bH (fle x 15 5 31 rfl) rfl)) ?_)|skip
   refine zW _ (okB (eqN _ _))<|gBS (x:=vB ((letterOf (refOp x))==83)) rfl id (okB (eqN _ _))<|zN rfl (by simp) ?_;refine gBS (x:=vB ((letterOf (refOp x))==66)) rfl id (okB (eqN _ _))<|zN rfl (by simp) ?_;refine zPr (((letterOf (refOp x))=82∨(letterOf (refOp x))=83)∨(letterOf (refOp x))=66) (wP _ _ (wP _ _ pEq pEq) pEq) (λh5=>?_) (λh5=>?_)
   ·refine rCi rfl (rFd x 20 24 hx dT dT)<|zW _ (okI (bH (fle x 20 5 31 rfl) rfl)) ?_
    first|(exact fT rfl (by rw[show Pl x (refOp x)=⟨((refOp x:Nat):Int),((field x 7 5:Nat):Int),((field x 15 5:Nat):Int),((field x 20 5:Nat):Int),(numL x (letterOf (refOp x)))⟩from by unfold Pl;rw[dZ h1];congr 1<;>split<;>first|rfl|(exfalso;omega),dZ h1];rfl))|(exact fT rfl (by rw[show Pl x (refOp x)=⟨((refOp x:Nat):Int),0,((field x 15 5:Nat):Int),((field x 20 5:Nat):Int),(numL x (letterOf (refOp x)))⟩from by unfold Pl;rw[dZ h1];congr 1<;>split<;>first|rfl|(exfalso;omega),dZ h1];rfl))|(exact fT rfl (by rw[show Pl x (refOp x)=⟨((refOp x:Nat):Int),((field x 7 5:Nat):Int),0,((field x 20 5:Nat):Int),(numL x (letterOf (refOp x)))⟩from by unfold Pl;rw[dZ h1];congr 1<;>split<;>first|rfl|(exfalso;omega),dZ h1];rfl))|(exact fT rfl (by rw[show Pl x (refOp x)=⟨((refOp x:Nat):Int),0,0,((field x 20 5:Nat):Int),(numL x (letterOf (refOp x)))⟩from by unfold Pl;rw[dZ h1];congr 1<;>split<;>first|rfl|(exfalso;omega),dZ h1];rfl))
   first|(exact fT rfl (by rw[show Pl x (refOp x)=⟨((refOp x:Nat):Int),((field x 7 5:Nat):Int),((field x 15 5:Nat):Int),0,(numL x (letterOf (refOp x)))⟩from by unfold Pl;rw[dZ h1];congr 1<;>split<;>first|rfl|(exfalso;omega),dZ h1];rfl))|(exact fT rfl (by rw[show Pl x (refOp x)=⟨((refOp x:Nat):Int),0,((field x 15 5:Nat):Int),0,(numL x (letterOf (refOp x)))⟩from by unfold Pl;rw[dZ h1];congr 1<;>split<;>first|rfl|(exfalso;omega),dZ h1];rfl))|(exact fT rfl (by rw[show Pl x (refOp x)=⟨((refOp x:Nat):Int),((field x 7 5:Nat):Int),0,0,(numL x (letterOf (refOp x)))⟩from by unfold Pl;rw[dZ h1];congr 1<;>split<;>first|rfl|(exfalso;omega),dZ h1];rfl))|(exact fT rfl (by rw[show Pl x (refOp x)=⟨((refOp x:Nat):Int),0,0,0,(numL x (letterOf (refOp x)))⟩from by unfold Pl;rw[dZ h1];congr 1<;>split<;>first|rfl|(exfalso;omega),dZ h1];rfl))
def aeZ(x:Nat)(hx:x<4294967296):bI C0 24 [.v (.int .u32 (x:Int))] (.tup [siA (decN x),.v (.int .i64 ((decE x:Nat):Int))]):=by
 have h:=ac8 x (aI hx);rw[Yu x hx]at h;unfold decE;rw[Wi x hx];exact h
def Yr(s:ByteArray)(hs:s.size<=4)(k:Nat)(hk:k<=s.size):joinTo (s.data.toList.drop (s.size-k)) k<=4294967295:=by
 have h:=yK (s.data.toList.drop (s.size-k)) k;have:256 ^ k<=256 ^ 4:=bU dT omT;omega
def ae5(s:ByteArray)(hs:s.size<=4):joinTo s.data.toList s.size<=4294967295:=by
 have h:=Yr s hs s.size (aC _)
 rwa [eK,bS]at h
def adT(s:ByteArray):s.data.toList.length=s.size:=cV
def Ys(s:ByteArray)(hs:s.size<=4)(k:Nat)(hk:k<s.size):(256*joinTo (s.data.toList.drop (s.size-k)) k%4294967296+(s.data.toList.getD (((s.size:Int)-1-(k:Int))).toNat 0).toNat)%4294967296=joinTo (s.data.toList.drop (s.size-(k+1))) (k+1):=by
 have h:=SL s.data.toList k (by rw[adT];exact hk);rw[adT]at h;have h2:=Yr s hs (k+1) hk;rw[(oT:(((s.size:Int)-1-(k:Int))).toNat=s.size-1-k),h];rw[h]at h2;omega
def u8w(b:UInt8):IntKind.wrap .u32 ((b.toNat:Nat):Int)=((b.toNat:Nat):Int):=by
 have:=UInt8.toNat_lt b;simp only[IntKind.wrap,IntKind.signed,IntKind.bits];simp;omega
def aa8(n:Nat):IntKind.wrap .u32 (n:Int)=((n%4294967296:Nat):Int):=by
 simp only[IntKind.wrap,IntKind.signed,IntKind.bits];simp
def aa9(s:ByteArray)(hs:s.size<=4):bI C0 32 [.v (.string s)] (.tup [.v (.int .u32 ((joinTo s.data.toList s.size:Nat):Int)),.v (.int .i64 0)]):=by
 refine dIZ func32 rfl ?_;refine rV (vN s.size) rfl<|zW (vB (decide (s.size>4))) (okB (gtN _ _)) ?_;refine zPr (s.size>4) qW (λh1=>by omega) (λh1=>?_);refine rV (vN s.size) rfl<|zW (vI ((s.size:Int)-1)) (okN (wrap_i64 omT omT))<|zLo (κ:=Nat) (λk=>⟨slotsF [(0,.v (.string s)),(4,vU (joinTo (s.data.toList.drop (s.size-k)) k)),(5,vI ((s.size:Int)-1-(k:Int)))],heapF [],10⟩) (λk=>k<=s.size) (λk=>s.size-k) 0 (λs=>s) (wOL (λs=>s) ⟨⟨rfl,rfl⟩,⟨rfl,rfl⟩,⟨af2 (λn:Int=>AV.v (.int .i64 n)) (by simp),rfl⟩,trivial⟩ trivial rfl) (aE _) ?_;intro k hk;refine zV (vB (decide (((s.size:Int)-1-(k:Int))>=0))) ?_;refine zPr (((s.size:Int)-1-(k:Int))>=0) qW (λh2=>?_) (λh2=>?_)
 ·skip
  have b1:(256*(joinTo (s.data.toList.drop (s.size-k)) k))%4294967296<=4294967295:=aI (aQ _ dT);refine zV (vU ((256*(joinTo (s.data.toList.drop (s.size-k)) k))%4294967296))<|nW (.v (.int .u8 (((s.data.toList.getD ((s.size:Int)-1-(k:Int)).toNat 0).toNat:Nat):Int))) rfl rfl (⟨oT,oT⟩)<|rW (vU ((s.data.toList.getD ((s.size:Int)-1-(k:Int)).toNat 0).toNat)) rfl (okN (u8w _))<|zW (vU (joinTo (s.data.toList.drop (s.size-(k+1))) (k+1))) (okI (by rw[<-Ys s hs k omT];exact aa8 _))<|zW (vI ((s.size:Int)-1-((k+1:Nat):Int))) (okN (by rw[wrap_i64 omT omT];omega)) ?_;refine⟨k+1,λs=>s,wOL (λs=>s) wT trivial rfl,omT,omT⟩
 have e:k=s.size:=oT;subst e;exact fT rfl (by rw[eK,bS];rfl)
def Su(x k:Nat)(hx:x<=4294967295)(h:x/2 ^ k>0):lenP (x/2 ^ k)=1+lenP (x/2 ^ (k+1)):=by
 have:x/2 ^ k<=x:=cO _ _;unfold lenP;rw[Lib.bitLen_half _ omT omT,Nat.div_div_eq_div_mul, <-Nat.pow_succ]
def Sv(x k:Nat)(hx:x<=4294967295)(h:x/2 ^ k>0):k<32:=by
 refine Nat.lt_of_not_le λhk=>?_;have:(2:Nat) ^ 32<=2 ^ k:=bU dT hk;rw[Nat.div_eq_of_lt omT]at h;omega
def abA:lenP 0=0:=dT
def abB(x:Nat)(hx:x<=4294967295):bI C0 71 [vU x] (.v (.int .i64 ((lenP x:Nat):Int))):=by
 refine dIZ func71 rfl ?_;refine zLo (κ:=Nat) (λk=>⟨slotsF [(0,vU (x/2 ^ k)),(3,vN k)],heapF [],2⟩) (λk=>k<=32∧lenP x=k+lenP (x/2 ^ k)) (λk=>33-k) 0 (λs=>s) (wOL (λs=>s) ⟨⟨acJ (by simp),rfl⟩,⟨rfl,rfl⟩,trivial⟩ trivial rfl) (⟨dT,by simp⟩) ?_;intro k hk;refine zW (vB (decide ((x/2 ^ k)>0))) (okB (gtN _ _)) ?_;refine zPr ((x/2 ^ k)>0) qW (λh1=>?_) (λh1=>?_)
 ·skip
  have b1:k+1<=33:=aD hk.1 (aC 1);refine zW (vN (k+1)) (okI (bH b1 rfl))<|zM (vU (x/2 ^ (k+1))) (Bd (by rw[Nat.pow_succ, <-Nat.div_div_eq_div_mul];exact nJ (aL (cO _ _) (aL (cO _ _) hx)) rfl)) dT ?_;refine⟨k+1,λs=>s,wOL (λs=>s) wT trivial rfl,⟨Sv x k hx h1,by rw[hk.2,Su x k hx h1];omega⟩,(oH (Sv x k hx h1))⟩
 exact fN rfl (by rw[hk.2,show x/2 ^ k=0 from Nat.eq_zero_of_not_pos h1,abA];rfl)
def abC(m:ByteArray)(agZ:Nat)(b:ByteArray)(hr:agZ+b.size<=m.size)(hm:m.size<=256)(ha:agZ<=4294967295)(hb:b.size<=4):bI C0 31 [.v (.string m),vU agZ,.v (.string b)] (.v (.string (DD m agZ b))):=by
 refine dIZ func31 rfl ?_;refine zV (.sl 1 ([]) true) ?_;refine jR (κ:=Nat) (λk=>match k with|0=>⟨slotsF [(0,.v (.string m)),(1,vU agZ),(2,.v (.string b)),(7,.sl 1 ([]) true),(8,vN 0)],heapF [],4⟩|k+1=>⟨slotsF [(0,.v (.string m)),(1,vU agZ),(2,.v (.string b)),(7,.osl 0 0 (k+1) false),(8,vN (k+1))],heapF [(0,.arr ((upto (uU m b agZ) (k+1)).map Sx) 1)],4⟩) (λk=>k<=m.size) (λk=>m.size-k) 0 (λs=>s) (wOL (λs=>s) wT trivial rfl) (aE _) ?_;intro k hk;rcases k with _|k
 ·have hkB:0<=1000000:=dT;refine qS 0 rfl<|rV (vN m.size) rfl<|zW _ (okB (ltN _ _)) ?_;refine zPr (0<m.size) qW (λh1=>?_) (λh1=>?_)
  ·refine rW _ rfl (okI (bH ha rfl))<|zW _ (okN (wrap_i64 omT omT))<|zV (vB (decide ((((0:Nat):Int)-(agZ:Int))>=0))) ?_;refine gBS (x:=vN b.size) rfl id rfl<|gBS (x:=vB (decide ((((0:Nat):Int)-(agZ:Int))<((b.size:Nat):Int)))) rfl hsT rfl<|zN rfl (λh=>h) ?_;refine zPr ((((0:Nat):Int)-(agZ:Int))>=0∧(((0:Nat):Int)-(agZ:Int))<((b.size:Nat):Int)) (uA _ _ qW qW) (λh2=>?_) (λh2=>?_)
   ·refine nW (.v (.int .u8 (((b.data.toList.getD (((0:Nat):Int)-(agZ:Int)).toNat 0).toNat:Nat):Int))) rfl rfl (⟨oT,oT⟩)<|rV (.sl 1 ([[.v (.int .u8 (((b.data.toList.getD (((0:Nat):Int)-(agZ:Int)).toNat 0).toNat:Nat):Int))]]) true) rfl<|zF (x:=.osl 26 0 1 false) (h':=upd _ 26 (some (.arr (([])++([[.v (.int .u8 (((b.data.toList.getD (((0:Nat):Int)-(agZ:Int)).toNat 0).toNat:Nat):Int))]])) 1))) (rfl) (⟨by exact aJ rfl,by exact aJ rfl,trivial,trivial⟩) ?_;have b1:0+1<=1000001:=aD hkB (aC 1);refine zW _ (okI (bH b1 rfl)) ?_;refine⟨0+1,λs=>match s with|0=>26|s=>s,wOL (λs=>match s with|0=>26|s=>s) wT ⟨⟨rfl,af2 (λz=>some (Blk.arr z 1)) (Jp (g:=uU m b agZ) (row:=Sx) (x:=b.data.toList.getD (((0:Nat):Int)-(agZ:Int)).toNat 0) (by unfold uU;rw[af1 h2])),rfl⟩,trivial⟩ rfl,omT,omT⟩
   refine nW (.v (.int .u8 (((m.data.toList.getD (((0:Nat):Int)).toNat 0).toNat:Nat):Int))) rfl rfl (⟨oT,oT⟩)<|rV (.sl 1 ([[.v (.int .u8 (((m.data.toList.getD (((0:Nat):Int)).toNat 0).toNat:Nat):Int))]]) true) rfl<|zF (x:=.osl 26 0 1 false) (h':=upd _ 26 (some (.arr (([])++([[.v (.int .u8 (((m.data.toList.getD (((0:Nat):Int)).toNat 0).toNat:Nat):Int))]])) 1))) (rfl) (⟨by exact aJ rfl,by exact aJ rfl,trivial,trivial⟩) ?_;have b2:0+1<=1000001:=aD hkB (aC 1);refine zW _ (okI (bH b2 rfl)) ?_;refine⟨0+1,λs=>match s with|0=>26|s=>s,wOL (λs=>match s with|0=>26|s=>s) wT ⟨⟨rfl,af2 (λz=>some (Blk.arr z 1)) (Jp (g:=uU m b agZ) (row:=Sx) (x:=m.data.toList.getD ((0:Nat):Int).toNat 0) (by unfold uU;rw[dZ h2];rfl)),rfl⟩,trivial⟩ rfl,omT,omT⟩
  refine qX 0 rfl<|SV (([]:List UInt8)) (d:=42) rfl rfl rfl (trivial) (rfl)<|qRF 0 rfl ?_;exact fS rfl (by rw[<-Ld m b agZ hr];rw[(oT:m.size=0)];rfl)
 have hkB:k+1<=1000000:=oT;refine qS 0 rfl<|rV (vN m.size) rfl<|zW _ (okB (ltN _ _)) ?_;refine zPr ((k+1)<m.size) qW (λh3=>?_) (λh3=>?_)
 ·refine rW _ rfl (okI (bH ha rfl))<|zW _ (okN (wrap_i64 omT omT))<|zV (vB (decide (((((k+1):Nat):Int)-(agZ:Int))>=0))) ?_;refine gBS (x:=vN b.size) rfl id rfl<|gBS (x:=vB (decide (((((k+1):Nat):Int)-(agZ:Int))<((b.size:Nat):Int)))) rfl hsT rfl<|zN rfl (λh=>h) ?_;refine zPr (((((k+1):Nat):Int)-(agZ:Int))>=0∧((((k+1):Nat):Int)-(agZ:Int))<((b.size:Nat):Int)) (uA _ _ qW qW) (λh4=>?_) (λh4=>?_)
  ·refine nW (.v (.int .u8 (((b.data.toList.getD ((((k+1):Nat):Int)-(agZ:Int)).toNat 0).toNat:Nat):Int))) rfl rfl (⟨oT,oT⟩)<|rV (.sl 1 ([[.v (.int .u8 (((b.data.toList.getD ((((k+1):Nat):Int)-(agZ:Int)).toNat 0).toNat:Nat):Int))]]) true) rfl ?_;refine zF (x:=.osl 26 0 ((List.take (k+1) (List.drop 0 ((upto (uU m b agZ) (k+1)).map Sx))).length+([[.v (.int .u8 (((b.data.toList.getD ((((k+1):Nat):Int)-(agZ:Int)).toNat 0).toNat:Nat):Int))]]:List (List AV)).length) false) (h':=upd (upd _ 0 none) 26 (some (.arr (List.take (k+1) (List.drop 0 ((upto (uU m b agZ) (k+1)).map Sx))++[[.v (.int .u8 (((b.data.toList.getD ((((k+1):Nat):Int)-(agZ:Int)).toNat 0).toNat:Nat):Int))]]) 1))) (rfl) (⟨gC omT,gF,trivial⟩) ?_;have b3:(k+1)+1<=1000001:=aD hkB (aC 1);refine zW _ (okI (bH b3 rfl)) ?_;refine⟨(k+1)+1,λs=>match s with|0=>26|s=>s,wOL (λs=>match s with|0=>26|s=>s) ⟨⟨rfl,rfl⟩,⟨rfl,rfl⟩,⟨rfl,rfl⟩,⟨af2 (λz=>AV.osl 26 0 z false) gL,rfl⟩,⟨rfl,rfl⟩,trivial⟩ ⟨⟨rfl,af2 (λz=>some (Blk.arr z 1)) (Gh (g:=uU m b agZ) (row:=Sx) (x:=b.data.toList.getD ((((k+1):Nat):Int)-(agZ:Int)).toNat 0) (by unfold uU;rw[af1 h4])),rfl⟩,trivial⟩ rfl,omT,omT⟩
  refine nW (.v (.int .u8 (((m.data.toList.getD ((((k+1):Nat):Int)).toNat 0).toNat:Nat):Int))) rfl rfl (⟨oT,oT⟩)<|rV (.sl 1 ([[.v (.int .u8 (((m.data.toList.getD ((((k+1):Nat):Int)).toNat 0).toNat:Nat):Int))]]) true) rfl ?_;refine zF (x:=.osl 26 0 ((List.take (k+1) (List.drop 0 ((upto (uU m b agZ) (k+1)).map Sx))).length+([[.v (.int .u8 (((m.data.toList.getD ((((k+1):Nat):Int)).toNat 0).toNat:Nat):Int))]]:List (List AV)).length) false) (h':=upd (upd _ 0 none) 26 (some (.arr (List.take (k+1) (List.drop 0 ((upto (uU m b agZ) (k+1)).map Sx))++[[.v (.int .u8 (((m.data.toList.getD ((((k+1):Nat):Int)).toNat 0).toNat:Nat):Int))]]) 1))) (rfl) (⟨gC omT,gF,trivial⟩) ?_;have b4:(k+1)+1<=1000001:=aD hkB (aC 1);refine zW _ (okI (bH b4 rfl)) ?_;refine⟨(k+1)+1,λs=>match s with|0=>26|s=>s,wOL (λs=>match s with|0=>26|s=>s) ⟨⟨rfl,rfl⟩,⟨rfl,rfl⟩,⟨rfl,rfl⟩,⟨af2 (λz=>AV.osl 26 0 z false) gL,rfl⟩,⟨rfl,rfl⟩,trivial⟩ ⟨⟨rfl,af2 (λz=>some (Blk.arr z 1)) (Gh (g:=uU m b agZ) (row:=Sx) (x:=m.data.toList.getD (((k+1):Nat):Int).toNat 0) (by unfold uU;rw[dZ h4];rfl)),rfl⟩,trivial⟩ rfl,omT,omT⟩
 refine qX 0 rfl<|SV (upto (uU m b agZ) (k+1)) (d:=42) rfl rfl rfl (Nat.le_of_eq gF) (by rw[gT];exact lN _)<|qRF 0 rfl ?_;exact fS rfl (by rw[<-Ld m b agZ hr];rw[(oT:m.size=k+1)])
def KZ(n:Nat):gU (List.take n (List.drop 0 (List.replicate n [AV.v (.int .u8 0)])))=some (List.replicate n (0:UInt8)):=by
 rw[bS,aN (by simp)];have:List.replicate n [AV.v (.int .u8 0)]=(List.replicate n (0:UInt8)).map λb=>[.v (.int .u8 (b.toNat:Int))]:=by simp
 rw[this];exact lN _
def NW(m:ByteArray)(j:Nat)(hm:m.size<=256)(hj:j<=4):((m.size+(⟨(List.replicate (16*2 ^ j-m.size) (0:UInt8)).toArray⟩:ByteArray).size:Nat):Int)<=IntKind.i64.max:=by
 have p5:=bU (n:=2) dT hj;have e:(⟨(List.replicate (16*2 ^ j-m.size) (0:UInt8)).toArray⟩:ByteArray).size=16*2 ^ j-m.size:=by
  show(List.replicate (16*2 ^ j-m.size) (0:UInt8)).toArray.size=_;simp
 rw[e];simp only[IntKind.max,IntKind.signed,IntKind.bits];simp;omega
def Mq(m:ByteArray):m.extract 0 m.size=m:=by simp
def NY(x:ByteArray)(n:Nat):x++(⟨(List.replicate n (0:UInt8)).toArray⟩:ByteArray)=(⟨(x.data.toList++List.replicate n 0).toArray⟩:ByteArray):=by
 refine ByteArray.ext ?_;rw[ByteArray.data_append];simp
def Vo(m:ByteArray)(j:Nat)(hm: ¬m.size>256)(h1: ¬ 16*2 ^ j<m.size)(hj:j<=4)(h2:j=0∨16*2 ^ (j-1)<m.size):m++(⟨(List.replicate (16*2 ^ j-m.size) (0:UInt8)).toArray⟩:ByteArray)=jB m:=by
 rw[NY];unfold jB;rw[kD omT,Mq,NE hj omT h2]
def Sw(m:ByteArray)(j:Nat)(hm:m.size>256)(h1: ¬ 16*2 ^ j<(m.extract 0 256).size)(hj:j<=4)(h2:j=0∨16*2 ^ (j-1)<(m.extract 0 256).size):m.extract 0 256++(⟨(List.replicate (16*2 ^ j-(m.extract 0 256).size) (0:UInt8)).toArray⟩:ByteArray)=jB m:=by
 have e:(m.extract 0 256).size=256:=by rw[dA];omega
 rw[NY];unfold jB;rw[Nat.min_eq_right omT, <-NE (n:=256) hj omT omT,e]
def Ej{n j:Nat}(hn:n<=256)(h4:j<=4)(h:16*2 ^ j<n):j+1<=4:=IQ (n:=n) h4 omT
def abD(m:ByteArray):bI C0 12 [.v (.string m)] (.v (.string (jB m))):=by
 refine dIZ func12 rfl ?_;refine rV (vN m.size) rfl<|zW (vB (decide (m.size>256))) (okB (gtN _ _)) ?_;refine zPr (m.size>256) qW (λh1=>?_) (λh1=>?_)
 ·refine zM (.v (.string (m.extract 0 256))) rfl (⟨dT,by show(0:Int)<=256;decide,by show(256:Int)<=((m.size:Nat):Int);omega⟩) ?_;have hM:(m.extract 0 256).size<=256:=by rw[dA];omega
  refine zLo (κ:=Nat) (λj=>⟨slotsF [(0,.v (.string (m.extract 0 256))),(3,vN (16*2 ^ j))],heapF [],8⟩) (λj=>j<=4∧(j=0∨16*2 ^ (j-1)<(m.extract 0 256).size)) (λj=>4-j) 0 (λs=>s) (wOL (λs=>s) wT trivial rfl) (⟨dT,.inl rfl⟩) ?_;intro j hj;refine rV (vN ((m.extract 0 256).size)) rfl<|zW (vB (decide ((16*2 ^ j)<((m.extract 0 256).size)))) (okB (ltN _ _)) ?_;refine zPr ((16*2 ^ j)<((m.extract 0 256).size)) qW (λh2=>?_) (λh2=>?_)
  ·refine zW (vN (16*2 ^ (j+1))) (by show Res.ok (.v (.int .i64 (IntKind.wrap .i64 (2*((16*2 ^ j:Nat):Int)))))=_;have p5:=bU (n:=2) dT hj.1;rw[wrap_i64 omT omT];congr 3;rw[Nat.pow_succ];omega) ?_;refine⟨j+1,λs=>s,wOL (λs=>s) wT trivial rfl,⟨Ej hM hj.1 h2,.inr (sU h2)⟩,(oH (Ej hM hj.1 h2))⟩
  refine rV (vN ((m.extract 0 256).size)) rfl<|rW (vN (16*2 ^ j-(m.extract 0 256).size)) rfl (okN (by have p5:=bU (n:=2) dT hj.1;rw[wrap_i64 omT omT];omega)) ?_;refine zF (x:=.osl 16 0 (16*2 ^ j-(m.extract 0 256).size) false) (h':=upd _ 16 (some (.arr (List.replicate (16*2 ^ j-(m.extract 0 256).size) [AV.v (.int .u8 0)]) 1))) (rfl) (by have p5:=bU (n:=2) dT hj.1;refine⟨oT,oT,?_⟩;simp only[jH];omega) ?_;refine SV (List.replicate (16*2 ^ j-(m.extract 0 256).size) (0:UInt8)) (d:=23) rfl rfl rfl (by show 0+(16*2 ^ j-(m.extract 0 256).size)<=(List.replicate (16*2 ^ j-(m.extract 0 256).size) [AV.v (.int .u8 0)]).length;rw[cM];omega) (KZ _)<|zM (.v (.string (jB m))) (af2 (λx=>Res.need _ (.v (.string x))) (Sw m j omT omT hj.1 hj.2)) (NW (m.extract 0 256) j hM hj.1) ?_;exact fT rfl rfl
 skip
 have hM:m.size<=256:=oT;refine zLo (κ:=Nat) (λj=>⟨slotsF [(0,.v (.string m)),(3,vN (16*2 ^ j))],heapF [],5⟩) (λj=>j<=4∧(j=0∨16*2 ^ (j-1)<m.size)) (λj=>4-j) 0 (λs=>s) (wOL (λs=>s) wT trivial rfl) (⟨dT,.inl rfl⟩) ?_;intro j hj;refine rV (vN m.size) rfl<|zW (vB (decide ((16*2 ^ j)<m.size))) (okB (ltN _ _)) ?_;refine zPr ((16*2 ^ j)<m.size) qW (λh3=>?_) (λh3=>?_)
 ·refine zW (vN (16*2 ^ (j+1))) (by show Res.ok (.v (.int .i64 (IntKind.wrap .i64 (2*((16*2 ^ j:Nat):Int)))))=_;have p5:=bU (n:=2) dT hj.1;rw[wrap_i64 omT omT];congr 3;rw[Nat.pow_succ];omega) ?_;refine⟨j+1,λs=>s,wOL (λs=>s) wT trivial rfl,⟨Ej hM hj.1 h3,.inr (sU h3)⟩,(oH (Ej hM hj.1 h3))⟩
 refine rV (vN m.size) rfl<|rW (vN (16*2 ^ j-m.size)) rfl (okN (by have p5:=bU (n:=2) dT hj.1;rw[wrap_i64 omT omT];omega)) ?_;refine zF (x:=.osl 13 0 (16*2 ^ j-m.size) false) (h':=upd _ 13 (some (.arr (List.replicate (16*2 ^ j-m.size) [AV.v (.int .u8 0)]) 1))) (rfl) (by have p5:=bU (n:=2) dT hj.1;refine⟨oT,oT,?_⟩;simp only[jH];omega) ?_;refine SV (List.replicate (16*2 ^ j-m.size) (0:UInt8)) (d:=23) rfl rfl rfl (by show 0+(16*2 ^ j-m.size)<=(List.replicate (16*2 ^ j-m.size) [AV.v (.int .u8 0)]).length;rw[cM];omega) (KZ _)<|zM (.v (.string (jB m))) (af2 (λx=>Res.need _ (.v (.string x))) (Vo m j omT omT hj.1 hj.2)) (NW m j hM hj.1) ?_;exact fT rfl rfl
def abE(size agZ n:Nat)(hs:size<=256)(ha:agZ<=4294967295)(hn:n<=4):bI C0 29 [vN size,vU agZ,vN n] (.v (.bool (kZ (size:Int) agZ (n:Int)))):=by
 refine dIZ func29 rfl ?_;refine zW _ (okB (neN _ _))<|gBS (x:=vB (n != 2)) rfl id (okB (neN _ _))<|zN rfl (λh=>h) ?_;refine gBS (x:=vB (n != 4)) rfl id (okB (neN _ _))<|zN rfl (λh=>h) ?_;refine zPr ((¬n=1∧ ¬n=2)∧ ¬n=4) (uA _ _ (uA _ _ pNe pNe) pNe) (λh1=>?_) (λh1=>?_)
 ·exact fB rfl (by have hv:n=0∨n=1∨n=2∨n=3∨n=4:=omT;rw[bB];rcases hv with rfl|rfl|rfl|rfl|rfl<;>simp[c2,kZ]<;>omega)
 refine rW _ rfl (okI (nJ hn rfl)) ?_;have b1:agZ%n<=4294967295:=aL (gR _ _) ha;refine nW (vU (agZ%n)) rfl rfl omT<|zW _ (okB (eqN _ _))<|gBS (x:=vB (decide (size>=0))) rfl id (okB (geN _ _))<|zN rfl (λh=>h)<|zAS (x:=.v (.int .u64 (agZ:Int))) rfl id (okI (nJ ha rfl))<|gBS (x:=.v (.int .u64 (n:Int))) rfl id (okI (nJ hn rfl)) ?_;have b2:agZ+n<=4294967299:=aD ha hn;refine zAS (x:=.v (.int .u64 ((agZ+n:Nat):Int))) rfl hsT (okI (nJ b2 rfl))<|gBS (x:=.v (.int .u64 (size:Int))) rfl id (okI (nJ hs rfl))<|gBS (x:=vB (decide ((agZ+n)<=size))) rfl hsT (okB (leN _ _))<|zN rfl (λh=>h) ?_;exact fB rfl (by have hv:n=0∨n=1∨n=2∨n=3∨n=4:=omT;rw[bB];rcases hv with rfl|rfl|rfl|rfl|rfl<;>simp[c2,kZ]<;>omega)
def Vp{op:Int}{s:ByteArray}(h: ¬kindOf op=3∨ ¬s.size=sizeOf' op):loadP op s=0:=by
 unfold loadP;exact dZ (λe=>h.elim (λq=>q e.1) λq=>q e.2)
def Jo{op:Int}{s:ByteArray}(h: ¬(¬kindOf op=3∨ ¬s.size=sizeOf' op)):loadP op s=(if op=11 then sext (joinTo s.data.toList s.size) 8 else if op=12 then sext (joinTo s.data.toList s.size) 16 else joinTo s.data.toList s.size):=by
 unfold loadP;exact af1 ⟨af4 λq=>h (.inl q),af4 λq=>h (.inr q)⟩
def ac2(op:Int)(s:ByteArray):bI C0 33 [vI op,.v (.string s)] (.v (.int .u32 ((loadP op s:Nat):Int))):=by
 refine dIZ func33 rfl ?_;refine rCi rfl (SE op)<|zW _ (okB (neN _ _))<|zAS (x:=vN s.size) rfl id rfl<|jQ (args:=[vI op]) (x:=vN (sizeOf' op)) (g:= !((kindOf op) != 3)) rfl rfl rfl rfl (λh=>h) rfl rfl rfl (.inl rfl) rfl (λhg=>abK op) ?_;refine gBS (x:=vB (s.size != (sizeOf' op))) rfl hsT (okB (neN _ _))<|zN rfl (by simp) ?_;refine zPr (¬(kindOf op)=3∨ ¬s.size=(sizeOf' op)) (wP _ _ pNe pNe) (λh1=>?_) (λh1=>?_)
 ·exact fI rfl (by rw[Vp h1];rfl)
 refine zC (aa9 s (oH (lQ op)))<|zE2 op 11 (λh2=>?_) (λh2=>?_)
 ·refine zC (Pm _ 8 (ae5 s (oH (lQ op))) dT dT) ?_;exact fI rfl (by rw[Jo h1,af1 h2])
 refine zE2 op 12 (λh3=>?_) (λh3=>?_)
 ·refine zC (Pm _ 16 (ae5 s (oH (lQ op))) dT dT) ?_;exact fI rfl (by rw[Jo h1,dZ h2,af1 h3])
 exact fI rfl (by rw[Jo h1,dZ h2,dZ h3])
def ac3(op:Int)(a b:Nat)(ha:a<=4294967295)(hb:b<=4294967295):bI C0 36 [vI op,vU a,vU b] (.v (.int .i64 ((tookP op a b:Nat):Int))):=by
 refine dIZ func36 rfl ?_;have hsa:sizeP op a<=4294967295:=aI (pT op a (bG ha));have hsb:sizeP op b<=4294967295:=aI (pT op b (bG hb));refine zV (vB (decide (op<42)))<|gBS (x:=vB (decide (op>45))) rfl id rfl<|zN rfl (by simp) ?_;refine zPr (op<42∨op>45) (wP _ _ qW qW) (λh1=>?_) (λh1=>?_)
 ·exact fI rfl (by unfold tookP;rw[af1 omT];rfl)
 refine zC (Wg op a ha)<|zC (Wg op b hb) ?_;refine zW _ (okB (eqN _ _))<|gBS (x:=vB (decide ((sizeP op a)<(sizeP op b)))) rfl hsT (okB (ltN _ _))<|zN rfl (by simp) ?_;refine zPr (b=0∨(sizeP op a)<(sizeP op b)) (wP _ _ pEq qW) (λh2=>?_) (λh2=>?_)
 ·exact fI rfl (by unfold tookP;rw[dZ omT,af1 omT];rfl)
 refine rW _ rfl (okI (nJ hsa rfl))<|rCi rfl (abB _ hsa) ?_;have b1:3+(lenP (sizeP op a))<=35:=aD (aC 3) (IM _ (bG hsa));refine zW _ (okI (bH b1 rfl))<|rW _ rfl (okI (nJ hsb rfl))<|rCi rfl (abB _ hsb)<|zV (vI (IntKind.wrap .i64 (((3+(lenP (sizeP op a)):Nat):Int)-((lenP (sizeP op b):Nat):Int)))) ?_;exact fI rfl (by unfold tookP;rw[dZ omT,dZ omT];have l1:=IM _ (bG hsa);have l3:=Kz (sizeP op b) (sizeP op a) omT omT omT (oH (yJ op b omT omT));rw[wrap_i64 omT omT];omega)
def adU{op:Int}(a b:Nat)(h:op=28∨op=19):doP op a b=(a+b)%4294967296:=by rcases h with rfl|rfl<;>simp[doP]
def aeW{op:Int}(a b:Nat)(h:op=29):doP op a b=(a+4294967296-b)%4294967296:=by subst h;simp[doP]
def adV{op:Int}(a b:Nat)(h:op=37∨op=24):doP op a b=a&&&b:=by rcases h with rfl|rfl<;>simp[doP]
def adW{op:Int}(a b:Nat)(h:op=36∨op=23):doP op a b=a ||| b:=by rcases h with rfl|rfl<;>simp[doP]
def adX{op:Int}(a b:Nat)(h:op=33∨op=22):doP op a b=a^^^b:=by rcases h with rfl|rfl<;>simp[doP]
def adY{op:Int}(a b:Nat)(h:op=30∨op=25):doP op a b=a*2 ^ (b%32)%4294967296:=by rcases h with rfl|rfl<;>simp[doP]
def adZ{op:Int}(a b:Nat)(h:op=34∨op=26):doP op a b=a/2 ^ (b%32):=by rcases h with rfl|rfl<;>simp[doP]
def ad0{op:Int}(a b:Nat)(h:op=35∨op=27):doP op a b=wordOf (sgn a/2 ^ (b%32)):=by rcases h with rfl|rfl<;>simp[doP]
def ad1{op:Int}(a b:Nat)(h:op=31∨op=20):doP op a b=(if sgn a<sgn b then 1 else 0):=by rcases h with rfl|rfl<;>simp[doP]
def ad2{op:Int}(a b:Nat)(h:op=32∨op=21):doP op a b=(if a<b then 1 else 0):=by rcases h with rfl|rfl<;>simp[doP]
def dp1{op:Int}(a b:Nat)(h:op=1):doP op a b=b:=by subst h;simp[doP]
def dp0{op:Int}(a b:Nat)(h:∀k∈[28,19,29,37,24,36,23,33,22,30,25,34,26,35,27,31,20,32,21,1],op≠k):doP op a b=0:=by
 simp only[al_List_mem_cons,List.not_mem_nil,or_false,forall_eq_or_imp,forall_eq]at h;unfold doP
 (repeat rw[dZ omT])
def rDo(op : Int)(a b:Nat)(ha:a<=4294967295)(hb:b<=4294967295):bI C0 66 [vI op,vU a,vU b] (.v (.int .u32 ((doP op a b:Nat):Int))):=by
 refine dIZ func66 rfl ?_;have b1:b%32<=31:=aI (aQ _ dT);refine nW (vU (b%32)) rfl rfl dT<|zW _ (okI (bH b1 rfl))<|zE2 op 28 (λh1=>?_) (λh1=>?_)
 ·refine zT (pEq.2 h1)<|zW _ (okI (nJ ha rfl))<|rW _ rfl (okI (nJ hb rfl)) ?_;have b2:a+b<=8589934590:=aD ha hb;refine rW _ rfl (okI (nJ b2 rfl)) ?_;have b3:(a+b)%4294967296<=4294967295:=aI (aQ _ dT);refine nW (.v (.int .u64 (((a+b)%4294967296:Nat):Int))) rfl rfl dT<|zW _ (okI (nJ b3 rfl)) ?_;exact fN rfl (adU a b omT).symm
 refine zE2 op 19 (λh2=>?_) (λh2=>?_)
 ·refine zW _ (okI (nJ ha rfl))<|rW _ rfl (okI (nJ hb rfl)) ?_;have b4:a+b<=8589934590:=aD ha hb;refine rW _ rfl (okI (nJ b4 rfl)) ?_;have b5:(a+b)%4294967296<=4294967295:=aI (aQ _ dT);refine nW (.v (.int .u64 (((a+b)%4294967296:Nat):Int))) rfl rfl dT<|zW _ (okI (nJ b5 rfl)) ?_;exact fN rfl (adU a b omT).symm
 refine zE2 op 29 (λh3=>?_) (λh3=>?_)
 ·refine rW _ rfl (okI (nJ ha rfl)) ?_;have b6:a+4294967296<=8589934591:=aD ha (aC 4294967296);refine zW _ (okI (nJ b6 rfl))<|rW _ rfl (okI (nJ hb rfl)) ?_;have b7:((a+4294967296)+18446744073709551616-b)%18446744073709551616<=18446744073709551615:=aI (aQ _ dT);refine rW _ rfl (okI (YO hb rfl)) ?_;have b8:(((a+4294967296)+18446744073709551616-b)%18446744073709551616)%4294967296<=4294967295:=aI (aQ _ dT);refine nW (.v (.int .u64 (((((a+4294967296)+18446744073709551616-b)%18446744073709551616)%4294967296:Nat):Int))) rfl rfl dT<|zW _ (okI (nJ b8 rfl)) ?_;exact fN rfl (by rw[aeW a b omT];omega)
 refine zE2 op 37 (λh4=>?_) (λh4=>?_)
 ·refine zT (pEq.2 h4)<|zC (Pn 1 a b ha hb) ?_;exact fN rfl ((adV a b omT).trans (Oa a b ha hb).symm).symm
 refine zE2 op 24 (λh5=>?_) (λh5=>?_)
 ·refine zC (Pn 1 a b ha hb) ?_;exact fN rfl ((adV a b omT).trans (Oa a b ha hb).symm).symm
 refine zE2 op 36 (λh6=>?_) (λh6=>?_)
 ·refine zT (pEq.2 h6)<|zC (Pn 2 a b ha hb) ?_;exact fN rfl ((adW a b omT).trans (SJ a b ha hb).symm).symm
 refine zE2 op 23 (λh7=>?_) (λh7=>?_)
 ·refine zC (Pn 2 a b ha hb) ?_;exact fN rfl ((adW a b omT).trans (SJ a b ha hb).symm).symm
 refine zE2 op 33 (λh8=>?_) (λh8=>?_)
 ·refine zT (pEq.2 h8)<|zC (Pn 3 a b ha hb) ?_;exact fN rfl ((adX a b omT).trans (Ob a b ha hb).symm).symm
 refine zE2 op 22 (λh9=>?_) (λh9=>?_)
 ·refine zC (Pn 3 a b ha hb) ?_;exact fN rfl ((adX a b omT).trans (Ob a b ha hb).symm).symm
 refine zE2 op 30 (λh10=>?_) (λh10=>?_)
 ·refine zT (pEq.2 h10)<|zC (Hg a (((b%32:Nat):Int)) (0) ha omT omT omT) ?_;exact fN rfl ((adY a b omT).trans (La a (b%32) ha omT).symm).symm
 refine zE2 op 25 (λh11=>?_) (λh11=>?_)
 ·refine zC (Hg a (((b%32:Nat):Int)) (0) ha omT omT omT) ?_;exact fN rfl ((adY a b omT).trans (La a (b%32) ha omT).symm).symm
 refine zE2 op 34 (λh12=>?_) (λh12=>?_)
 ·refine zT (pEq.2 h12)<|rW _ rfl (okN (by rw[Int.zero_sub];exact wrap_i64 omT omT))<|zC (Hg a (-((b%32:Nat):Int)) (0) ha omT omT omT) ?_;exact fN rfl ((adZ a b omT).trans (FD a (b%32) ha omT).symm).symm
 refine zE2 op 26 (λh13=>?_) (λh13=>?_)
 ·refine rW _ rfl (okN (by rw[Int.zero_sub];exact wrap_i64 omT omT))<|zC (Hg a (-((b%32:Nat):Int)) (0) ha omT omT omT) ?_;exact fN rfl ((adZ a b omT).trans (FD a (b%32) ha omT).symm).symm
 refine zE2 op 35 (λh14=>?_) (λh14=>?_)
 ·refine zT (pEq.2 h14)<|zW _ (okN (by rw[Int.zero_sub];exact wrap_i64 omT omT))<|rCi rfl (Pu a 31 ha dT)<|zC (Hg a (-((b%32:Nat):Int)) (a/2 ^ 31%2) ha omT omT omT) ?_;exact fN rfl ((ad0 a b omT).trans (Lb a (b%32) ha omT).symm).symm
 refine zE2 op 27 (λh15=>?_) (λh15=>?_)
 ·refine zW _ (okN (by rw[Int.zero_sub];exact wrap_i64 omT omT))<|rCi rfl (Pu a 31 ha dT)<|zC (Hg a (-((b%32:Nat):Int)) (a/2 ^ 31%2) ha omT omT omT) ?_;exact fN rfl ((ad0 a b omT).trans (Lb a (b%32) ha omT).symm).symm
 refine zE2 op 31 (λh16=>?_) (λh16=>?_)
 ·refine zT (pEq.2 h16)<|zC (wL a ha)<|rCi rfl (wL b hb)<|rV (vB (decide ((sgn a)<(sgn b)))) rfl<|zC (abV _) ?_;exact fN rfl (by rw[ad1 a b omT];simp only[aY])
 refine zE2 op 20 (λh17=>?_) (λh17=>?_)
 ·refine zC (wL a ha)<|rCi rfl (wL b hb)<|rV (vB (decide ((sgn a)<(sgn b)))) rfl<|zC (abV _) ?_;exact fN rfl (by rw[ad1 a b omT];simp only[aY])
 refine zE2 op 32 (λh18=>?_) (λh18=>?_)
 ·refine zT (pEq.2 h18)<|rW _ rfl (okB (ltN _ _))<|zC (abV _) ?_;exact fN rfl (by rw[ad2 a b omT];simp only[aY])
 refine zE2 op 21 (λh19=>?_) (λh19=>?_)
 ·refine rW _ rfl (okB (ltN _ _))<|zC (abV _) ?_;exact fN rfl (by rw[ad2 a b omT];simp only[aY])
 refine zE2 op 1 (λh20=>?_) (λh20=>?_)
 ·exact fN rfl (dp1 a b omT).symm
 exact fN rfl (dp0 a b (by simp;omega)).symm
def bP(i:SI)(b:Nat):Nat:=if((i.op=1∨letterOf i.op=84)∨((letterOf i.op=73∧ ¬i.op=4)∧ ¬kindOf i.op=3))then i.agR else b
def Yt{i:SI}{b:Nat}(hi:i.agR<=4294967295)(hb:b<=4294967295):bP i b<=4294967295:=by unfold bP;split<;>assumption
def Wf{i:SI}{b:Nat}(h:kindOf i.op=1∨kindOf i.op=2):bP i b=b:=by
 unfold bP;refine dZ ?_;have:=oG i.op;have:=dN i.op;omega
def ac4(i:SI)(a b:Nat):doP i.op a (bP i b)=doP i.op a (if UB i.op=true then i.agR else b):=by
 by_cases h:((i.op=1∨letterOf i.op=84)∨((letterOf i.op=73∧ ¬i.op=4)∧ ¬kindOf i.op=3))↔UB i.op=true
 ·unfold bP;simp only[h]
 have h0:i.op=11∨i.op=12∨i.op=13∨i.op=14∨i.op=15:=by
  have h1:=oG i.op;have h2:=dN i.op;simp only[UB,dE,aP,aY]at h;omega
 rw[dp0 _ _ (by simp;omega),dp0 _ _ (by simp;omega)]
def rB(i:SI)(b:Nat)(hi:i.agR<=4294967295)(hb:b<=4294967295):bI C0 63 [siA i,.v (.int .u32 (b:Int))] (.v (.int .u32 ((bP i b:Nat):Int))):=by
 refine dIZ func63 rfl ?_;refine zC (Vs _) ?_;refine zV (vB (i.op==1))<|gBS (x:=vB ((letterOf i.op)==84)) rfl id (okB (eqN _ _))<|zN rfl (by simp)<|gBS (x:=vB ((letterOf i.op)==73)) rfl id (okB (eqN _ _))<|zG rfl id<|gS rfl id<|gBS (x:=vB (i.op != 4)) rfl id rfl<|pB (x:=vB (cE ((letterOf i.op)==73) (i.op != 4) false)) (g:= !(cE (i.op==1) true ((letterOf i.op)==84))) rfl rfl rfl rfl (λh=>h) rfl rfl (λhg hc=>by first|(rw[hg,hc];rfl)|simp_all)<|zG rfl id<|gS rfl id ?_;refine jQ (args:=[vI i.op]) (x:=vN (kindOf i.op)) (g:=(!(cE (i.op==1) true ((letterOf i.op)==84)))&&(cE ((letterOf i.op)==73) (i.op != 4) false)) rfl rfl rfl rfl (λh=>h) rfl rfl rfl (.inl rfl) rfl (λhg=>SE _)<|gBS (x:=vB ((kindOf i.op) != 3)) rfl id (okB (neN _ _))<|pB (x:=vB (cE (cE ((letterOf i.op)==73) (i.op != 4) false) ((kindOf i.op) != 3) false)) (g:= !(cE (i.op==1) true ((letterOf i.op)==84))) rfl rfl rfl rfl (λh=>h) rfl rfl (λhg hc=>by first|(rw[hg,hc];rfl)|simp_all)<|zN rfl (by simp) ?_;refine zPr ((i.op=1∨(letterOf i.op)=84)∨(((letterOf i.op)=73∧ ¬i.op=4)∧ ¬(kindOf i.op)=3)) (wP _ _ (wP _ _ pEq pEq) (uA _ _ (uA _ _ pEq pNe) pNe)) (λh1=>?_) (λh1=>?_)
 ·exact fI rfl (by unfold bP;rw[af1 h1])
 exact fI rfl (by unfold bP;rw[dZ h1])
def abF(i:SI)(pc a b:Nat)(hi:i.agR<=4294967295)(hpc:pc<=4294967295)(ha:a<=4294967295)(hb:b<=4294967295):bI C0 27 [siA i,.v (.int .u32 (pc:Int)),.v (.int .u32 (a:Int)),.v (.int .u32 (b:Int))] (.v (.int .u32 ((BF i.op i.agR pc a b:Nat):Int))):=by
 refine dIZ func27 rfl ?_;refine zC (rB i b hi hb) ?_;refine rCi rfl (SE _)<|zW _ (okB (eqN _ _)) ?_;refine zEq (kindOf i.op) 1 (λh1=>?_) (λh1=>?_)
 ·refine zC (ae0 i.op a (bP i b) ha (Yt hi hb)) ?_;exact fN rfl (by unfold BF;rw[Wf (.inl h1),af1 h1])
 refine rCi rfl (SE _)<|zW _ (okB (eqN _ _)) ?_;refine zEq (kindOf i.op) 2 (λh2=>?_) (λh2=>?_)
 ·refine zC (ae3 i.op a (bP i b) ha (Yt hi hb)) ?_;exact fN rfl (by unfold BF;rw[Wf (.inr h2),dZ h1,af1 h2])
 refine zE2 i.op 2 (λh3=>?_) (λh3=>?_)
 ·skip
  have b1:(pc+i.agR)%4294967296<=4294967295:=aI (aQ _ dT);refine zV (vU ((pc+i.agR)%4294967296)) ?_;exact fN rfl (by unfold BF;rw[dZ h1,dZ h2,af1 h3])
 refine zV (vB (i.op==3))<|gS rfl id<|gBS (x:=vB (i.op==4)) rfl id rfl<|zN rfl (by simp) ?_;refine zPr (i.op=3∨i.op=4) (wP _ _ pEq pEq) (λh4=>?_) (λh4=>?_)
 ·skip
  have b2:(pc+4)%4294967296<=4294967295:=aI (aQ _ dT);refine zV (vU ((pc+4)%4294967296)) ?_;exact fN rfl (by unfold BF;rw[dZ h1,dZ h2,dZ h3,af1 h4])
 refine zC (rDo i.op a (bP i b) ha (Yt hi hb)) ?_;exact fN rfl (by unfold BF;rw[ac4,dZ h1,dZ h2,dZ h3,dZ h4])
def Mp{prog:List Nat}{pc k x:Nat}(h:pc=4*k)(hx:prog[k]?=some x):fetchP prog pc=some x:=by
 unfold fetchP;rw[af1 omT,(oT:pc/4=k),hx]
def Pk{prog:List Nat}{pc:Nat}(h:∀i,i<prog.length->pc≠4*i):fetchP prog pc=none:=by
 refine NC ?_;by_cases h1:pc%4=0
 ·exact .inr (Nat.le_of_not_lt λh2=>h _ h2 omT)
 exact .inl h1
def aeV(o:Option Nat):AV:=.tup [.v (.int .u32 ((o.getD 0:Nat):Int)),.v (.bool o.isSome)]
def aa7(prog:List Nat)(pc:Nat)(clip:Bool)(hp:∀x∈prog,x<=4294967295)(hl:prog.length<=1000000)(hpc:pc<=4294967295):bI C0 22 [.sl 1 (prog.map dU) clip,.v (.int .u32 (pc:Int))] (aeV (fetchP prog pc)):=by
 refine dIZ func22 rfl ?_;refine zW _ (af2 (λn:Nat=>Res.ok (.v (.int .i64 (n:Int)))) (aH ..))<|zLo (κ:=Nat) (λk=>⟨slotsF [(0,.sl 1 (prog.map dU) clip),(1,.v (.int .u32 (pc:Int))),(4,.v (.int .u32 0)),(5,.v (.bool false)),(8,.sl 1 (prog.map dU) clip),(9,.v (.int .i64 ((prog.length:Nat):Int))),(10,.v (.int .i64 (k:Int)))],heapF [],5⟩) (λk=>k<=prog.length∧∀i,i<k->pc≠4*i) (λk=>prog.length-k) 0 (λs=>s) (wOL (λs=>s) wT trivial rfl) (⟨aE _,λi h=>absurd h (dG i)⟩) ?_;intro k hk;have hkB:k<=1000000:=aL hk.1 hl;refine zWB (okB (ltN _ _)) (λh1=>?_) (λh1=>?_)
 ·skip
  obtain⟨x,hx⟩:∃x,prog[k]?=some x:=⟨_,aA (af0 h1)⟩;have hxm:=hp x (aB hx);refine zX (dU x) (.dp 1 0 (dU x)) rfl (by rw[Int.toNat_natCast,aX,hx];rfl) ?_;refine zW _ (okI (nJ hpc rfl))<|rW _ rfl (okI (nJ hkB rfl)) ?_;have b1:4*k<=4000000:=cJ (aC 4) hkB;refine rW _ rfl (okI (nJ b1 rfl))<|zWB (okB (eqN _ _)) (λh2=>?_) (λh2=>?_)
  ·exact fT rfl (by rw[Mp (prog:=prog) (sU h2) hx];rfl)
  skip
  have b2:k+1<=1000001:=aD hkB (aC 1);refine zW _ (okI (bH b2 rfl)) ?_;refine⟨k+1,λs=>s,wOL (λs=>s) wT trivial rfl,⟨af0 h1,λi hi=>if e:i=k then e ▸ (sU h2)else hk.2 i omT⟩,by have:=af0 h1;show prog.length-(k+1)<prog.length-k;omega⟩
 exact fT rfl (by rw[Pk (prog:=prog) (λi hi=>hk.2 i (oH (aF h1)))];rfl)
def ac1(m:ByteArray)(agZ n:Nat)(hr:agZ+n<=m.size)(ha:agZ<=4294967295)(hn:n<=4):bI C0 34 [.v (.string m),.v (.int .u32 (agZ:Int)),.v (.int .i64 (n:Int))] (.v (.string (Cv m agZ n))):=by
 refine dIZ func34 rfl ?_;refine zW _ (okI (bH ha rfl))<|zW _ (okI (bH ha rfl))<|rW _ rfl (okI (wrap_i64 omT omT))<|zM (.v (.string (Cv m agZ n))) rfl (⟨aG _,by show(agZ:Int)<=((agZ+n:Nat):Int);omega,by show((agZ+n:Nat):Int)<=((m.size:Nat):Int);omega⟩) ?_;exact qY rfl trivial rfl rfl
def BK(s:St)(why:Int)(agZ:Nat)(hs:s.ok)(ha:agZ<=4294967295):bI C0 23 [stA s,.v (.int .i64 why),.v (.int .u32 (agZ:Int))] (two (Gc s why agZ)):=by
 refine dJZ func23 rfl ?_;refine pO rfl rfl<|oR 7 rfl<|rV (.agg [.v (.int .u32 ((s.pc:Nat):Int)),.v (.int .u32 ((s.pc:Nat):Int)),.v (.int .i64 0),.v (.int .u32 0),.v (.int .u32 (agZ:Int)),.v (.int .i64 0),.v (.bool false),.v (.int .i64 why),.v (.int .i64 0)]) rfl<|rSt rfl<|rSt rfl<|rE 19<|And.intro (by kernel_rfl)<|qXF 0 rfl ?_;exact fT rfl rfl
def sR{x:Nat}(h: ¬¬decE x=0): ¬opOf x=0:=λq=>h (by unfold decE;rw[af1 q];decide)
def aa6(prog:List Nat)(s:St)(clip:Bool)(hp:∀x∈prog,x<=4294967295)(hl:prog.length<=1000000)(hs:s.ok):bI C0 13 [.sl 1 (prog.map dU) clip,stA s] (two (gE prog s)):=by
 refine dJ func13 ?_;have hfw:=KE hp s.pc;have hdec:=aeZ (fetchW prog s.pc) (bG hfw);have hd:=IK (fetchW prog s.pc);have hv:=ZU (fetchW prog s.pc);obtain⟨i,hI⟩:∃i,decN (fetchW prog s.pc)=i:=⟨_,rfl⟩;have hI2:rA prog s=i:=hI;rw[hI]at hdec hd hv;replace hd:0<=i.rd∧i.rd<32∧0<=i.ag0∧i.ag0<32∧0<=i.ag1∧i.ag1<32∧i.agR<=4294967295:=⟨hd.1,hd.2.1,hd.2.2.1,hd.2.2.2.1,hd.2.2.2.2.1,hd.2.2.2.2.2.1,aI hd.2.2.2.2.2.2⟩;obtain⟨a,hA⟩:∃a,s.r i.ag0.toNat=a:=⟨_,rfl⟩;obtain⟨b,hB⟩:∃b,s.r i.ag1.toNat=b:=⟨_,rfl⟩;have ha:a<=4294967295:=hA ▸ hs.r _;have hb:b<=4294967295:=hB ▸ hs.r _;have hnx:qP i.op i.agR s.pc a b<=4294967295:=aI (Ed _ _ _ _ _);refine qS 0 rfl<|rV (.v (.bool (s.halt != 0))) rfl ?_;refine qRC 0 rfl<|cPr (¬s.halt=0) pNe (λh1=>?_) (λh1=>?_)
 ·refine qC 0 rfl<|rV (.agg [.v (.int .u32 0),.v (.int .u32 0),.v (.int .i64 0),.v (.int .u32 0),.v (.int .u32 0),.v (.int .i64 0),.v (.bool false),.v (.int .i64 0),.v (.int .i64 0)]) rfl<|qRF 0 rfl ?_;exact fT rfl (by unfold gE;rw[dZ h1];rfl)
 refine qC 0 rfl<|rCi rfl (aa7 prog s.pc clip hp hl hs.pc) ?_;refine qRC 0 rfl<|cPr (¬(((fetchP prog s.pc).isSome)=true)) (abW Iff.rfl) (λh2=>?_) (λh2=>?_)
 ·refine qC 0 rfl<|rCi rfl (BK s (1) (0) hs dT)<|qRF 0 rfl ?_;exact fT rfl (by unfold gE;rw[af1 (agD.1 h1),dZ h2];rfl)
 refine qC 0 rfl<|rCi rfl (hdec)<|qR 0 rfl<|rW (.v (.bool ((decE (fetchW prog s.pc)) != 0))) rfl (okB (neN _ _)) ?_;refine qRC 0 rfl<|cPr (¬(decE (fetchW prog s.pc))=0) pNe (λh3=>?_) (λh3=>?_)
 ·refine qC 0 rfl<|rCi rfl (BK s (2) (0) hs dT)<|qRF 0 rfl ?_;exact fT rfl (by unfold gE;rw[af1 (agD.1 h1),af1 (agD.1 h2),af1 (af4 λq=>h3 (by unfold decE;rw[dZ q]))];rfl)
 refine qC 0 rfl<|rV (.v (.bool (i.op==47))) rfl ?_;refine qRC 0 rfl<|cEq i.op 47 (λh4=>?_) (λh4=>?_)
 ·refine qC 0 rfl<|rCi rfl (BK s (6) (0) hs dT)<|qRF 0 rfl ?_;exact fT rfl (by unfold gE;rw[af1 (agD.1 h1),af1 (agD.1 h2),dZ (sR h3),hI2];unfold doI;rw[af1 h4];rfl)
 refine qC 0 rfl<|rV (.v (.bool (i.op==48))) rfl ?_;refine qRC 0 rfl<|cEq i.op 48 (λh5=>?_) (λh5=>?_)
 ·refine qC 0 rfl<|rCi rfl (BK s (7) (0) hs dT)<|qRF 0 rfl ?_;exact fT rfl (by unfold gE;rw[af1 (agD.1 h1),af1 (agD.1 h2),dZ (sR h3),hI2];unfold doI;rw[dZ h4,af1 h5];rfl)
 refine qC 0 rfl<|nW (.ptr 0 (1+(i.ag0).toNat*1)) rfl rfl omT<|rW (.v (.int .u32 (a:Int))) rfl ((ldR _ _ _ _ _ omT).trans (by rw[hA]))<|qR 0 rfl<|nW (.ptr 0 (1+(i.ag1).toNat*1)) rfl rfl omT<|rW (.v (.int .u32 (b:Int))) rfl ((ldR _ _ _ _ _ omT).trans (by rw[hB])) ?_;refine qR 0 rfl<|rCi rfl (SE i.op)<|qRC 0 rfl<|cRg<|oR 4 rfl<|rV (.v (.int .u32 ((up4 s.pc:Nat):Int))) rfl<|oR 1 rfl<|rCi rfl (Yw i)<|rV (.agg [.v (.int .u32 ((s.pc:Nat):Int)),.v (.int .u32 ((up4 s.pc:Nat):Int)),.v (.int .i64 (wr i)),.v (.int .u32 0),.v (.int .u32 0),.v (.int .i64 0),.v (.bool false),.v (.int .i64 0),.v (.int .i64 0)]) rfl<|rAl 57 rfl rfl<|rSt rfl<|rE 59 ?_;refine qX 0 rfl<|rCi rfl (abF i s.pc a b hd.2.2.2.2.2.2 hs.pc ha hb)<|qR 0 rfl<|rW (.v (.bool ((kindOf i.op)==3))) rfl (okB (eqN _ _)) ?_;refine qR 0 rfl<|gBS (x:=.v (.bool ((kindOf i.op)==4))) rfl id (okB (eqN _ _))<|bO rfl rfl rfl (by simp) ?_;refine qRC 0 rfl<|cPr ((kindOf i.op)=3∨(kindOf i.op)=4) (wP _ _ pEq pEq) (λh6=>?_) (λh6=>?_)
 ·refine qC 0 rfl<|rV (.v (.int .u32 ((addrOf i a:Nat):Int))) rfl<|qR 0 rfl<|rCi rfl (abK i.op) ?_;refine qR 0 rfl<|rV (.v (.int .i64 (s.mem.size:Int))) rfl<|qR 0 rfl<|rCi rfl (abE s.mem.size (addrOf i a) (sizeOf' i.op) hs.mem (Ay i a) (lQ i.op)) ?_;refine qRC 0 rfl<|cPr (¬((kZ (s.mem.size:Int) (addrOf i a) ((sizeOf' i.op:Nat):Int))=true)) (abW Iff.rfl) (λh7=>?_) (λh7=>?_)
  ·refine qC 0 rfl<|rW (.v (.bool ((kindOf i.op)==3))) rfl (okB (eqN _ _)) ?_;refine qRC 0 rfl<|cEq (kindOf i.op) 3 (λh8=>?_) (λh8=>?_)
   ·refine qC 0 rfl<|rCi rfl (BK s (4) ((addrOf i a)) hs (Ay i a))<|qRF 0 rfl ?_;exact fT rfl (by unfold gE;rw[af1 (agD.1 h1),af1 (agD.1 h2),dZ (sR h3),hI2];unfold doI;rw[dZ h4,dZ h5,af1 h6,hA,hB];unfold sN;rw[dZ h7,dZ omT];rfl)
   refine qC 0 rfl<|rCi rfl (BK s (5) ((addrOf i a)) hs (Ay i a))<|qRF 0 rfl ?_;exact fT rfl (by unfold gE;rw[af1 (agD.1 h1),af1 (agD.1 h2),dZ (sR h3),hI2];unfold doI;rw[dZ h4,dZ h5,af1 h6,hA,hB];unfold sN;rw[dZ h7,af1 omT];rfl)
  refine qC 0 rfl<|rW (.v (.bool ((kindOf i.op)==4))) rfl (okB (eqN _ _)) ?_;refine qRC 0 rfl<|cEq (kindOf i.op) 4 (λh9=>?_) (λh9=>?_)
  ·refine qC 0 rfl<|rCi rfl (abJ b (sizeOf' i.op) hb (lQ i.op)) ?_;have hrt:=sQ (sU h7);refine qR 0 rfl<|rCi rfl (abC s.mem (addrOf i a) (oF b (sizeOf' i.op)) (by rw[mP];exact hrt.1) hs.mem (Ay i a) (by rw[mP];exact lQ i.op)) ?_;refine qR 0 rfl<|rCi rfl (aa9 _ (by rw[mP];exact lQ i.op))<|qRC 0 rfl<|pO rfl rfl ?_;refine oR 2 rfl<|rSt rfl<|rSt rfl<|rE 133<|And.intro (by kernel_rfl)<|qXF 0 rfl ?_;exact fT rfl (by unfold gE;rw[af1 (agD.1 h1),af1 (agD.1 h2),dZ (sR h3),hI2];unfold doI;rw[dZ h4,dZ h5,af1 h6,hA,hB];unfold sN;rw[af1 (agD.1 h7),af1 h9];rw[show(kindOf i.op==4)=true from pU.2 h9];rfl)
  refine qCC 0 rfl<|cRg<|oR 3 rfl ?_;have hrt:=sQ (sU h7);refine oR 5 rfl<|rCi rfl (ac1 s.mem (addrOf i a) (sizeOf' i.op) hrt.1 (Ay i a) (lQ i.op))<|rCi rfl (ac2 i.op _)<|oR 1 rfl<|rE 108<|qX 0 rfl<|rW (.v (.bool ((kindOf i.op)==5))) rfl (okB (eqN _ _)) ?_;refine qRC 0 rfl<|cEq (kindOf i.op) 5 (λh10=>absurd h10 (oH (oG i.op))) (λh10=>?_);refine qC 0 rfl<|rW (.v (.bool ((kindOf i.op)==2))) rfl (okB (eqN _ _)) ?_;refine qRC 0 rfl<|cEq (kindOf i.op) 2 (λh11=>absurd h11 (oH (oG i.op))) (λh11=>?_);refine qC 0 rfl<|rV (.v (.bool (decide ((wr i)>0)))) rfl ?_;refine qRC 0 rfl<|cPr ((wr i)>0) qW (λh12=>?_) (λh12=>?_)
  ·refine qC 0 rfl<|nW (.ptr 67 (1+(wr i).toNat*1)) rfl rfl omT<|Ow (h':=upd _ 67 (some (.box (stL s.pc (setR s.r ((wr i).toNat) (loadP i.op (Cv s.mem (addrOf i a) (sizeOf' i.op)))) s.mem s.halt)))) rfl rfl (Wc (n:=(wr i).toNat) (v:=loadP i.op (Cv s.mem (addrOf i a) (sizeOf' i.op))) (r:=s.r) rfl rfl rfl omT) (trivial) ?_;refine qRC 0 rfl<|pO rfl rfl<|oR 2 rfl<|rSt rfl<|rSt rfl<|rE 132<|And.intro (by kernel_rfl)<|qXF 0 rfl ?_;exact fT rfl (by unfold gE;rw[af1 (agD.1 h1),af1 (agD.1 h2),dZ (sR h3),hI2];unfold doI;rw[dZ h4,dZ h5,af1 h6,hA,hB];unfold sN;rw[af1 (agD.1 h7),dZ h9,dZ omT];rw[show(kindOf i.op==4)=false from beq_false_of_ne h9];rfl)
  refine qCC 0 rfl<|pO rfl rfl<|oR 2 rfl<|rSt rfl<|rSt rfl<|rE 123<|And.intro (by kernel_rfl)<|qXF 0 rfl ?_;exact fT rfl (by unfold gE;rw[af1 (agD.1 h1),af1 (agD.1 h2),dZ (sR h3),hI2];unfold doI;rw[dZ h4,dZ h5,af1 h6,hA,hB];unfold sN;rw[af1 (agD.1 h7),dZ h9,af1 omT];rw[show(kindOf i.op==4)=false from beq_false_of_ne h9];rfl)
 refine qC 0 rfl<|rW (.v (.bool ((kindOf i.op)==5))) rfl (okB (eqN _ _)) ?_;refine qRC 0 rfl<|cEq (kindOf i.op) 5 (λh13=>?_) (λh13=>?_)
 ·refine qC 0 rfl<|rCi rfl (adB i s.pc a b hd.2.2.2.2.2.2 hs.pc ha hb) ?_;have b1:(qP i.op i.agR s.pc a b)%4<=3:=aI (aQ _ dT);refine qR 0 rfl<|nW (.v (.int .u32 (((qP i.op i.agR s.pc a b)%4:Nat):Int))) rfl rfl dT<|rW (.v (.bool (((qP i.op i.agR s.pc a b)%4) != 0))) rfl (okB (neN _ _)) ?_;refine qRC 0 rfl<|cPr (¬((qP i.op i.agR s.pc a b)%4)=0) pNe (λh14=>?_) (λh14=>?_)
  ·refine qC 0 rfl<|rCi rfl (BK s (3) (0) hs dT)<|qRF 0 rfl ?_;exact fT rfl (by unfold gE;rw[af1 (agD.1 h1),af1 (agD.1 h2),dZ (sR h3),hI2];unfold doI;rw[dZ h4,dZ h5,dZ h6,hA,hB];unfold oN IJ;rw[af1 h13,dZ h14];rfl)
  refine qC 0 rfl<|rW (.v (.bool ((kindOf i.op)==2))) rfl (okB (eqN _ _)) ?_;refine qRC 0 rfl<|cEq (kindOf i.op) 2 (λh15=>absurd h15 (oH (oG i.op))) (λh15=>?_);refine qC 0 rfl<|rV (.v (.bool (decide ((wr i)>0)))) rfl ?_;refine qRC 0 rfl<|cPr ((wr i)>0) qW (λh16=>?_) (λh16=>?_)
  ·refine qC 0 rfl<|nW (.ptr 67 (1+(wr i).toNat*1)) rfl rfl omT<|Ow (h':=upd _ 67 (some (.box (stL s.pc (setR s.r ((wr i).toNat) (BF i.op i.agR s.pc a b)) s.mem s.halt)))) rfl rfl (Wc (n:=(wr i).toNat) (v:=BF i.op i.agR s.pc a b) (r:=s.r) rfl rfl rfl omT) (trivial) ?_;refine qRC 0 rfl<|pO rfl rfl<|oR 2 rfl<|rSt rfl<|rSt rfl<|rE 111<|And.intro (by kernel_rfl)<|qXF 0 rfl ?_;exact fT rfl (by unfold gE;rw[af1 (agD.1 h1),af1 (agD.1 h2),dZ (sR h3),hI2];unfold doI;rw[dZ h4,dZ h5,dZ h6,hA,hB];unfold oN IJ;rw[af1 h13,af1 (agD.1 h14),dZ omT];rfl)
  refine qCC 0 rfl<|pO rfl rfl<|oR 2 rfl<|rSt rfl<|rSt rfl<|rE 102<|And.intro (by kernel_rfl)<|qXF 0 rfl ?_;exact fT rfl (by unfold gE;rw[af1 (agD.1 h1),af1 (agD.1 h2),dZ (sR h3),hI2];unfold doI;rw[dZ h4,dZ h5,dZ h6,hA,hB];unfold oN IJ;rw[af1 h13,af1 (agD.1 h14),af1 omT];rfl)
 refine qC 0 rfl<|rW (.v (.bool ((kindOf i.op)==2))) rfl (okB (eqN _ _)) ?_;refine qRC 0 rfl<|cEq (kindOf i.op) 2 (λh17=>?_) (λh17=>?_)
 ·refine qC 0 rfl<|rCi rfl (ac3 i.op a b ha hb)<|qR 0 rfl<|rV (.v (.bool (decide ((wr i)>0)))) rfl ?_;refine qRC 0 rfl<|cPr ((wr i)>0) qW (λh18=>?_) (λh18=>?_)
  ·refine qC 0 rfl<|nW (.ptr 67 (1+(wr i).toNat*1)) rfl rfl omT<|Ow (h':=upd _ 67 (some (.box (stL s.pc (setR s.r ((wr i).toNat) (BF i.op i.agR s.pc a b)) s.mem s.halt)))) rfl rfl (Wc (n:=(wr i).toNat) (v:=BF i.op i.agR s.pc a b) (r:=s.r) rfl rfl rfl omT) (trivial) ?_;refine qRC 0 rfl<|pO rfl rfl<|oR 2 rfl<|rSt rfl<|rSt rfl<|rE 106<|And.intro (by kernel_rfl)<|qXF 0 rfl ?_;exact fT rfl (by unfold gE;rw[af1 (agD.1 h1),af1 (agD.1 h2),dZ (sR h3),hI2];unfold doI;rw[dZ h4,dZ h5,dZ h6,hA,hB];unfold oN IJ;rw[dZ h13,dZ omT,af1 h17];rfl)
  refine qCC 0 rfl<|pO rfl rfl<|oR 2 rfl<|rSt rfl<|rSt rfl<|rE 97<|And.intro (by kernel_rfl)<|qXF 0 rfl ?_;exact fT rfl (by unfold gE;rw[af1 (agD.1 h1),af1 (agD.1 h2),dZ (sR h3),hI2];unfold doI;rw[dZ h4,dZ h5,dZ h6,hA,hB];unfold oN IJ;rw[dZ h13,af1 omT,af1 h17];rfl)
 refine qC 0 rfl<|rV (.v (.bool (decide ((wr i)>0)))) rfl ?_;refine qRC 0 rfl<|cPr ((wr i)>0) qW (λh19=>?_) (λh19=>?_)
 ·refine qC 0 rfl<|nW (.ptr 67 (1+(wr i).toNat*1)) rfl rfl omT<|Ow (h':=upd _ 67 (some (.box (stL s.pc (setR s.r ((wr i).toNat) (BF i.op i.agR s.pc a b)) s.mem s.halt)))) rfl rfl (Wc (n:=(wr i).toNat) (v:=BF i.op i.agR s.pc a b) (r:=s.r) rfl rfl rfl omT) (trivial) ?_;refine qRC 0 rfl<|pO rfl rfl<|oR 2 rfl<|rSt rfl<|rSt rfl<|rE 99<|And.intro (by kernel_rfl)<|qXF 0 rfl ?_;exact fT rfl (by unfold gE;rw[af1 (agD.1 h1),af1 (agD.1 h2),dZ (sR h3),hI2];unfold doI;rw[dZ h4,dZ h5,dZ h6,hA,hB];unfold oN IJ;rw[dZ h13,dZ omT,dZ h17];rfl)
 refine qCC 0 rfl<|pO rfl rfl<|oR 2 rfl<|rSt rfl<|rSt rfl<|rE 90<|And.intro (by kernel_rfl)<|qXF 0 rfl ?_;exact fT rfl (by unfold gE;rw[af1 (agD.1 h1),af1 (agD.1 h2),dZ (sR h3),hI2];unfold doI;rw[dZ h4,dZ h5,dZ h6,hA,hB];unfold oN IJ;rw[dZ h13,af1 omT,dZ h17];rfl)
abbrev YM(x:St×Sp):List AV:=spL x.2
def aa2{prog:List Nat}{s:St}{k:Nat}(h:(stN prog s (cntN prog k s)).halt=0):cntN prog (k+1) s=cntN prog k s+1:=by
 have a:=AB prog k s;have b:=AB prog (k+1) s;have c:cntN prog k s=k:=af4 λq=>Dj omT h;refine af4 λq=>Dj (prog:=prog) (n:=k+1) (s:=s) omT ?_;rcases al_Nat_lt_or_ge (cntN prog (k+1) s) (cntN prog k s)with l|l
 ·exact Hd l
 rw[(oT:cntN prog (k+1) s=cntN prog k s)];exact h
def aa3{prog:List Nat}{s:St}{k:Nat}(h: ¬(stN prog s (cntN prog k s)).halt=0):cntN prog (k+1) s=cntN prog k s:=by
 have a:=AB prog k s;rcases Nat.lt_trichotomy (cntN prog (k+1) s) (cntN prog k s)with l|l|l
 ·exact absurd (Hd l) (Dj omT)
 ·exact l
 exact absurd (Hd l) h
def qL(prog:List Nat)(s:St)(k:Nat):List (List AV):=((xsN prog s (cntN prog k s)).map Prod.snd).map spL
def qSt(prog:List Nat)(s:St)(k:Nat):St:=stN prog s (cntN prog k s)
def Jn{prog:List Nat}{s:St}{k:Nat}(h:(qSt prog s k).halt=0):qL prog s (k+1)=qL prog s k++[YM (gE prog (qSt prog s k))]:=by
 unfold qL;rw[aa2 h, <-KW,dH,dH];rfl
def Sr{prog:List Nat}{s:St}{k:Nat}(h:(qSt prog s k).halt=0):qSt prog s (k+1)=(gE prog (qSt prog s k)).1:=by
 unfold qSt;rw[aa2 h];rfl
def Ss{prog:List Nat}{s:St}{k:Nat}(h: ¬(qSt prog s k).halt=0):qL prog s (k+1)=qL prog s k:=by
 unfold qL;rw[aa3 h]
def Yo{prog:List Nat}{s:St}{k:Nat}(h: ¬(qSt prog s k).halt=0):qSt prog s (k+1)=qSt prog s k:=by
 unfold qSt;rw[aa3 h]
def aa4{prog:List Nat}{s:St}(k:Nat)(h:s.ok):(qSt prog s k).ok:=Si h _
def aa5(prog:List Nat)(s:St)(k:Nat):(qL prog s k).length<=k:=by
 unfold qL;rw[aH,aH,afO];exact AB prog k s
def NV(prog:List Nat)(s:St)(k:Nat):(List.take (qL prog s k).length (List.drop 0 (qL prog s k)))=qL prog s k:=by rw[bS,cH]
def Yp{S:Nat->Prop}{w:World}{v:Value}(h:Rep S w noB (.sl 9 [] true) v):Rep S w noB (.sl 9 [] false) v:=by
 cases h with
 |sl _ _ _ A c b o u hc hm hcl hrs hA hw h1 hr=>exact .sl 9 [] false A c b o u hc hm (λh=>by cases h) hrs hA hw h1 hr
def Yq{S:Nat->Prop}{w:World}{v:Value}{x:AV}(h:Rep S w noB (.tup [x,.sl 9 [] true]) v):Rep S w noB (.tup [x,.sl 9 [] false]) v:=by
 cases h with
 |tup _ vs hl h=>
  refine .tup _ vs hl λi a u p q=>?_
  match i,p with
  |0,p=>exact h 0 a u p q
  |1,p=>injection p with p;subst p;exact Yp (h 1 _ u rfl q)
  |i+2,p=>simp at p
def FB{a b:Bool}(h:cE a b false=true):a=true∧b=true:=by cases a<;>cases b<;>simp_all[cE]
def Hf{p q:Prop}[Decidable p][Decidable q](h:cE (decide p) (decide q) false=false): ¬p∨ ¬q:=by by_cases hp:p<;>by_cases hq:q<;>simp_all[cE]
def aeU(prog:List Nat)(m:ByteArray)(n:Int)(clip:Bool)(hp:∀x∈prog,x<=4294967295)(hl:prog.length<=1000000):bI C0 6 [.sl 1 (prog.map dU) clip,.v (.string m),.v (.int .i64 n)] (.tup [stA (afP (newSt m) (xsN prog (newSt m) (cntN prog (min n 10000).toNat (newSt m)))),.sl 9 (((xsN prog (newSt m) (cntN prog (min n 10000).toNat (newSt m))).map Prod.snd).map spL) false]):=by
 rw[Jj];change bI C0 _ _ (.tup [stA (qSt prog (newSt m) (min n 10000).toNat),.sl 9 (qL prog (newSt m) (min n 10000).toNat) false]);refine dI func6 ?_;obtain⟨Z,hZe⟩:∃z,newSt m=z:=⟨_,rfl⟩;have hZ:Z.ok:=hZe ▸ Jk m;have hZ0:(qSt prog Z 0).halt=0:=by rw[<-hZe];rfl
 rw[hZe];refine qS 0 rfl<|rCi rfl (abD m)<|zV (.agg (stL 0 (λ_=>0) (jB m) 0))<|zV (.sl 9 ([]) true) ?_;refine jR (κ:=Nat) (λk=>match k with|0=>⟨slotsF [(0,.sl 1 (prog.map dU) clip),(2,.v (.int .i64 n)),(8,.ptr 5 0),(6,.ptr 0 0),(9,.sl 9 ([]) true),(10,.v (.int .i64 ((0:Nat):Int)))],heapF [(5,.box (stL ((qSt prog Z 0).pc) ((qSt prog Z 0).r) ((qSt prog Z 0).mem) ((qSt prog Z 0).halt))),(0,.box (stL 0 (λ_=>0) (⟨#[]⟩:ByteArray) 0))],10⟩|k+1=>⟨slotsF [(0,.sl 1 (prog.map dU) clip),(2,.v (.int .i64 n)),(8,.ptr 5 0),(6,.ptr 0 0),(9,.osl 10 0 ((qL prog Z (k+1)).length) false),(10,.v (.int .i64 (((k+1):Nat):Int)))],heapF [(5,.box (stL ((qSt prog Z (k+1)).pc) ((qSt prog Z (k+1)).r) ((qSt prog Z (k+1)).mem) ((qSt prog Z (k+1)).halt))),(0,.box (stL 0 (λ_=>0) (⟨#[]⟩:ByteArray) 0)),(10,.arr (qL prog Z (k+1)) 9)],11⟩) (λk=>k<=10000∧(k=0∨(k:Int)<=n)) (λk=>10000-k) 0 (λs=>s) (wOL (λs=>s) wT ⟨⟨rfl,af2 (λs:St=>some (Blk.box (stL s.pc s.r s.mem s.halt))) hZe,rfl⟩,⟨rfl,rfl,rfl⟩,trivial⟩ rfl) (⟨aE _,.inl rfl⟩) ?_;intro k hk;rcases k with _|k
 ·refine qS 0 rfl<|zV (.v (.bool (decide (((0:Nat):Int)<n))))<|gBS (x:=.v (.bool (decide (0<10000)))) rfl id (okB (ltN _ _))<|zN rfl (λh=>h) ?_;refine zB rfl (λh1=>?_) (λh1=>?_)
  ·refine zV (.v (.bool (((qSt prog Z 0).halt)==0))) ?_;refine zB rfl (λ_=>?_) (λh2=>by exact absurd hZ0 (sU h2));refine zC (aa6 prog (qSt prog Z 0) clip hp hl (aa4 0 hZ)) ?_;refine rV (.sl 9 ([[.v (.int .u32 ((((gE prog (qSt prog Z 0)).2).pc:Nat):Int)),.v (.int .u32 ((((gE prog (qSt prog Z 0)).2).next:Nat):Int)),.v (.int .i64 (((gE prog (qSt prog Z 0)).2).rd)),.v (.int .u32 ((((gE prog (qSt prog Z 0)).2).value:Nat):Int)),.v (.int .u32 ((((gE prog (qSt prog Z 0)).2).agZ:Nat):Int)),.v (.int .i64 (((gE prog (qSt prog Z 0)).2).size)),.v (.bool (((gE prog (qSt prog Z 0)).2).store)),.v (.int .i64 (((gE prog (qSt prog Z 0)).2).halt)),.v (.int .i64 (((gE prog (qSt prog Z 0)).2).agV))]]) true) rfl<|zF (x:=.osl 35 0 1 false) (h':=upd _ 35 (some (.arr ([YM (gE prog (qSt prog Z 0))]) 9))) (rfl) (⟨by show 1<=1000000;decide,Nat.zero_lt_one,trivial,trivial⟩)<|zV (.v (.int .i64 (IntKind.wrap .i64 (((0:Nat):Int)+1)))) ?_;have q:=FB h1;have q1:=af0 q.1;have q2:=af0 q.2;refine⟨0+1,λs=>match s with|10=>35|s=>s,wOL _ ⟨⟨rfl,rfl⟩,⟨rfl,rfl⟩,⟨rfl,rfl⟩,⟨rfl,rfl⟩,⟨af2 (λz=>AV.osl 35 0 z false) (show 1=(qL prog Z (0+1)).length from by rw[Jn hZ0];rfl),rfl⟩,⟨af2 (λz:Int=>AV.v (.int .i64 z)) (show IntKind.wrap .i64 (((0:Nat):Int)+1)=((0+1:Nat):Int)from by rw[wrap_i64 omT omT];omega),rfl⟩,trivial⟩ ⟨⟨rfl,af2 (λs:St=>some (Blk.box (stL s.pc s.r s.mem s.halt))) (Sr hZ0).symm,rfl⟩,⟨rfl,rfl,rfl⟩,⟨rfl,af2 (λz=>some (Blk.arr z 9)) (show [YM (gE prog (qSt prog Z 0))]=qL prog Z (0+1)from by rw[Jn hZ0];rfl),rfl⟩,trivial⟩ rfl,omT,(by show(10000-(0+1):Nat)<10000-0;omega)⟩
  refine qXF 0 rfl ?_;have hc:(min n 10000).toNat=0:=by have q:=Hf h1;have:=hk;omega
  refine⟨_,rfl,trivial,rfl,λS w v hv=>?_⟩;rw[hc];exact Yq hv
 refine qS 0 rfl<|zV (.v (.bool (decide ((((k+1):Nat):Int)<n))))<|gBS (x:=.v (.bool (decide ((k+1)<10000)))) rfl id (okB (ltN _ _))<|zN rfl (λh=>h) ?_;refine zB rfl (λh3=>?_) (λh3=>?_)
 ·refine zV (.v (.bool (((qSt prog Z (k+1)).halt)==0))) ?_;refine zB rfl (λh4=>?_) (λh4=>?_)
  all_goals
   first|(refine zC (aa6 prog (qSt prog Z (k+1)) clip hp hl (aa4 (k+1) hZ)) ?_;refine rV (.sl 9 ([[.v (.int .u32 ((((gE prog (qSt prog Z (k+1))).2).pc:Nat):Int)),.v (.int .u32 ((((gE prog (qSt prog Z (k+1))).2).next:Nat):Int)),.v (.int .i64 (((gE prog (qSt prog Z (k+1))).2).rd)),.v (.int .u32 ((((gE prog (qSt prog Z (k+1))).2).value:Nat):Int)),.v (.int .u32 ((((gE prog (qSt prog Z (k+1))).2).agZ:Nat):Int)),.v (.int .i64 (((gE prog (qSt prog Z (k+1))).2).size)),.v (.bool (((gE prog (qSt prog Z (k+1))).2).store)),.v (.int .i64 (((gE prog (qSt prog Z (k+1))).2).halt)),.v (.int .i64 (((gE prog (qSt prog Z (k+1))).2).agV))]]) true) rfl ?_;refine zF (x:=.osl 36 0 ((List.take (qL prog Z (k+1)).length (List.drop 0 (qL prog Z (k+1)))).length+([YM (gE prog (qSt prog Z (k+1)))]:List (List AV)).length) false) (h':=upd (upd _ 10 none) 36 (some (.arr (List.take (qL prog Z (k+1)).length (List.drop 0 (qL prog Z (k+1)))++[YM (gE prog (qSt prog Z (k+1)))]) 9))) (rfl) (⟨by show(List.take (qL prog Z (k+1)).length (List.drop 0 (qL prog Z (k+1)))).length+1<=1000000;rw[NV];have:=aa5 prog Z (k+1);have:=hk;omega,by show 0+(qL prog Z (k+1)).length=(qL prog Z (k+1)).length;omega,trivial⟩) ?_)|skip
   refine zV (.v (.int .i64 (IntKind.wrap .i64 ((((k+1):Nat):Int)+1)))) ?_;have q:=FB h3;have q1:=af0 q.1;have q2:=af0 q.2
   first|(refine⟨(k+1)+1,λs=>match s with|10=>36|s=>s,wOL _ ⟨⟨rfl,rfl⟩,⟨rfl,rfl⟩,⟨rfl,rfl⟩,⟨rfl,rfl⟩,⟨af2 (λz=>AV.osl 36 0 z false) (show(List.take (qL prog Z (k+1)).length (List.drop 0 (qL prog Z (k+1)))).length+1=(qL prog Z ((k+1)+1)).length from by rw[NV,Jn (sU h4:(qSt prog Z (k+1)).halt=0)];simp),rfl⟩,⟨af2 (λz:Int=>AV.v (.int .i64 z)) (show IntKind.wrap .i64 ((((k+1):Nat):Int)+1)=(((k+1)+1:Nat):Int)from by rw[wrap_i64 omT omT];omega),rfl⟩,trivial⟩ ⟨⟨rfl,af2 (λs:St=>some (Blk.box (stL s.pc s.r s.mem s.halt))) (Sr (sU h4:(qSt prog Z (k+1)).halt=0)).symm,rfl⟩,⟨rfl,rfl,rfl⟩,⟨rfl,af2 (λz=>some (Blk.arr z 9)) (show List.take (qL prog Z (k+1)).length (List.drop 0 (qL prog Z (k+1)))++[YM (gE prog (qSt prog Z (k+1)))]=qL prog Z ((k+1)+1)from by rw[NV,Jn (sU h4:(qSt prog Z (k+1)).halt=0)]),rfl⟩,trivial⟩ rfl,omT,(by show(10000-((k+1)+1):Nat)<10000-(k+1);omega)⟩)|(refine⟨(k+1)+1,λs=>s,wOL _ ⟨⟨rfl,rfl⟩,⟨rfl,rfl⟩,⟨rfl,rfl⟩,⟨rfl,rfl⟩,⟨af2 (λz=>AV.osl 10 0 (List.length z) false) (show(qL prog Z (k+1))=qL prog Z ((k+1)+1)from(Ss (sU h4:¬(qSt prog Z (k+1)).halt=0)).symm),rfl⟩,⟨af2 (λz:Int=>AV.v (.int .i64 z)) (show IntKind.wrap .i64 ((((k+1):Nat):Int)+1)=(((k+1)+1:Nat):Int)from by rw[wrap_i64 omT omT];omega),rfl⟩,trivial⟩ ⟨⟨rfl,af2 (λs:St=>some (Blk.box (stL s.pc s.r s.mem s.halt))) (Yo (sU h4:¬(qSt prog Z (k+1)).halt=0)).symm,rfl⟩,⟨rfl,rfl,rfl⟩,⟨rfl,af2 (λz=>some (Blk.arr z 9)) (show(qL prog Z (k+1))=qL prog Z ((k+1)+1)from(Ss (sU h4:¬(qSt prog Z (k+1)).halt=0)).symm),rfl⟩,trivial⟩ rfl,omT,(by show(10000-((k+1)+1):Nat)<10000-(k+1);omega)⟩)
 refine qXF 0 rfl ?_;have hc:(min n 10000).toNat=(k+1):=by have q:=Hf h3;have:=hk;omega
 refine qY rfl ⟨tvT,Nat.le_of_eq (bJ _),trivial⟩ rfl ?_;rw[hc];show AV.tup [stA (qSt prog Z (k+1)),.sl 9 (List.take (qL prog Z (k+1)).length (List.drop 0 (qL prog Z (k+1)))) false]=_;rw[NV]
def RY(prog:List Nat){s:St}(h:s.halt=0):(gE prog s).1.halt=(gE prog s).2.halt:=by
 unfold gE;rw[af1 h];unfold doI sN oN IJ Gc
 (repeat' split)<;>first|rfl|exact h
theorem Hc:∀(l:List Seen) (k:Nat),uI l l k= -1
 |[],_=>rfl
 |x::l,k=>by simp only[uI,Mo,fD,Hc l]
def NR{prog:List Nat}{m:ByteArray}{f:Int}(h1:0<f)(h2:f<=10000)(h: ¬((cntN prog (min f 10000).toNat (newSt m):Nat):Int)>=f):(afP (newSt m) (xsN prog (newSt m) (cntN prog (min f 10000).toNat (newSt m)))).halt≠0:=by
 rw[Jj];exact Dj omT
def Vd(prog:List Nat)(m:ByteArray)(f:Int)(ld:Bool)(p:Nat)(h1:0<f)(h2:f<=10000):Vf (CJ prog m f ld) (CJ prog m f ld) f p p=true:=by
 have h3:=NR (prog:=prog) (m:=m) h1 h2;unfold Vf;rw[Di];simp only[ne_eq,not_true_eq_false,eE];have hl:(CJ prog m f ld).length=cntN prog (min f 10000).toNat (newSt m):=by unfold CJ;rw[aH,aH,afO]
 rw[hl];by_cases hf:((cntN prog (min f 10000).toNat (newSt m):Nat):Int)>=f
 ·rw[af1 hf]
 rw[dZ hf];have h4:=h3 hf;rw[Jj]at h4;unfold CJ;generalize hC:cntN prog (min f 10000).toNat (newSt m)=C at *;rcases C with _|C
 ·exact absurd rfl h4
 have h5:=RY prog (Hd (n:=(min f 10000).toNat) (s:=newSt m) (prog:=prog) (k:=C) omT);have h6:(xsN prog (newSt m) (C+1))[C]?=some (gE prog (stN prog (newSt m) C)):=by
  rw[<-KW,bM (by rw[afO];exact aC _),afO,eK];rfl
 rw[kB,aX,aX,h6];have h7:(gE prog (stN prog (newSt m) C)).2.halt≠0:=h5 ▸ h4;simp[evP,h7]
def RZ(cf:Cf)(prog:List Nat)(m:ByteArray)(n:Int)(ld:Bool)(hc:cf.ok)(hp:∀x∈prog,x<=4294967295)(hl:prog.length<=9223372036854775807)(hm:m.size<=9223372036854775807):bI C0 3 [.agg (cfL cf false false),.sl 1 (prog.map dU) false,.v (.string m),vI n,vB ld] (vB true):=by
 refine dJ func3 ?_;obtain⟨N,hNe⟩:∃N,N=upTo n 120:=⟨_,rfl⟩;have hNi:(if(120:Int)<max n 0 then(120:Int)else max n 0)=(N:Int):=hNe ▸ Yn n 120;have hN:N<=120:=hNe ▸ Ym _ _;have hl2:(Bj prog).length<=1000:=by unfold Bj;rw[aM];omega
 have hp2:=zD (P:=λx=>x<=4294967295) (n:=min prog.length 64) hp;have hT:=acT cf (Bj prog) (Bk m) (Bk m) (N:Nat) ld hc hp2 hl2;have hF:=adR cf (N:Nat) hc;have hR:=aeU (Bj prog) (Bk m) (yM cf (N:Nat)) false hp2 (aL hl2 dT);have hm1:=Sd cf (N:Nat);have hr1:=Se cf;have hf0:0<yM cf (N:Nat)∧yM cf (N:Nat)<=10000:=by unfold yM;omega
 have he:=NR (prog:=Bj prog) (m:=Bk m) hf0.1 hf0.2;rw[Vd _ _ _ _ _ hf0.1 hf0.2,Di,Hc]at hT;have hle:(CJ (Bj prog) (Bk m) (yM cf (N:Nat)) ld).length=((xsN (Bj prog) (newSt (Bk m)) (cntN (Bj prog) (min (yM cf (N:Nat)) 10000).toNat (newSt (Bk m)))).map Prod.snd).length:=by unfold CJ;rw[aH]
 have hLB:((xsN (Bj prog) (newSt (Bk m)) (cntN (Bj prog) (min (yM cf (N:Nat)) 10000).toNat (newSt (Bk m)))).map Prod.snd).length<=10000:=hle ▸ Ji ..;have hcl:((xsN (Bj prog) (newSt (Bk m)) (cntN (Bj prog) (min (yM cf (N:Nat)) 10000).toNat (newSt (Bk m)))).map Prod.snd).length=cntN (Bj prog) (min (yM cf (N:Nat)) 10000).toNat (newSt (Bk m)):=by rw[aH,afO]
 rw[hle]at hT;generalize hZe:afP _ _=Z at hR he;rw[<-hcl]at he;generalize (xsN (Bj prog) (newSt (Bk m)) (cntN (Bj prog) (min (yM cf (N:Nat)) 10000).toNat (newSt (Bk m)))).map Prod.snd=L at *;generalize yM cf (N:Nat)=F at *;obtain⟨K1,hK1e⟩:∃z,z=L.length:=⟨_,rfl⟩;rw[<-hK1e]at hT he;have hK1:K1<=10000:=hK1e ▸ hLB;clear hm1 hr1 hcl hle hZe;refine qS 0 rfl<|zC (Yd prog m ⟨#[]⟩ hl hm dT)<|rW _ rfl (okI (We n 0))<|zW _ (okI hNi) ?_;refine zC (hT)<|rCi rfl (hF)<|zC (hR) ?_;refine cRg<|rCi rfl (Yc)<|oR 1 rfl<|gN rfl<|gS rfl id<|gBS (x:=vB ((-1)==(-1))) rfl id rfl<|bO rfl rfl rfl (λh=>h)<|oR 1 rfl<|gN rfl<|gS rfl id<|gN rfl<|gBS (x:=vN L.length) rfl id (cD spL L) ?_;refine gBS (x:=vB (K1==L.length)) rfl hsT (okB (eqN _ _))<|bO rfl rfl rfl (λh=>h)<|oR 1 rfl<|gN rfl<|gS rfl id<|gN rfl<|gS rfl id<|gBS (x:=vB (Z.halt != 0)) rfl id rfl<|gS rfl id<|gN rfl<|gBS (x:=vN L.length) rfl id (cD spL L)<|gN rfl<|gN rfl<|jQ (args:=[.agg [vI cf.mode,vI cf.agN,vI cf.agI,vI cf.queue,vI cf.agF,vI cf.agP,vI cf.agJ,vI cf.ways,.sl 1 (cf.agW.map ae4) false,vB cf.tables,.sl 1 (cf.tape.map dU) false],vN N]) (x:=vI F) (g:=(cE (cE true ((-1)==(-1)) false) (K1==L.length) false)&&(!(Z.halt != 0))) rfl rfl rfl rfl hsT rfl rfl rfl (.inl rfl) rfl (λhg=>hF)<|gBS (x:=vB (decide (((L.length:Nat):Int)>=F))) rfl hsT rfl<|pB (x:=vB (cE (Z.halt != 0) true (decide (((L.length:Nat):Int)>=F)))) (g:=cE (cE true ((-1)==(-1)) false) (K1==L.length) false) rfl rfl rfl rfl (λh=>h) rfl rfl (λhg hc=>by first|(rw[hg,hc];rfl)|simp_all) ?_;refine gBS (x:=vB (true==(cE (Z.halt != 0) true (decide (((L.length:Nat):Int)>=F))))) rfl hsT rfl<|bO rfl rfl rfl (λh=>h)<|oR 1 rfl<|rE 66<|qXF 0 rfl ?_;exact fT rfl (dR (by by_cases hZ0:Z.halt=0<;>by_cases hg:F<=(K1:Int)<;>simp[c2a,c2o, <-hK1e,hZ0,hg]<;>first|omega|(exact absurd hZ0 (he omT))|grind))
end Go.Proofs.YtchifhhdlhicjaaGreatDoor
